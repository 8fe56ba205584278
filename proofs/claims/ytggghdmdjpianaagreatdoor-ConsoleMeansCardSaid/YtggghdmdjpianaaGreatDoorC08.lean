/- A part of the proof: Vb, Vc, Vd, Ve, Mb, Ja. -/
import Derived.Test.YtggghdmdjpianaaGreatDoorC07
import Derived.Lib.Hide
import Derived.Test.YtggghdmdjpianaaGreatDoorC05
set_option linter.unusedSimpArgs false
set_option linter.unusedVariables false
set_option maxRecDepth 200000
set_option maxHeartbeats 8000000
namespace Go.Proofs.YtggghdmdjpianaaGreatDoor
section
open Go Go.Ab Go.Ab.Sy
variable {s:ByteArray}{T:List Tok}{q n gx gy s0 gl:Nat}
theorem BY{e:Int}(D:Nat)(hD:2<=D)(d:Nat)(hp1:Hp)(hs:s≠⟨#[]⟩)(hr:Rd T e q gx gy n hp1):HB P0 Un (Lm bX) D d 220 [.ptr ⟨1,q,0⟩ gx 0,tv s] hp1 (fun v If=>(v=bv false/\ ¬Ig T n=s/\Rd T e q gx gy n If/\mZ D q hp1 If)\/(v=bv true/\Ig T n=s/\n<T.length/\Rd T e q gx gy (n+1) If/\mZ D q hp1 If)) (fun _ _=>False):=by
 obtain⟨k,rfl⟩: ∃k,D=k+2:=⟨D - 2,Zo⟩;clear hD;refine hB (k1:=k+3) (PR:=fun _ _=>False) Tryz.func220 rfl ?_;obtain⟨h1,h2,Ij,aI⟩:=hr;have w1:IntKind.i64.wrap ((n:Int)+1)=(n:Int)+1:=Iw Zo
 repeat' (first|refine ZN ?_|refine Z2 ?_ ?_|(intro h h';try simp[*,-h] at h')|((with_reducible apply Ap (f:=297));exact Zv;apply BM (k+3) Zo;exact Zw;(rintro _ If ⟨rfl,⟨Ul,cT,_,_⟩,Ic⟩;have U1:=Ic.own Zo;have aB:=Ic.all (k:=k+2) Zo;clear Ic))|fail)
 ·left
  exact⟨rfl,by assumption,⟨Zm,Zm,Ij,aI⟩,fun d i c hd Ir=>by have Uc:d≠k+3:=Zo;simp[*]⟩
 ·right
  have hq:Ig T n=s:=by assumption
  have hn:n<T.length:=Oc hq hs;exact⟨rfl,hq,hn,⟨Zm,Zm,Ij,hn⟩,fun d i c hd Ir=>by have Uc:d≠k+3:=Zo;simp[*]⟩
theorem take{e:Int}{kd:Int}(D:Nat)(hD:2<=D)(d:Nat)(hp1:Hp)(hs:kd≠0)(hr:Rd T e q gx gy n hp1):HB P0 Un (Lm bX) D d 222 [.ptr ⟨1,q,0⟩ gx 0,iv kd] hp1 (fun v If=> ∃t:Tok,v= .agg t.row/\bW T kd n=some (t,n+1)/\n<T.length/\Rd T e q gx gy (n+1) If/\mZ D q hp1 If) (Wn D q hp1 (bW T kd n=none)):=by
 obtain⟨k,rfl⟩: ∃k,D=k+2:=⟨D - 2,Zo⟩;clear hD;refine hZ (k1:=k+3) (PR:=Wn (k+2) q hp1 (bW T kd n=none)) Tryz.func222 rfl ?_;obtain⟨h1,h2,Ij,aI⟩:=hr;have w1:IntKind.i64.wrap ((n:Int)+1)=(n:Int)+1:=Iw Zo;by_cases AK:cG T n=kd
 ·have hn:n<T.length:=H4a AK hs
  have e1:(n:Int)<T.length:=Zo;have dN:=Lib.hid (Bda AK hn);have e3:T[n]?=some T[n]:=Bs hn;generalize hq:T[n]=t at*;obtain⟨tk,tt,tn,ta⟩:=t
  repeat' (first|refine ZN ?_|refine Z2 ?_ ?_|(intro h h';try simp[*,-h] at h')|((with_reducible apply Ap (f:=298));exact Zv;apply kind (k+3) Zo;exact Zw;(rintro _ If ⟨rfl,⟨Ul,cT,_,_⟩,Ic⟩;have U1:=Ic.own Zo;have aB:=Ic.all (k:=k+2) Zo;clear Ic))|fail)
  all_goals exact⟨⟨tk,tt,tn,ta⟩,rfl,dN.out,hn,⟨Zm,Zm,Ij,hn⟩,fun d i c hd Ir=>by have Uc:d≠k+3:=Zo;simp[*]⟩
 ·have dN:=Lib.hid (Ss AK)
  repeat' (first|refine ZN ?_|refine Z2 ?_ ?_|(intro h h';try simp[*,-h] at h')|(exact⟨⟨⟨_,rfl⟩,fun d i c hd Ir=>(U7 d i c Zo Ir).trans (by have Uc:d≠k+3:=Zo;first|exact HF.out d i c hd Ir|(simp[*];done)|(simp[*];exact HF.out d i c hd Ir))⟩,by exact dN.out⟩)|((with_reducible apply Ap (f:=298));exact Zv;apply kind (k+3) Zo;exact Zw;(rintro _ If ⟨rfl,⟨Ul,cT,_,_⟩,Ic⟩;have U1:=Ic.own Zo;have aB:=Ic.all (k:=k+2) Zo;clear Ic))|((with_reducible apply Aq (f:=219));exact Zv;apply fail (k+3) Zo;exact Zw;rotate_left;rintro _ dG ⟨⟨a,rfl⟩,U7⟩;rotate_right;(rintro _ _ Ic;exact Ic.elim))|fail)
theorem must{e:Int}{l:List ByteArray}(D:Nat)(hD:2<=D)(d:Nat)(hp1:Hp)(hs: ∀s∈l,s≠⟨#[]⟩)(hl:l.length<=8)(nW:hp1 ⟨D,s0,0⟩= .arr gl 1 9 (BF l) false)(hr:Rd T e q gx gy n hp1):HB P0 Un (Lm bX) D d 223 [.ptr ⟨1,q,0⟩ gx 0,.own ⟨D,s0,0⟩ gl l.length] hp1 (fun v If=>v= .tup []/\jP T l n=some (n+l.length)/\n+l.length<=T.length/\Rd T e q gx gy (n+l.length) If/\mZ D q hp1 If) (Wn D q hp1 (jP T l n=none)):=by
 obtain⟨k,rfl⟩: ∃k,D=k+2:=⟨D - 2,Zo⟩;clear hD;refine hB (k1:=k+3) (PR:=Wn (k+2) q hp1 (jP T l n=none)) Tryz.func223 rfl ?_;obtain⟨h1,h2,Ij,aI⟩:=hr;have w1: ∀i:Nat,i<=1048576->IntKind.i64.wrap ((i:Int)+1)=(i:Int)+1:=fun i hi=>Iw Zo
 repeat' (first|refine ZN ?_|refine Z2 ?_ ?_|(intro h h';try simp[*,-h] at h')|((with_reducible apply Ap (f:=297));exact Zv;apply BM (k+3) Zo;exact Zw;(rintro _ If ⟨rfl,⟨Ul,cT,_,_⟩,Ic⟩;have U1:=Ic.own Zo;have aB:=Ic.all (k:=k+2) Zo;clear Ic))|((with_reducible apply Aq (f:=219));exact Zv;apply fail (k+3) Zo;exact Zw;rotate_left;rintro _ dG ⟨⟨a,rfl⟩,U7⟩;rotate_right;(rintro _ _ Ic;exact Ic.elim))|fail)
 refine Ac (n:=l.length) (fun s0 m s=> ∃i:Nat,m=l.length - i/\i<=l.length/\n+i<=T.length/\jP T l n=jP T (l.drop i) (n+i)/\s.fr 8=iv i/\s.fr 6=s0.fr 6/\s.fr 7=s0.fr 7/\s.fr 0=s0.fr 0/\Rd T e q gx gy (n+i) s.hp/\mZ (k+2) q hp1 s.hp) ⟨0,Zi,Zo,Zo,Zi,Zi,Zi,Zi,Zi,⟨Zm,Zm,Ij,aI⟩,fun d i c hd Ir=>by have Uc:d≠k+3:=Zo;simp[*]⟩ ?_;rintro m ⟨fr,hp⟩ ⟨i,rfl,hi,iQ,hml,f8,f6,f7,f0,⟨hb,ha,_,_⟩,Uf⟩;simp at f8 f6 f7 f0 hb ha Uf;have hlo:hp ⟨k+2,s0,0⟩= .arr gl 1 9 (BF l) false:=(Uf _ _ _ (D5 _) Zi).trans nW;clear h1 h2 nW;have HM:=Lib.hid hml;clear hml;by_cases Ii:i<l.length
 ·have hg:l[i]?=some l[i]:=Bs Ii
  have hz:=hs _ (oY Ii);generalize hq:l[i]=t at*;have hY:=Lib.hid fun h=>HM.out.trans (Hja (T:=T) (n:=n+i) hg h)
  have hN:=Lib.hid fun h=>HM.out.trans (Hia (T:=T) (n:=n+i) hg h)
  have e1:(i:Int)<l.length:=Zo;have w2:=w1 i Zo;have w3:IntKind.i64.wrap ((n:Int)+i+1)=(n:Int)+i+1:=by have:=w1 (n+i) Zo;rw[Int.natCast_add] at this;exact this
  have HF:=Lib.hid Uf;clear Uf
  repeat' (first|refine ZN ?_|refine Z2 ?_ ?_|(intro h h';try simp[*,-h] at h')|(exact⟨⟨⟨_,rfl⟩,fun d i c hd Ir=>(U7 d i c Zo Ir).trans (by have Uc:d≠k+3:=Zo;first|exact HF.out d i c hd Ir|(simp[*];done)|(simp[*];exact HF.out d i c hd Ir))⟩,by exact hN.out (by assumption)⟩)|((with_reducible apply Ap (f:=297));exact Zv;apply BM (k+3) Zo;exact Zw;(rintro _ If ⟨rfl,⟨Ul,cT,_,_⟩,Ic⟩;have U1:=Ic.own Zo;have aB:=Ic.all (k:=k+2) Zo;clear Ic))|((with_reducible apply Aq (f:=219));exact Zv;apply fail (k+3) Zo;exact Zw;rotate_left;rintro _ dG ⟨⟨a,rfl⟩,U7⟩;rotate_right;(rintro _ _ Ic;exact Ic.elim))|fail)
  have hn:n+i<T.length:=Oc (by assumption) hz;have Uf:=HF.out;exact⟨l.length - (i+1),Zo,i+1,rfl,Zo,Zo,hY.out (by assumption),Zi,Zm,Zm,Zm,⟨by simp[*];try omega,Zm,Ij,Zo⟩,fun d i c hd Ir=>by have Uc:d≠k+3:=Zo;simp[*];exact Uf d i c hd Ir⟩
 ·obtain rfl:i=l.length:=Zo
  have e1: ¬(l.length:Int)<l.length:=Zo;have HF:=Lib.hid Uf;clear Uf;have hE:jP T l n=some (n+l.length):=by rw[HM.out,List.drop_length];rfl
  have HE:=Lib.hid hE;clear hE
  repeat' (first|refine ZN ?_|refine Z2 ?_ ?_|(intro h h';try simp[*,-h] at h')|((with_reducible apply Ap (f:=297));exact Zv;apply BM (k+3) Zo;exact Zw;(rintro _ If ⟨rfl,⟨Ul,cT,_,_⟩,Ic⟩;have U1:=Ic.own Zo;have aB:=Ic.all (k:=k+2) Zo;clear Ic))|((with_reducible apply Aq (f:=219));exact Zv;apply fail (k+3) Zo;exact Zw;rotate_left;rintro _ dG ⟨⟨a,rfl⟩,U7⟩;rotate_right;(rintro _ _ Ic;exact Ic.elim))|fail)
  exact⟨rfl,HE.out,iQ,⟨Zm,Zm,Ij,iQ⟩,HF.out⟩
theorem D8 (l:List Tx):(Ib l).take l.length=Ib l:=by rw[Kb Zi]
theorem tN{e:Int}(D:Nat)(hD:2<=D)(d:Nat)(hp1:Hp)(hr:Rd T e q gx gy n hp1):HB P0 Un (Lm bX) D d 221 [.ptr ⟨1,q,0⟩ gx 0] hp1 (fun v If=> ∃(l:List Tx) (n2:Nat),v= .sl false 1 (Ib l)/\eA T n=some (l,n2)/\n+l.length<=n2/\n<n2/\Rd T e q gx gy n2 If/\mZ D q hp1 If) (Wn D q hp1 (eA T n=none)):=by
 obtain⟨k,rfl⟩: ∃k,D=k+2:=⟨D - 2,Zo⟩;clear hD;refine hZ (k1:=k+3) (PR:=Wn (k+2) q hp1 (eA T n=none)) Tryz.func221 rfl ?_;obtain⟨h1,h2,Ij,aI⟩:=hr
 repeat' (first|refine ZN ?_|refine Z2 ?_ ?_|(intro h h';try simp[*,-h] at h')|(exact⟨⟨⟨_,rfl⟩,fun d i c hd Ir=>(U7 d i c Zo Ir).trans (by have Uc:d≠k+3:=Zo;first|exact HF.out d i c hd Ir|(simp[*];done)|(simp[*];exact HF.out d i c hd Ir))⟩,by(rw[Hc,dM];rfl)⟩)|((with_reducible apply Aq (f:=222));exact Zv;apply take (k+3) Zo;decide;exact Zw;rotate_left;rintro _ dG ⟨⟨⟨a,rfl⟩,U7⟩,dM⟩;rotate_right;(rintro _ If ⟨⟨tk2,tt2,tn2,ta2⟩,rfl,dN,aO,⟨Ul,cT,_,Ub⟩,Ic⟩;have U1:=Ic.own Zo;have aB:=Ic.all (k:=k+2) Zo;clear Ic;simp only[Tok.row_mk]))|fail)
 refine Ac (n:=T.length - (n+1)) (fun s0 m s=> ∃(n2 g:Nat) (l:List Tx),m=T.length - n2/\n+l.length<=n2/\n<n2/\eA T n=kU T l n2/\s.fr 0=s0.fr 0/\s.fr 3= .own ⟨k+3,7,0⟩ g l.length/\s.hp ⟨k+3,7,0⟩= .arr g 1 9 (Ib l) false/\Rd T e q gx gy n2 s.hp/\mZ (k+2) q hp1 s.hp) ⟨n+1,_,[tt2],Zo,Zi,Zo,by rw[Hc,dN];rfl,Zi,by simp;rfl,Zm,⟨Zm,Zm,Ij,Ub⟩,fun d i c hd Ir=>by have Uc:d≠k+3:=Zo;simp[*]⟩ ?_;rintro m ⟨fr,hp⟩ ⟨n2,g,l,rfl,qL,pI,rQ,f0,f3,hl,⟨hb,ha,_,jY⟩,Uf⟩;simp at f0 f3 hl hb ha Uf;have HF:=Lib.hid Uf;clear Uf h1 h2 Ul cT U1 aB dN;have a1:(l.length+1)*16<=140737488355328:=Zo;have a2:l.length<=9223372036854775806:=Zo;have a3:=D8 l
 repeat' (first|refine ZN ?_|refine Z2 ?_ ?_|(intro h h';try simp[*,-h] at h')|(exact⟨⟨⟨_,rfl⟩,fun d i c hd Ir=>(U7 d i c Zo Ir).trans (by have Uc:d≠k+3:=Zo;first|exact HF.out d i c hd Ir|(simp[*];done)|(simp[*];exact HF.out d i c hd Ir))⟩,by(rw[rQ,Du,Ka (show Ig T n2=Ug from qK),dM];rfl)⟩)|((with_reducible apply Ap (f:=220));exact Zv;apply BY (k+3) Zo;decide;exact Zw;(rintro _ If (⟨rfl,qK,⟨Ul,cT,_,_⟩,Ic⟩|⟨rfl,qK,aO,⟨Ul,cT,_,Ub⟩,Ic⟩)<;>(have U1:=Ic.own Zo;have aB:=Ic.all (k:=k+2) Zo;clear Ic)))|((with_reducible apply Aq (f:=222));exact Zv;apply take (k+3) Zo;decide;exact Zw;rotate_left;rintro _ dG ⟨⟨⟨a,rfl⟩,U7⟩,dM⟩;rotate_right;(rintro _ If ⟨⟨tk2,tt2,tn2,ta2⟩,rfl,dN,aO,⟨Ul,cT,_,Ub⟩,Ic⟩;have U1:=Ic.own Zo;have aB:=Ic.all (k:=k+2) Zo;clear Ic;simp only[Tok.row_mk]))|fail)
 ·have Uf:=HF.out
  exact⟨l,n2,Zm,by rw[rQ,Du,Jx (show¬Ig T n2=Ug from qK)],qL,pI,⟨Zm,Zm,Ij,jY⟩,fun d i c hd Ir=>by have Uc:d≠k+3:=Zo;simp[*];exact Uf d i c hd Ir⟩
 ·have Uf:=HF.out
  exact⟨T.length - (n2+1+1),Zo,n2+1+1,g+1,l++[tt2],rfl,by simp;omega,Zo,by rw[rQ,Du,Ka (show Ig T n2=Ug from qK),dN];rfl,Zm,Zm,Zm,⟨Zm,Zm,Ij,Ub⟩,fun d i c hd Ir=>by have Uc:d≠k+3:=Zo;simp[*];exact Uf d i c hd Ir⟩
theorem Jm{e:Int}(D:Nat)(hD:2<=D)(d:Nat)(hp1:Hp)(nW:hp1 ⟨D,s0,0⟩= .arr gl 1 9 [[tz s]] false)(hs:s≠⟨#[]⟩)(hr:Rd T e q gx gy n hp1):
  HB P0 Un (Lm bX) D d 223 [.ptr ⟨1,q,0⟩ gx 0,.own ⟨D,s0,0⟩ gl 1] hp1 (fun v If=>v= .tup []/\I6 T s n=some (n+1)/\n+1<=T.length/\Rd T e q gx gy (n+1) If/\mZ D q hp1 If) (Wn D q hp1 (I6 T s n=none)):=by
 have e:jP T [s] n=I6 T s n:=by show(I6 T s n).bind some=_;cases I6 T s n<;>rfl
 refine(must (l:=[s]) D hD d hp1 (fun x hx=>by simp at hx;rw[hx];exact hs) Zi nW hr).mono ?_ ?_
 ·rw[e];exact fun _ _ h=>h
 ·rw[e];exact fun _ _ h=>h
theorem BV{e:Int}{t:ByteArray}(D:Nat)(hD:2<=D)(d:Nat)(hp1:Hp)(nW:hp1 ⟨D,s0,0⟩= .arr gl 1 9 [[tz s],[tz t]] false)(hs:s≠⟨#[]⟩)(ht:t≠⟨#[]⟩)(hr:Rd T e q gx gy n hp1):
  HB P0 Un (Lm bX) D d 223 [.ptr ⟨1,q,0⟩ gx 0,.own ⟨D,s0,0⟩ gl 2] hp1 (fun v If=>v= .tup []/\(I6 T s n).bind (I6 T t)=some (n+2)/\n+2<=T.length/\Rd T e q gx gy (n+2) If/\mZ D q hp1 If) (Wn D q hp1 ((I6 T s n).bind (I6 T t)=none)):=by
 have e:jP T [s,t] n=(I6 T s n).bind (I6 T t):=by
  show(I6 T s n).bind (fun n=>(I6 T t n).bind some)=_
  cases I6 T s n with
  |none=>rfl
  |some m=>show(I6 T t m).bind some=I6 T t m;cases I6 T t m<;>rfl
 refine(must (l:=[s,t]) D hD d hp1 (fun x hx=>by simp at hx;rcases hx with rfl|rfl;exact hs;exact ht) Zi nW hr).mono ?_ ?_
 ·rw[e];exact fun _ _ h=>h
 ·rw[e];exact fun _ _ h=>h
@[simp] theorem Ag (k o n:Int)(s:Tx)(l:List Sy.Ex):(Sy.Ex.mk k o n s l).row=[iz k,iz o,uz n,tz s.1,.sl false 5 (In l)]:=Sy.Ex.row_eq _
@[simp] theorem A0 (k o n:Int)(s:Tx)(l:List Sy.Ex):(Sy.Ex.mk k o n s l).size=Uv l+1:=Sy.Ex.size_eq _
end
section
open Go Go.Ab Go.Ab.Sy
variable {T:List Tok}{q n gx gy:Nat}
def RE (S:Option (Sy.Ex×Nat))(T:List Tok)(e:Int)(q gx gy n D:Nat)(hp1:Hp)(v:AV)(If:Hp):Prop:= ∃(x:Sy.Ex) (n2:Nat),v= .agg x.row/\S=some (x,n2)/\n+x.size<=n2/\n<n2/\Rd T e q gx gy n2 If/\mZ D q hp1 If
def RL (S:Option (List Sy.Ex×Nat))(T:List Tok)(e:Int)(q gx gy n D:Nat)(hp1:Hp)(v:AV)(If:Hp):Prop:= ∃(x:List Sy.Ex) (n2:Nat),v= .sl false 5 (In x)/\S=some (x,n2)/\n+Uv x<=n2/\n<n2/\Rd T e q gx gy n2 If/\mZ D q hp1 If
theorem atom_w{e:Int}(D:Nat)(hD:2<=D)(d:Nat)(hp1:Hp)(ihE: ∀(D:Nat) (hD:2<=D) (d:Nat) (hp1:Hp) {n2:Nat} {ls:Int} (nW:1<=ls) (hr:Rd T e q gx gy n2 hp1) (hn:n<n2),HB P0 Un (Lm bX) D d 481 [.ptr ⟨1,q,0⟩ gx 0,iv ls] hp1 (RE (Uu T ls.toNat n2) T e q gx gy n2 D hp1) (Wn D q hp1 (Uu T ls.toNat n2=none)))(ihA: ∀(D:Nat) (hD:2<=D) (d:Nat) (hp1:Hp) {n2:Nat} (hr:Rd T e q gx gy n2 hp1) (hn:n<n2),HB P0 Un (Lm bX) D d 524 [.ptr ⟨1,q,0⟩ gx 0] hp1 (RE (fB T n2) T e q gx gy n2 D hp1) (Wn D q hp1 (fB T n2=none)))(ihG: ∀(D:Nat) (hD:2<=D) (d:Nat) (hp1:Hp) {n2:Nat} (hr:Rd T e q gx gy n2 hp1) (hn:n<n2),HB P0 Un (Lm bX) D d 526 [.ptr ⟨1,q,0⟩ gx 0] hp1 (RL (eG T n2) T e q gx gy n2 D hp1) (Wn D q hp1 (eG T n2=none)))(hr:Rd T e q gx gy n hp1):HB P0 Un (Lm bX) D d 524 [.ptr ⟨1,q,0⟩ gx 0] hp1 (RE (fB T n) T e q gx gy n D hp1) (Wn D q hp1 (fB T n=none)):=by
 obtain⟨k,rfl⟩: ∃k,D=k+2:=⟨D - 2,Zo⟩;clear hD;refine hZ (k1:=k+3) (PR:=Wn (k+2) q hp1 (fB T n=none)) Tryz.func524 rfl ?_;obtain⟨h1,h2,Ij,aI⟩:=hr
 repeat' (first|refine ZN ?_|refine Z2 ?_ ?_|(intro h h';try simp[*,-h] at h')|(exact⟨⟨⟨_,rfl⟩,fun d i c hd Ir=>(U7 d i c Zo Ir).trans (by have Uc:d≠k+3:=Zo;first|exact HF.out d i c hd Ir|(simp[*];done)|(simp[*];exact HF.out d i c hd Ir))⟩,by(rw[A6];simp[*,cH,Up,Uo,cM,fO,bU,Ug,e0])⟩)|((with_reducible apply Ap (f:=298));exact Zv;apply kind (k+3) Zo;exact Zw;(rintro _ If ⟨rfl,⟨Ul,cT,_,_⟩,Ic⟩;have U1:=Ic.own Zo;have aB:=Ic.all (k:=k+2) Zo;clear Ic))|((with_reducible apply Ap (f:=220));exact Zv;apply BY (k+3) Zo;decide;exact Zw;(rintro _ If (⟨rfl,qK,⟨Ul,cT,_,_⟩,Ic⟩|⟨rfl,qK,aO,⟨Ul,cT,_,Ub⟩,Ic⟩)<;>(have U1:=Ic.own Zo;have aB:=Ic.all (k:=k+2) Zo;clear Ic)))|((with_reducible apply Aq (f:=222));exact Zv;apply take (k+3) Zo;decide;exact Zw;rotate_left;rintro _ dG ⟨⟨⟨a,rfl⟩,U7⟩,dM⟩;rotate_right;(rintro _ If ⟨⟨tk2,tt2,tn2,ta2⟩,rfl,dN,aO,⟨Ul,cT,_,Ub⟩,Ic⟩;have U1:=Ic.own Zo;have aB:=Ic.all (k:=k+2) Zo;clear Ic;simp only[Tok.row_mk]))|((with_reducible apply Aq (f:=223));exact Zv;apply Jm (k+3) Zo;exact Zc;decide;exact Zw;rotate_left;rintro _ dG ⟨⟨⟨a,rfl⟩,U7⟩,dM⟩;rotate_right;(rintro _ If ⟨rfl,AG,aO,⟨Ul,cT,_,Ub⟩,Ic⟩;have U1:=Ic.own Zo;have aB:=Ic.all (k:=k+2) Zo;clear Ic))|((with_reducible apply Aq (f:=223));exact Zv;apply BV (k+3) Zo;exact Zc;decide;decide;exact Zw;rotate_left;rintro _ dG ⟨⟨⟨a,rfl⟩,U7⟩,dM⟩;rotate_right;(rintro _ If ⟨rfl,AG,aO,⟨Ul,cT,_,Ub⟩,Ic⟩;have U1:=Ic.own Zo;have aB:=Ic.all (k:=k+2) Zo;clear Ic))|((with_reducible apply Aq (f:=481));exact Zv;apply ihE (k+3) Zo;omega;exact Zw;omega;rotate_left;(rintro _ dG ⟨⟨⟨a,rfl⟩,U7⟩,dM⟩;(try simp only[qX] at dM));rotate_right;(rintro _ If ⟨⟨xk,xo,xn,xs,xl⟩,m2,rfl,sR,kM,aO,⟨Ul,cT,_,Ub⟩,Ic⟩;have U1:=Ic.own Zo;have aB:=Ic.all (k:=k+2) Zo;clear Ic;simp only[Ag,A0] at*;(try simp only[qX] at sR)))|((with_reducible apply Aq (f:=524));exact Zv;apply ihA (k+3) Zo;exact Zw;omega;rotate_left;rintro _ dG ⟨⟨⟨a,rfl⟩,U7⟩,dM⟩;rotate_right;(rintro _ If ⟨⟨xk,xo,xn,xs,xl⟩,m2,rfl,sR,kM,aO,⟨Ul,cT,_,Ub⟩,Ic⟩;have U1:=Ic.own Zo;have aB:=Ic.all (k:=k+2) Zo;clear Ic;simp only[Ag,A0] at*))|((with_reducible apply Aq (f:=526));exact Zv;apply ihG (k+3) Zo;exact Zw;omega;rotate_left;rintro _ dG ⟨⟨⟨a,rfl⟩,U7⟩,dM⟩;rotate_right;(rintro _ If ⟨xl,m2,rfl,sR,kM,aO,⟨Ul,cT,_,Ub⟩,Ic⟩;have U1:=Ic.own Zo;have aB:=Ic.all (k:=k+2) Zo;clear Ic))|fail)
 ·exact⟨.mk 1 0 tn2 gD [],n+1,Zm,by(rw[A6];simp[*,cH,Up,Uo,cM,fO,bU,Ug,e0]),by(try simp);try omega,Zo,⟨Zm,Zm,Ij,Zo⟩,fun d i c hd Ir=>by have Uc:d≠k+3:=Zo;simp[*]⟩
 ·exact⟨.mk 2 0 0 tt2 [],n+1,Zm,by(rw[A6];simp[*,cH,Up,Uo,cM,fO,bU,Ug,e0]),by(try simp);try omega,Zo,⟨Zm,Zm,Ij,Zo⟩,fun d i c hd Ir=>by have Uc:d≠k+3:=Zo;simp[*]⟩
 ·exact⟨.mk 4 0 0 tt2 xl,m2,Zm,by(rw[A6];simp[*,cH,Up,Uo,cM,fO,bU,Ug,e0]),by(try simp);try omega,Zo,⟨Zm,Zm,Ij,Zo⟩,fun d i c hd Ir=>by have Uc:d≠k+3:=Zo;simp[*]⟩
 ·exact⟨.mk 3 0 0 tt2 [.mk xk xo xn xs xl],m2+1,Zm,by(rw[A6];simp[*,cH,Up,Uo,cM,fO,bU,Ug,e0]),by(try simp);try omega,Zo,⟨Zm,Zm,Ij,Zo⟩,fun d i c hd Ir=>by have Uc:d≠k+3:=Zo;simp[*]⟩
 ·exact⟨.mk 7 0 0 gD [.mk xk xo xn xs xl],m2,Zm,by(rw[A6];simp[*,cH,Up,Uo,cM,fO,bU,Ug,e0]),by(try simp);try omega,Zo,⟨Zm,Zm,Ij,Zo⟩,fun d i c hd Ir=>by have Uc:d≠k+3:=Zo;simp[*]⟩
 ·exact⟨.mk xk xo xn xs xl,m2+1,Zm,by(rw[A6];simp[*,cH,Up,Uo,cM,fO,bU,Ug,e0]),by(try simp);try omega,Zo,⟨Zm,Zm,Ij,Zo⟩,fun d i c hd Ir=>by have Uc:d≠k+3:=Zo;simp[*]⟩
 ·exact⟨.mk 5 0 0 gD [],n+1+2,Zm,by(rw[A6];simp[*,cH,Up,Uo,cM,fO,bU,Ug,e0]),by(try simp);try omega,Zo,⟨Zm,Zm,Ij,Zo⟩,fun d i c hd Ir=>by have Uc:d≠k+3:=Zo;simp[*]⟩
theorem M8 (l:List Sy.Ex):(In l).take l.length=In l:=by rw[Kb Zi]
theorem sign (s:ByteArray):(Lm bX).dat 525 [tv s]=some [.agg [iz (eL s).1.1,iz (eL s).1.2,uz 0,tz ⟨#[]⟩,.vec 5 []],iz (cZ s)]:=by
 refine fW Tryz.func525 rfl ?_;have eY: ∀o:Int,(Lm bX).dat 552 [iz o]=some [.agg [iz 6,iz o,uz 0,tz ⟨#[]⟩,.vec 5 []]]:=fun o=>by
  refine fW Tryz.func552 rfl ?_;exact ZS
 repeat' first|refine ZN ?_|refine Z2 ?_ ?_|intro h h';try simp[*,-h] at h'
 all_goals (first|(simp[cZ,eL, *];done)|(simp_all[cZ,eL];done))
theorem args_w{e:Int}(D:Nat)(hD:2<=D)(d:Nat)(hp1:Hp)(ihE: ∀(D:Nat) (hD:2<=D) (d:Nat) (hp1:Hp) {n2:Nat} {ls:Int} (nW:1<=ls) (hr:Rd T e q gx gy n2 hp1) (hn:n<=n2),HB P0 Un (Lm bX) D d 481 [.ptr ⟨1,q,0⟩ gx 0,iv ls] hp1 (RE (Uu T ls.toNat n2) T e q gx gy n2 D hp1) (Wn D q hp1 (Uu T ls.toNat n2=none)))(hr:Rd T e q gx gy n hp1):HB P0 Un (Lm bX) D d 526 [.ptr ⟨1,q,0⟩ gx 0] hp1 (RL (eG T n) T e q gx gy n D hp1) (Wn D q hp1 (eG T n=none)):=by
 obtain⟨k,rfl⟩: ∃k,D=k+2:=⟨D - 2,Zo⟩;clear hD;refine hZ (k1:=k+3) (PR:=Wn (k+2) q hp1 (eG T n=none)) Tryz.func526 rfl ?_;obtain⟨h1,h2,Ij,aI⟩:=hr
 repeat' (first|refine ZN ?_|refine Z2 ?_ ?_|(intro h h';try simp[*,-h] at h')|(exact⟨⟨⟨_,rfl⟩,fun d i c hd Ir=>(U7 d i c Zo Ir).trans (by have Uc:d≠k+3:=Zo;first|exact HF.out d i c hd Ir|(simp[*];done)|(simp[*];exact HF.out d i c hd Ir))⟩,by(first|(rw[Cp];simp[*,cH,Up,Uo,cM,fO,bU,Ug];done)|(rw[hsG,C6];simp[*,cH,Up,Uo,cM,fO,bU,Ug];done))⟩)|((with_reducible apply Ap (f:=220));exact Zv;apply BY (k+3) Zo;decide;exact Zw;(rintro _ If (⟨rfl,qK,⟨Ul,cT,_,_⟩,Ic⟩|⟨rfl,qK,aO,⟨Ul,cT,_,Ub⟩,Ic⟩)<;>(have U1:=Ic.own Zo;have aB:=Ic.all (k:=k+2) Zo;clear Ic)))|((with_reducible apply Aq (f:=223));exact Zv;apply Jm (k+3) Zo;exact Zc;decide;exact Zw;rotate_left;rintro _ dG ⟨⟨⟨a,rfl⟩,U7⟩,dM⟩;rotate_right;(rintro _ If ⟨rfl,AG,aO,⟨Ul,cT,_,Ub⟩,Ic⟩;have U1:=Ic.own Zo;have aB:=Ic.all (k:=k+2) Zo;clear Ic))|((with_reducible apply Aq (f:=481));exact Zv;apply ihE (k+3) Zo;omega;exact Zw;omega;rotate_left;(rintro _ dG ⟨⟨⟨a,rfl⟩,U7⟩,dM⟩;(try simp only[qX] at dM));rotate_right;(rintro _ If ⟨⟨xk,xo,xn,xs,xl⟩,m2,rfl,sR,kM,aO,⟨Ul,cT,_,Ub⟩,Ic⟩;have U1:=Ic.own Zo;have aB:=Ic.all (k:=k+2) Zo;clear Ic;simp only[Ag,A0] at*;(try simp only[qX] at sR)))|fail)
 all_goals try exact⟨[],n+1,Zm,by(first|(rw[Cp];simp[*,cH,Up,Uo,cM,fO,bU,Ug];done)|(rw[hsG,C6];simp[*,cH,Up,Uo,cM,fO,bU,Ug];done)),by(try simp);try omega,Zo,⟨Zm,Zm,Ij,Zo⟩,fun d i c hd Ir=>by have Uc:d≠k+3:=Zo;simp[*]⟩
 refine Ac (n:=T.length - m2) (fun s0 m s=> ∃(n2 g:Nat) (l:List Sy.Ex),m=T.length - n2/\n+Uv l<=n2/\n<n2/\eG T n=oS T l n2/\s.fr 0=s0.fr 0/\s.fr 3= .own ⟨k+3,8,0⟩ g l.length/\s.hp ⟨k+3,8,0⟩= .arr g 5 186 (In l) false/\Rd T e q gx gy n2 s.hp/\mZ (k+2) q hp1 s.hp) ⟨m2,_,[.mk xk xo xn xs xl],Zo,by simp;omega,Zo,by rw[Cp];simp[*,cH,Up,Uo,cM,fO,bU,Ug],Zi,by simp;rfl,Zm,⟨Zm,Zm,Ij,Ub⟩,fun d i c hd Ir=>by have Uc:d≠k+3:=Zo;simp[*]⟩ ?_;clear h1 h2 Ul cT U1 aB sR qK;rintro m ⟨fr,hp⟩ ⟨n2,g,l,rfl,qL,pI,hsG,f0,f3,hl,⟨hb,ha,_,jY⟩,Uf⟩;simp at f0 f3 hl ha Uf;simp only at hb;have HF:=Lib.hid Uf;clear Uf;have zN:=A4 l;have a1:(l.length+1)*64<=140737488355328:=Zo;have a2:l.length<=9223372036854775806:=Zo;have a3:=M8 l
 repeat' (first|refine ZN ?_|refine Z2 ?_ ?_|(intro h h';try simp[*,-h] at h')|(exact⟨⟨⟨_,rfl⟩,fun d i c hd Ir=>(U7 d i c Zo Ir).trans (by have Uc:d≠k+3:=Zo;first|exact HF.out d i c hd Ir|(simp[*];done)|(simp[*];exact HF.out d i c hd Ir))⟩,by(first|(rw[Cp];simp[*,cH,Up,Uo,cM,fO,bU,Ug];done)|(rw[hsG,C6];simp[*,cH,Up,Uo,cM,fO,bU,Ug];done))⟩)|((with_reducible apply Ap (f:=220));exact Zv;apply BY (k+3) Zo;decide;exact Zw;(rintro _ If (⟨rfl,qK,⟨Ul,cT,_,_⟩,Ic⟩|⟨rfl,qK,aO,⟨Ul,cT,_,Ub⟩,Ic⟩)<;>(have U1:=Ic.own Zo;have aB:=Ic.all (k:=k+2) Zo;clear Ic)))|((with_reducible apply Aq (f:=223));exact Zv;apply Jm (k+3) Zo;exact Zc;decide;exact Zw;rotate_left;rintro _ dG ⟨⟨⟨a,rfl⟩,U7⟩,dM⟩;rotate_right;(rintro _ If ⟨rfl,AG,aO,⟨Ul,cT,_,Ub⟩,Ic⟩;have U1:=Ic.own Zo;have aB:=Ic.all (k:=k+2) Zo;clear Ic))|((with_reducible apply Aq (f:=481));exact Zv;apply ihE (k+3) Zo;omega;exact Zw;omega;rotate_left;(rintro _ dG ⟨⟨⟨a,rfl⟩,U7⟩,dM⟩;(try simp only[qX] at dM));rotate_right;(rintro _ If ⟨⟨xk,xo,xn,xs,xl⟩,m2,rfl,sR,kM,aO,⟨Ul,cT,_,Ub⟩,Ic⟩;have U1:=Ic.own Zo;have aB:=Ic.all (k:=k+2) Zo;clear Ic;simp only[Ag,A0] at*;(try simp only[qX] at sR)))|fail)
 ·have Uf:=HF.out
  exact⟨l,n2+1,Zm,by(first|(rw[Cp];simp[*,cH,Up,Uo,cM,fO,bU,Ug];done)|(rw[hsG,C6];simp[*,cH,Up,Uo,cM,fO,bU,Ug];done)),Zo,Zo,⟨Zm,Zm,Ij,Zo⟩,fun d i c hd Ir=>by have Uc:d≠k+3:=Zo;simp[*];exact Uf d i c hd Ir⟩
 ·have Uf:=HF.out
  exact⟨T.length - m2,Zo,m2,g+1,l++[.mk xk xo xn xs xl],rfl,by simp;omega,Zo,by(first|(rw[Cp];simp[*,cH,Up,Uo,cM,fO,bU,Ug];done)|(rw[hsG,C6];simp[*,cH,Up,Uo,cM,fO,bU,Ug];done)),Zm,Zm,Zm,⟨Zm,Zm,Ij,Ub⟩,fun d i c hd Ir=>by have Uc:d≠k+3:=Zo;simp[*];exact Uf d i c hd Ir⟩
end
section
open Go Go.Ab Go.Ab.Sy
theorem expr_w {T:List Tok}{e:Int}{q n gx gy:Nat}{ls:Int}(D:Nat)(hD:2<=D)(d:Nat)(hp1:Hp)(ihE: ∀(D:Nat) (hD:2<=D) (d:Nat) (hp1:Hp) {n2:Nat} {ls:Int} (nW:1<=ls) (hr:Rd T e q gx gy n2 hp1) (hn:n<n2),HB P0 Un (Lm bX) D d 481 [.ptr ⟨1,q,0⟩ gx 0,iv ls] hp1 (RE (Uu T ls.toNat n2) T e q gx gy n2 D hp1) (Wn D q hp1 (Uu T ls.toNat n2=none)))(ihA: ∀(D:Nat) (hD:2<=D) (d:Nat) (hp1:Hp) {n2:Nat} (hr:Rd T e q gx gy n2 hp1) (hn:n<=n2),HB P0 Un (Lm bX) D d 524 [.ptr ⟨1,q,0⟩ gx 0] hp1 (RE (fB T n2) T e q gx gy n2 D hp1) (Wn D q hp1 (fB T n2=none)))(nW:1<=ls)(hr:Rd T e q gx gy n hp1):HB P0 Un (Lm bX) D d 481 [.ptr ⟨1,q,0⟩ gx 0,iv ls] hp1 (RE (Uu T ls.toNat n) T e q gx gy n D hp1) (Wn D q hp1 (Uu T ls.toNat n=none)):=by
 obtain⟨k,rfl⟩: ∃k,D=k+2:=⟨D - 2,Zo⟩;clear hD;refine hZ (k1:=k+3) (PR:=Wn (k+2) q hp1 (Uu T ls.toNat n=none)) Tryz.func481 rfl ?_;obtain⟨h1,h2,Ij,aI⟩:=hr
 repeat' (first|refine ZN ?_|refine Z2 ?_ ?_|(intro h h';try simp[*,-h] at h')|(exact⟨⟨⟨_,rfl⟩,fun d i c hd Ir=>(U7 d i c Zo Ir).trans (by have Uc:d≠k+3:=Zo;first|exact HF.out d i c hd Ir|(simp[*];done)|(simp[*];exact HF.out d i c hd Ir))⟩,by(rw[Pd T Zo,dM];rfl)⟩)|((with_reducible apply Aq (f:=524));exact Zv;apply ihA (k+3) Zo;exact Zw;omega;rotate_left;rintro _ dG ⟨⟨⟨a,rfl⟩,U7⟩,dM⟩;rotate_right;(rintro _ If ⟨⟨xk,xo,xn,xs,xl⟩,m2,rfl,sR,kM,aO,⟨Ul,cT,_,Ub⟩,Ic⟩;have U1:=Ic.own Zo;have aB:=Ic.all (k:=k+2) Zo;clear Ic;simp only[Ag,A0] at*))|fail)
 refine Ac (n:=T.length - m2) (fun s0 m s=> ∃(n2 g:Nat) (x:Sy.Ex) (kc:AV),m=T.length - n2/\n+x.size<=n2/\n<n2/\Uu T ls.toNat n=Wv T ls.toNat x n2/\s.fr 0=s0.fr 0/\s.fr 1=s0.fr 1/\s.fr 4=s0.fr 4/\s.fr 5= .ptr ⟨k+3,5,0⟩ g 0/\s.hp ⟨k+3,5,0⟩= .box g [iz x.kind,iz x.op,uz x.num,tz x.name,kc] false/\
  (kc= .sl false 5 (In x.kids)\/ ∃g',kc= .own ⟨k+3,5,5⟩ g' x.kids.length/\s.hp ⟨k+3,5,5⟩= .arr g' 5 186 (In x.kids) false)/\s.hp ⟨k+3,4,0⟩= .box ((hp1 ⟨k+3,4,0⟩).gen+1) [iv 0,iv 0,uv 0,tv ⟨⟨[]⟩⟩,.own ⟨k+3,4,5⟩ ((hp1 ⟨k+3,4,5⟩).gen+1) 0] false/\Rd T e q gx gy n2 s.hp/\mZ (k+2) q hp1 s.hp)
  ⟨m2,_,.mk xk xo xn xs xl,_,rfl,by simp;omega,Zo,by rw[Pd T Zo,sR];rfl,Zi,Zi,Zi,by simp;rfl,by simp[Sy.Ex.kind,Sy.Ex.op,Sy.Ex.num,Sy.Ex.name];rfl,.inl (by simp[Sy.Ex.kids]),Zm,⟨Zm,Zm,Ij,Ub⟩,fun d i c hd Ir=>by have Uc:d≠k+3:=Zo;simp[*]⟩ ?_
 rintro m ⟨fr,hp⟩ ⟨n2,g,⟨lk,lo,ln,ls_,ll⟩,kc,rfl,qL,pI,hse,f0,f1,f4,f5,h5,hkc,h4,⟨hb,ha,_,jY⟩,Uf⟩;simp[Sy.Ex.kind,Sy.Ex.op,Sy.Ex.num,Sy.Ex.name,Sy.Ex.kids] at f0 f1 f4 f5 h5 hkc ha Uf qL;simp at h4;simp only at hb;clear h1 h2 Ul cT U1 aB sR;have hsE:=Lib.hid hse;clear hse;have HF:=Lib.hid Uf;clear Uf;have hsg:=sign (Ig T n2);have gO:=Bea (Ig T n2);have w1:IntKind.i64.wrap ((n2:Int)+1)=(n2:Int)+1:=Iw Zo;have w2:IntKind.i64.wrap ((cZ (Ig T n2):Int)+1)=(cZ (Ig T n2):Int)+1:=Iw Zo;have a3:=M8 ll;have HTN:=Lib.hid (show((cZ (Ig T n2):Int)+1).toNat=cZ (Ig T n2)+1 from Zo);rcases hkc with rfl|⟨g',rfl,h55⟩
 all_goals by_cases Ii:cZ (Ig T n2)<ls.toNat
 all_goals have HLT:=Lib.hid Ii
 all_goals (first|have hli:(cZ (Ig T n2):Int)<ls:=Zo|(have hli: ¬(cZ (Ig T n2):Int)<ls:=Zo;have hn2':n2<T.length:=(F9 Zo Ii)))
 all_goals clear Ii
 repeat' (first|((apply Df (c:=4) (idx:=[0,1,2,3]) (d:=31));kernel_rfl;kernel_rfl;simp only[T9,nT,Nh,X4,Rt,T7,X1];(repeat' (first|exact dL.nil|((with_reducible apply Ay);exact Zc)));exact rfl;exact Zc;exact Oj;decide;exact Zc;apply ihE (k+3) Zo;omega;constructor;(conv=>lhs;simp -implicitDefEqProofs [*,-Int.natCast_add]);(rw[show((n2:Int)+1)=((n2+1:Nat):Int) from Zo]);exact Zc;assumption;omega;omega;rotate_left;rintro _ dG ⟨⟨⟨a,rfl⟩,U7⟩,dM⟩;rotate_right;(rintro _ If uK ⟨⟨xk,xo,xn,xs,xl⟩,m2,rfl,sR,kM,aO,⟨Ul,cT,_,Ub⟩,Ic⟩;have U1:=Ic.own Zo;have aB:=Ic.all (k:=k+2) Zo;clear Ic;simp only[Ag,A0] at*);refine Cb Zf ?_;(repeat (first|((with_reducible apply gP);exact Zc)|((with_reducible apply gQ);exact Zc)));(with_reducible apply A7);apply Be (ps:=[(0,1),(0,2),(1,2),(0,3),(1,3),(0,4)]);kernel_rfl;(iterate 5 refine Zk ?_);refine ZA ?_;exact Zz)|(refine Z1 ?_)|(refine Z2 ?_ ?_)|(intro h h';try simp[*,-h] at h')|(exact⟨⟨⟨_,rfl⟩,fun d i c hd Ir=>(U7 d i c Zo Ir).trans (by have Uc:d≠k+3:=Zo;first|exact HF.out d i c hd Ir|(simp[*];done)|(simp[*];exact HF.out d i c hd Ir))⟩,by(rw[hsE.out,Gh T Zo,Jx HLT.out,(HTN.out▸dM:Uu T (cZ (Ig T n2)+1) (n2+1)=none)];rfl)⟩)|((with_reducible apply Ap (f:=297));exact Zv;apply BM (k+3) Zo;exact Zw;(rintro _ If ⟨rfl,⟨Ul,cT,_,_⟩,Ic⟩;have U1:=Ic.own Zo;have aB:=Ic.all (k:=k+2) Zo;clear Ic))|fail)
 all_goals have Uf:=HF.out
 all_goals first
  |exact⟨.mk lk lo ln ls_ ll,n2,Zm,by rw[hsE.out,Gh T Zo,Ka HLT.out],by simp;omega,pI,⟨Zm,Zm,Ij,jY⟩,fun d i c hd Ir=>by have Uc:d≠k+3:=Zo;simp[*];exact Uf d i c hd Ir⟩
  |exact⟨T.length - m2,Zo,m2,g,.mk (eL (Ig T n2)).1.1 (eL (Ig T n2)).1.2 0 gD [.mk lk lo ln ls_ ll,.mk xk xo xn xs xl],.own ⟨k+3,5,5⟩ ((hp ⟨k+3,5,5⟩).gen+1) 2,rfl,by simp;omega,Zo,by(rw[hsE.out,Gh T Zo,Jx HLT.out,(HTN.out▸sR:Uu T (cZ (Ig T n2)+1) (n2+1)=some (Sy.Ex.mk xk xo xn xs xl,m2))];rfl),Zm,Zm,Zm,Zm,by simp[Sy.Ex.kind,Sy.Ex.op,Sy.Ex.num,Sy.Ex.name, *];done,.inr ⟨_,rfl,by simp[Sy.Ex.kids, *];done⟩,Zm,⟨Zm,Zm,Ij,Ub⟩,fun d i c hd Ir=>by have Uc:d≠k+3:=Zo;simp[*];exact Uf d i c hd Ir⟩
  |exact⟨T.length - m2,Zo,m2,g,.mk (eL (Ig T n2)).1.1 (eL (Ig T n2)).1.2 0 gD [.mk lk lo ln ls_ ll,.mk xk xo xn xs xl],.own ⟨k+3,5,5⟩ (g'+1) 2,rfl,by simp;omega,Zo,by(rw[hsE.out,Gh T Zo,Jx HLT.out,(HTN.out▸sR:Uu T (cZ (Ig T n2)+1) (n2+1)=some (Sy.Ex.mk xk xo xn xs xl,m2))];rfl),Zm,Zm,Zm,Zm,by simp[Sy.Ex.kind,Sy.Ex.op,Sy.Ex.num,Sy.Ex.name, *];done,.inr ⟨_,rfl,by simp[Sy.Ex.kids, *];done⟩,Zm,⟨Zm,Zm,Ij,Ub⟩,fun d i c hd Ir=>by have Uc:d≠k+3:=Zo;simp[*];exact Uf d i c hd Ir⟩
end
section
open Go Go.Ab Go.Ab.Sy
variable {T:List Tok}{q gx gy n:Nat}
theorem exprs (T:List Tok)(e:Int)(q gx gy:Nat): ∀m n:Nat,T.length+1 - n<=m->
  (∀(D:Nat) (hD:2<=D) (d:Nat) (hp1:Hp) (hr:Rd T e q gx gy n hp1),HB P0 Un (Lm bX) D d 524 [.ptr ⟨1,q,0⟩ gx 0] hp1 (RE (fB T n) T e q gx gy n D hp1) (Wn D q hp1 (fB T n=none)))/\
  (∀(D:Nat) (hD:2<=D) (d:Nat) (hp1:Hp) (ls:Int) (nW:1<=ls) (hr:Rd T e q gx gy n hp1),HB P0 Un (Lm bX) D d 481 [.ptr ⟨1,q,0⟩ gx 0,iv ls] hp1 (RE (Uu T ls.toNat n) T e q gx gy n D hp1) (Wn D q hp1 (Uu T ls.toNat n=none)))/\
  (∀(D:Nat) (hD:2<=D) (d:Nat) (hp1:Hp) (hr:Rd T e q gx gy n hp1),HB P0 Un (Lm bX) D d 526 [.ptr ⟨1,q,0⟩ gx 0] hp1 (RL (eG T n) T e q gx gy n D hp1) (Wn D q hp1 (eG T n=none))):=by
 intro m
 induction m using Nat.strongRecOn with
 |_ m ih=>
  intro n hm;have ihE: ∀(D:Nat) (hD:2<=D) (d:Nat) (hp1:Hp) {n2:Nat} {ls:Int} (nW:1<=ls) (hr:Rd T e q gx gy n2 hp1) (hn:n<n2),HB P0 Un (Lm bX) D d 481 [.ptr ⟨1,q,0⟩ gx 0,iv ls] hp1 (RE (Uu T ls.toNat n2) T e q gx gy n2 D hp1) (Wn D q hp1 (Uu T ls.toNat n2=none)):=
   fun D hD d hp1 n2 ls nW hr hn=>(ih (T.length+1 - n2) (by have:=hr.le;omega) n2 (D5 _)).2.1 D hD d hp1 ls nW hr
  have hA: ∀(D:Nat) (hD:2<=D) (d:Nat) (hp1:Hp) (hr:Rd T e q gx gy n hp1),HB P0 Un (Lm bX) D d 524 [.ptr ⟨1,q,0⟩ gx 0] hp1 (RE (fB T n) T e q gx gy n D hp1) (Wn D q hp1 (fB T n=none)):=
   fun D hD d hp1 hr=>atom_w D hD d hp1 ihE (fun D hD d hp1 n2 hr hn=>(ih (T.length+1 - n2) (by have:=hr.le;omega) n2 (D5 _)).1 D hD d hp1 hr) (fun D hD d hp1 n2 hr hn=>(ih (T.length+1 - n2) (by have:=hr.le;omega) n2 (D5 _)).2.2 D hD d hp1 hr) hr
  have hE: ∀(D:Nat) (hD:2<=D) (d:Nat) (hp1:Hp) (ls:Int) (nW:1<=ls) (hr:Rd T e q gx gy n hp1),HB P0 Un (Lm bX) D d 481 [.ptr ⟨1,q,0⟩ gx 0,iv ls] hp1 (RE (Uu T ls.toNat n) T e q gx gy n D hp1) (Wn D q hp1 (Uu T ls.toNat n=none)):=
   fun D hD d hp1 ls nW hr=>expr_w D hD d hp1 ihE (fun D hD d hp1 n2 hr hn=>by
    by_cases h:n=n2
    ·subst h;exact hA D hD d hp1 hr
    ·exact(ih (T.length+1 - n2) (by have:=hr.le;omega) n2 (D5 _)).1 D hD d hp1 hr) nW hr
  exact⟨hA,hE,fun D hD d hp1 hr=>args_w D hD d hp1 (fun D hD d hp1 n2 ls nW hr hn=>by
    by_cases h:n=n2
    ·subst h;exact hE D hD d hp1 ls nW hr
    ·exact ihE D hD d hp1 nW hr Zo) hr⟩
theorem K0{e:Int}{ls:Int}(D:Nat)(hD:2<=D)(d:Nat)(hp1:Hp)(nW:1<=ls)(hr:Rd T e q gx gy n hp1):HB P0 Un (Lm bX) D d 481 [.ptr ⟨1,q,0⟩ gx 0,iv ls] hp1 (RE (Uu T ls.toNat n) T e q gx gy n D hp1) (Wn D q hp1 (Uu T ls.toNat n=none)):=
 (exprs T e q gx gy _ n (D5 _)).2.1 D hD d hp1 ls nW hr
theorem Cna{e:Int}(D:Nat)(hD:2<=D)(d:Nat)(hp1:Hp)(hr:Rd T e q gx gy n hp1):HB P0 Un (Lm bX) D d 526 [.ptr ⟨1,q,0⟩ gx 0] hp1 (RL (eG T n) T e q gx gy n D hp1) (Wn D q hp1 (eG T n=none)):=
 (exprs T e q gx gy _ n (D5 _)).2.2 D hD d hp1 hr
@[simp] theorem Bo (k:Int)(s:Tx)(e:List Sy.Ex)(t f:List Sy.St):(Sy.St.mk k s e t f).row=[iz k,tz s.1,.sl false 5 (In e),.sl false 5 (Ik t),.sl false 5 (Ik f)]:=Sy.St.row_eq _
@[simp] theorem Bi (k:Int)(s:Tx)(e:List Sy.Ex)(t f:List Sy.St):(Sy.St.mk k s e t f).size=Uv e+Ix t+Ix f+1:=Sy.St.size_eq _
def RS (S:Option (Sy.St×Nat))(T:List Tok)(e:Int)(q gx gy n D:Nat)(hp1:Hp)(v:AV)(If:Hp):Prop:= ∃(x:Sy.St) (n2:Nat),v= .agg x.row/\S=some (x,n2)/\n+x.size<=n2/\n<n2/\Rd T e q gx gy n2 If/\mZ D q hp1 If
def RSL (S:Option (List Sy.St×Nat))(T:List Tok)(e:Int)(q gx gy n D:Nat)(hp1:Hp)(v:AV)(If:Hp):Prop:= ∃(x:List Sy.St) (n2:Nat),v= .sl false 5 (Ik x)/\S=some (x,n2)/\n+Ix x<=n2/\n<n2/\Rd T e q gx gy n2 If/\mZ D q hp1 If
theorem Sv (l:List Sy.St):(Ik l).take l.length=Ik l:=by rw[Kb Zi]
theorem round{e:Int}(D:Nat)(hD:2<=D)(d:Nat)(hp1:Hp)(hr:Rd T e q gx gy n hp1):HB P0 Un (Lm bX) D d 480 [.ptr ⟨1,q,0⟩ gx 0] hp1 (fun v If=> ∃(x:Sy.Ex) (n2:Nat),v= .sl false 5 [x.row]/\fF T n=some (x,n2)/\n+x.size<=n2/\n<n2/\Rd T e q gx gy n2 If/\mZ D q hp1 If) (Wn D q hp1 (fF T n=none)):=by
 obtain⟨k,rfl⟩: ∃k,D=k+2:=⟨D - 2,Zo⟩;clear hD;refine hZ (k1:=k+3) (PR:=Wn (k+2) q hp1 (fF T n=none)) Tryz.func480 rfl ?_;obtain⟨h1,h2,Ij,aI⟩:=hr
 repeat' (first|refine ZN ?_|refine Z2 ?_ ?_|(intro h h';try simp[*,-h] at h')|(exact⟨⟨⟨_,rfl⟩,fun d i c hd Ir=>(U7 d i c Zo Ir).trans (by have Uc:d≠k+3:=Zo;first|exact HF.out d i c hd Ir|(simp[*];done)|(simp[*];exact HF.out d i c hd Ir))⟩,by(unfold fF;simp[*,cH,Up,Uo,cM,fO,bU,Ug])⟩)|((with_reducible apply Aq (f:=223));exact Zv;apply Jm (k+3) Zo;exact Zc;decide;exact Zw;rotate_left;rintro _ dG ⟨⟨⟨a,rfl⟩,U7⟩,dM⟩;rotate_right;(rintro _ If ⟨rfl,AG,aO,⟨Ul,cT,_,Ub⟩,Ic⟩;have U1:=Ic.own Zo;have aB:=Ic.all (k:=k+2) Zo;clear Ic))|((with_reducible apply Aq (f:=481));exact Zv;apply K0 (k+3) Zo;omega;exact Zw;rotate_left;(rintro _ dG ⟨⟨⟨a,rfl⟩,U7⟩,dM⟩;simp only[qX] at dM);rotate_right;(rintro _ If ⟨⟨xk,xo,xn,xs,xl⟩,m2,rfl,sR,kM,aO,⟨Ul,cT,_,Ub⟩,Ic⟩;have U1:=Ic.own Zo;have aB:=Ic.all (k:=k+2) Zo;clear Ic;simp only[Ag,A0] at*;simp only[qX] at sR))|fail)
 exact⟨.mk xk xo xn xs xl,m2+1,Zm,by(unfold fF;simp[*,cH,Up,Uo,cM,fO,bU,Ug]),by(try simp);try omega,Zo,⟨Zm,Zm,Ij,Zo⟩,fun d i c hd Ir=>by have Uc:d≠k+3:=Zo;simp[*]⟩
theorem body_w{e:Int}(D:Nat)(hD:2<=D)(d:Nat)(hp1:Hp)(ihL: ∀(D:Nat) (hD:2<=D) (d:Nat) (hp1:Hp) {n2:Nat} (hr:Rd T e q gx gy n2 hp1) (hn:n<n2),HB P0 Un (Lm bX) D d 299 [.ptr ⟨1,q,0⟩ gx 0] hp1 (RSL (cP T [] n2) T e q gx gy n2 D hp1) (Wn D q hp1 (cP T [] n2=none)))(hr:Rd T e q gx gy n hp1):HB P0 Un (Lm bX) D d 482 [.ptr ⟨1,q,0⟩ gx 0] hp1 (RSL (gY T n) T e q gx gy n D hp1) (Wn D q hp1 (gY T n=none)):=by
 obtain⟨k,rfl⟩: ∃k,D=k+2:=⟨D - 2,Zo⟩;clear hD;refine hZ (k1:=k+3) (PR:=Wn (k+2) q hp1 (gY T n=none)) Tryz.func482 rfl ?_;obtain⟨h1,h2,Ij,aI⟩:=hr
 repeat' (first|refine ZN ?_|refine Z2 ?_ ?_|(intro h h';try simp[*,-h] at h')|(exact⟨⟨⟨_,rfl⟩,fun d i c hd Ir=>(U7 d i c Zo Ir).trans (by have Uc:d≠k+3:=Zo;first|exact HF.out d i c hd Ir|(simp[*];done)|(simp[*];exact HF.out d i c hd Ir))⟩,by(rw[Jy];simp[*,aH])⟩)|((with_reducible apply Aq (f:=223));exact Zv;apply Jm (k+3) Zo;exact Zc;decide;exact Zw;rotate_left;rintro _ dG ⟨⟨⟨a,rfl⟩,U7⟩,dM⟩;rotate_right;(rintro _ If ⟨rfl,AG,aO,⟨Ul,cT,_,Ub⟩,Ic⟩;have U1:=Ic.own Zo;have aB:=Ic.all (k:=k+2) Zo;clear Ic))|((with_reducible apply Aq (f:=299));exact Zv;apply ihL (k+3) Zo;exact Zw;omega;rotate_left;rintro _ dG ⟨⟨⟨a,rfl⟩,U7⟩,dM⟩;rotate_right;(rintro _ If ⟨sl,m2,rfl,hsL,kM,aO,⟨Ul,cT,_,Ub⟩,Ic⟩;have U1:=Ic.own Zo;have aB:=Ic.all (k:=k+2) Zo;clear Ic))|fail)
 exact⟨sl,m2,Zm,by(rw[Jy];simp[*,aH]),by(try simp);try omega,Zo,⟨Zm,Zm,Ij,Zo⟩,fun d i c hd Ir=>by have Uc:d≠k+3:=Zo;simp[*]⟩
theorem IK{e:Int}(D:Nat)(hD:2<=D)(d:Nat)(hp1:Hp)(ihS: ∀(D:Nat) (hD:2<=D) (d:Nat) (hp1:Hp) {n2:Nat} (hr:Rd T e q gx gy n2 hp1) (hn:n<=n2),HB P0 Un (Lm bX) D d 395 [.ptr ⟨1,q,0⟩ gx 0] hp1 (RS (fG T n2) T e q gx gy n2 D hp1) (Wn D q hp1 (fG T n2=none)))(hr:Rd T e q gx gy n hp1):HB P0 Un (Lm bX) D d 299 [.ptr ⟨1,q,0⟩ gx 0] hp1 (RSL (cP T [] n) T e q gx gy n D hp1) (Wn D q hp1 (cP T [] n=none)):=by
 obtain⟨k,rfl⟩: ∃k,D=k+2:=⟨D - 2,Zo⟩;clear hD;refine hZ (k1:=k+3) (PR:=Wn (k+2) q hp1 (cP T [] n=none)) Tryz.func299 rfl ?_;obtain⟨h1,h2,Ij,aI⟩:=hr
 repeat' first|refine ZN ?_|refine Z2 ?_ ?_|intro h h';try simp[*,-h] at h'
 refine Ac (n:=T.length+1 - n) (fun s0 m s=> ∃(n2 g:Nat) (l:List Sy.St),m=T.length+1 - n2/\n+Ix l<=n2/\cP T [] n=cP T l n2/\s.fr 0=s0.fr 0/\s.fr 3= .own ⟨k+3,3,0⟩ g l.length/\s.hp ⟨k+3,3,0⟩= .arr g 5 105 (Ik l) false/\Rd T e q gx gy n2 s.hp/\mZ (k+2) q hp1 s.hp) ⟨n,_,[],rfl,Zi,rfl,Zi,by simp;rfl,Zm,⟨Zm,Zm,Ij,aI⟩,fun d i c hd Ir=>by have Uc:d≠k+3:=Zo;simp[*]⟩ ?_;clear h1 h2;rintro m ⟨fr,hp⟩ ⟨n2,g,l,rfl,qL,hsi,f0,f3,hl,⟨hb,ha,_,jY⟩,Uf⟩;simp at f0 f3 hl ha Uf;simp only at hb;have HF:=Lib.hid Uf;have LS:=Lib.hid hsi;clear Uf hsi;have zN:=A9 l;have a1:(l.length+1)*96<=140737488355328:=Zo;have a2:l.length<=9223372036854775806:=Zo;have a3:=Sv l
 repeat' (first|refine ZN ?_|refine Z2 ?_ ?_|(intro h h';try simp[*,-h] at h')|(exact⟨⟨⟨_,rfl⟩,fun d i c hd Ir=>(U7 d i c Zo Ir).trans (by have Uc:d≠k+3:=Zo;first|exact HF.out d i c hd Ir|(simp[*];done)|(simp[*];exact HF.out d i c hd Ir))⟩,by(rw[LS.out,C8];simp[*,eH])⟩)|((with_reducible apply Ap (f:=220));exact Zv;apply BY (k+3) Zo;decide;exact Zw;(rintro _ If (⟨rfl,qK,⟨Ul,cT,_,_⟩,Ic⟩|⟨rfl,qK,aO,⟨Ul,cT,_,Ub⟩,Ic⟩)<;>(have U1:=Ic.own Zo;have aB:=Ic.all (k:=k+2) Zo;clear Ic)))|((with_reducible apply Aq (f:=395));exact Zv;apply ihS (k+3) Zo;exact Zw;omega;rotate_left;rintro _ dG ⟨⟨⟨a,rfl⟩,U7⟩,dM⟩;rotate_right;(rintro _ If ⟨⟨sk,sn,se,sth,sel⟩,m2,rfl,hsS,kM,aO,⟨Ul,cT,_,Ub⟩,Ic⟩;have U1:=Ic.own Zo;have aB:=Ic.all (k:=k+2) Zo;clear Ic;simp only[Bo,Bi] at*))|fail)
 all_goals have Uf:=HF.out
 ·exact⟨T.length+1 - m2,Zo,m2,g+1,l++[.mk sk sn se sth sel],rfl,by simp;omega,by(rw[LS.out,C8];simp[*,eH]),Zm,Zm,Zm,⟨Zm,Zm,Ij,Ub⟩,fun d i c hd Ir=>by have Uc:d≠k+3:=Zo;simp[*];exact Uf d i c hd Ir⟩
 ·exact⟨l,n2+1,Zm,by(rw[LS.out,C8];simp[*,eH]),Zo,Zo,⟨Zm,Zm,Ij,Zo⟩,fun d i c hd Ir=>by have Uc:d≠k+3:=Zo;simp[*];exact Uf d i c hd Ir⟩
end
section
open Go Go.Ab Go.Ab.Sy
variable {i n:Nat}{α:Type}
def hpM :List Nat:=[162,237,319,320,317,318,400,402,316]
def EM :cD:={eq:=fun _=>false,hp:=fun f=>hpM.contains f,yl:=fun _=>false,ws:=70,cl:=true,bx:=fun t=>t==242}
@[simp] theorem EM_off :EM.off=0:=rfl
@[simp] theorem EM_bx (t:Nat):EM.bx t=(t==242):=rfl
@[simp] theorem EM_eq (t:Nat):EM.eq t=false:=rfl
@[simp] theorem EM_cl :EM.cl=true:=rfl
@[simp] theorem EM_ws :EM.ws=70:=rfl
@[simp] theorem EM_frz (f:Nat):EM.frz f=false:=rfl
@[simp] theorem EM_inl (f:Nat):EM.inl f=false:=rfl
noncomputable abbrev LM :aS:=eP P0 EM bX
@[simp] theorem hM_162 :EM.hp 162=true:=rfl
@[simp] theorem hM_237 :EM.hp 237=true:=rfl
@[simp] theorem hM_319 :EM.hp 319=true:=rfl
@[simp] theorem hM_320 :EM.hp 320=true:=rfl
@[simp] theorem hM_317 :EM.hp 317=true:=rfl
@[simp] theorem hM_318 :EM.hp 318=true:=rfl
@[simp] theorem hM_400 :EM.hp 400=true:=rfl
@[simp] theorem hM_402 :EM.hp 402=true:=rfl
@[simp] theorem hM_316 :EM.hp 316=true:=rfl
@[simp] theorem hM_160 :EM.hp 160=false:=rfl
@[simp] theorem hM_314 :EM.hp 314=false:=rfl
@[simp] theorem hM_315 :EM.hp 315=false:=rfl
@[simp] theorem hM_236 :EM.hp 236=false:=rfl
@[simp] theorem hM_99 :EM.hp 99=false:=rfl
@[simp] theorem hM_401 :EM.hp 401=false:=rfl
@[simp] theorem hM_484 :EM.hp 484=false:=rfl
@[simp] theorem hM_485 :EM.hp 485=false:=rfl
@[simp] theorem hM_486 :EM.hp 486=false:=rfl
theorem NT {P:Program}{E:cD}{k:Nat}{call:aS}{l:List Oper}{c c1 id f d:Nat}{fr frF:Nat->AV}{hp hp1:Hp}{x:Operand}{args:Array Operand}{ats:Array TypeId}{ty:TypeId}{pos:String}{aft:Array Edge}{av cs:List AV}{B:Code}{QQ:Ab.Ex->AS->Prop}{R:AV->Hp->Prop}{PR:Value->Hp->Prop}(mW:Cy l.toArray c=true)(hw:((waits l.toArray.toList []).getD c 0).testBit c1=true){idx:List Nat}(hi:((List.range l.toArray.size).filter fun j=>Ce l.toArray c j)=idx)(hf:eS P E k call c1 hp hp1 (idx.map fun j=>(j,l.toArray.getD j default)) fr frF)
  (hc:l.toArray[c]?=some ⟨some d,.call ⟨.value x,args,ats⟩,ty,pos,aft,none⟩) (hx:Uy frF x= .fn f cs) (Uz:Il P f=true) (Ii:f<1000000) (ha:args.toList.map (Uy frF)++cs=av) (h:HB P E call k d f av hp1 R PR)
  (hv: ∀v hp',call.hpc k d f av hp1=some (v,hp')->R v hp'->W P E k call (.seq (.region id l.toArray true) B) ⟨fr,hp⟩ QQ) (hq: ∀v hp',PR v hp'->mR QQ v hp'):W P E k call (.seq (.region id l.toArray true) B) ⟨fr,hp⟩ QQ:=by
 rcases h with⟨v,hp',h1,h2⟩|⟨n,v,hp',h1,h2⟩
 ·exact hv v hp' h1 h2
 ·exact F0 (F2 (.draw2 mW hw (by unfold pK;rw[hi];exact hf) hc rfl rfl hx Uz Ii (by rw[ha];exact h1)) (hq v hp' h2))
theorem Bra (fd:Sy.Fd)(l:List Sy.Ex):(iM fd l).take l.length=iM fd l:=Kb Zi
theorem Vx (fd:Sy.Fd)(l:List Sy.St):(fM fd l).take l.length=fM fd l:=Kb Zi
theorem Nz{A:List α}{z x:α}(hA:A.length=i)(hi:i<n):(A++List.replicate (n - i) z).set i x=(A++[x])++List.replicate (n - (i+1)) z:=by
 obtain⟨m,hm⟩: ∃m,n - i=m+1:=⟨n - i - 1,Zo⟩;rw[show n - (i+1)=m by omega,hm,List.set_append,Jx Zo,hA,Adz,OG,List.set_cons_zero,tI];rfl
theorem O8{A:List α}{z:α}(hA:A.length=i)(hi:i<n):(A++List.replicate (n - i) z)[i]?=some z:=by
 obtain⟨m,hm⟩: ∃m,n - i=m+1:=⟨n - i - 1,Zo⟩;rw[hm,Ab9 Zo,hA,Adz,OG];rfl
theorem DX (o i:List (Tx×(Bool×Int)))(s:Tx):LM.dat 314 [.agg [lL iA o,lL iA i],tv s.val]=some [.agg [bv (uM i o s).1,iv (uM i o s).2]]:=by
 refine fW Tryz.func314 rfl ?_;unfold uM lL
 cases hi:Sy.look i s with
 |some t=>
  obtain⟨a,b⟩:=t;obtain⟨j,h1,h2,_⟩:=Da (r:=iA) hi 0;have h3:=Fb hi;simp only[iA,mH] at h1 h2;exact ZS
 |none=>
  have h1:=Cu hi 0
  cases ho:Sy.look o s with
  |some t=>
   obtain⟨a,b⟩:=t;obtain⟨j,h4,h2,_⟩:=Da (r:=iA) ho 0;have h3:=Fb ho;simp only[iA,mH] at h4 h2;exact ZS
  |none=>
   have h4:=Cu ho 0;exact ZS
theorem Cha (o n:List (Tx×(Bool×Int)))(N:Nat)(hN:N<=1048576)(ih: ∀l:List Sy.Ex,Uv l<N->LM.dat 315 [.agg [lL iA o,lL iA n],.sl false 5 (In l)]=some [.vec 6 (iM (uM n o) l)])(l:List Sy.Ex)(hl:Uv l<=N):LM.dat 315 [.agg [lL iA o,lL iA n],.sl false 5 (In l)]=some [.vec 6 (iM (uM n o) l)]:=by
 refine fW Tryz.func315 rfl ?_;have Ij:l.length<=1048576:=by have:=A4 l;omega
 have FY:(In l).length=l.length:=Zi;have ff:=fun s=>DX o n s
 obtain⟨ob,ok,or_,ho⟩: ∃b k r,lL iA o= .dmp b k r:=⟨_,_,_,rfl⟩;obtain⟨nb,nk,nr,hn⟩: ∃b k r,lL iA n= .dmp b k r:=⟨_,_,_,rfl⟩;simp only[ho,hn] at ff ih⊢;generalize hfd:uM n o=fd at*;have x1:(l.length:Int)*56<=140737488355328:=Zo;have x2:(l.length:Int)<=9223372036854775807:=Zo
 repeat' first|refine ZN ?_|refine Z2 ?_ ?_|intro h h';try simp[*,-h] at h'
 all_goals (refine Ac (n:=l.length) (fun s0 m z=> ∃(j:Nat) (A:List (List AV)),l.length - j<=m/\j<=l.length/\A=iM fd (l.take j)/\z.fr 2= .ptr ⟨0,2,0⟩ 1 0/\z.hp ⟨0,2,0⟩= .box 1 [.dmp ob ok or_,.dmp nb nk nr] false/\z.fr 12= .sl false 5 (In l)/\z.fr 13=iv l.length/\z.fr 14=iv j/\z.fr 5= .own ⟨0,11,0⟩ 1 l.length/\z.hp ⟨0,11,0⟩= .arr 1 6 470 (A++List.replicate (l.length - j) [iz 0,iz 0,uz 0,bz false,iz 0,.sl false 6 []]) false) ⟨0,[],Zo,Zo,by simp[iM],Zi,Zi,Zi,Zi,Zi,Zi,Zi⟩ ?_)
 rintro m ⟨fr,hp⟩ ⟨j,A,hm,hj,hA,f2,b2,fl,fn,fi,f5,a5⟩;simp at f2 b2 fl fn fi f5 a5;have AO:A.length=j:=by rw[hA];simp;omega
 by_cases Ii:j<l.length
 ·have e1:(j:Int)<l.length:=Zo
  have oF:IntKind.i64.wrap ((j:Int)+1)=(j:Int)+1:=Iw Zo;have hg:(In l)[j]?=some l[j].row:=by simp[Bv,Ii]
  have dN:=Ba (oY Ii);have hS:=Lib.hid (show A++[prE fd l[j]]=iM fd (l.take (j+1)) by rw[hA,Mz,Mz,AU,Bs Ii,zA];rfl);have s1:=Nz (x:=prE fd l[j]) (z:=[iz 0,iz 0,uz 0,bz false,iz 0,.sl false 6 []]) AO Ii;have s2:=O8 (z:=[iz 0,iz 0,uz 0,bz false,iz 0,.sl false 6 []]) AO Ii;generalize hq:l[j]=e at*;obtain⟨ek,eo,en,ex,ekids⟩:=e;simp only[Ag] at hg;simp only[A0] at dN;have mM:=Ii;have iL: ∀h:j<(In l).length,(In l)[j]'h=_:=fun h=>nN ((Bs h).symm.trans hg)
  rw[Y9] at s1;have fx:=ff ex;have ik:=ih ekids Zo;generalize hft:fd ex=t at*;obtain⟨ta,tb⟩:=t;simp only at fx s1;have IH:=Lib.hid ih;have FF:=Lib.hid ff;have t8:=Bra fd;generalize hR:A++List.replicate (l.length - j) [iz 0,iz 0,uz 0,bz false,iz 0,.sl false 6 []]=R at*;clear hq Ii ih ff ho hn hR
  repeat' first|refine ZN ?_|refine Z2 ?_ ?_|intro h h';try simp[*,-h] at h'
  all_goals exact⟨l.length - (j+1),Zo,j+1,A++[prE fd ⟨ek,eo,en,ex,ekids⟩],Zo,Zo,hS.out,Zm,Zm,Zm,Zm,Zm,Zm,by rw[Y9];simp[*]⟩
 ·have e1: ¬(j:Int)<l.length:=Zo
  have hS:=Lib.hid (show A++List.replicate (l.length - j) [iz 0,iz 0,uz 0,bz false,iz 0,.sl false 6 []]=iM fd l by rw[hA,Kb Zo,show l.length - j=0 by omega];simp);have hRl:(A++List.replicate (l.length - j) [iz 0,iz 0,uz 0,bz false,iz 0,.sl false 6 []]).length=l.length:=by rw[X3,AO,Ab4];omega
  clear ih ff ho hn hA AO;generalize A++List.replicate (l.length - j) [iz 0,iz 0,uz 0,bz false,iz 0,.sl false 6 []]=R at*
  repeat' first|refine ZN ?_|refine Z2 ?_ ?_|intro h h';try simp[*,-h] at h'
  all_goals (rw[<-hS.out])
theorem Cja (o n:List (Tx×(Bool×Int))): ∀N,N<=1048576-> ∀l:List Sy.Ex,Uv l<=N->LM.dat 315 [.agg [lL iA o,lL iA n],.sl false 5 (In l)]=some [.vec 6 (iM (uM n o) l)]
 |0,h,l,hl=>Cha o n 0 h (fun l h'=>Zo) l hl
 |N+1,h,l,hl=>Cha o n (N+1) h (fun l h'=>Cja o n N Zo l Zo) l hl
theorem MR (o n:List (Tx×(Bool×Int)))(l:List Sy.Ex)(hl:Uv l<=1048576):LM.dat 315 [.agg [lL iA o,lL iA n],.sl false 5 (In l)]=some [.vec 6 (iM (uM n o) l)]:=Cja o n 1048576 (D5 _) l hl
theorem Bfa (o n:List (Tx×(Bool×Int)))(N:Nat)(hN:N<=1048576)(ih: ∀l:List Sy.St,Ix l<N->LM.dat 236 [.agg [lL iA o,lL iA n],.sl false 5 (Ik l)]=some [.vec 6 (fM (uM n o) l)])(l:List Sy.St)(hl:Ix l<=N):LM.dat 236 [.agg [lL iA o,lL iA n],.sl false 5 (Ik l)]=some [.vec 6 (fM (uM n o) l)]:=by
 refine fW Tryz.func236 rfl ?_;have Ij:l.length<=1048576:=by have:=A9 l;omega
 have FY:(Ik l).length=l.length:=Zi;have ff:=fun s=>DX o n s
 obtain⟨ob,ok,or_,ho⟩: ∃b k r,lL iA o= .dmp b k r:=⟨_,_,_,rfl⟩;obtain⟨nb,nk,nr,hn⟩: ∃b k r,lL iA n= .dmp b k r:=⟨_,_,_,rfl⟩;simp only[ho,hn] at ff ih⊢;generalize hfd:uM n o=fd at*;have x1:(l.length:Int)*96<=140737488355328:=Zo;have x2:(l.length:Int)<=9223372036854775807:=Zo
 repeat' first|refine ZN ?_|refine Z2 ?_ ?_|intro h h';try simp[*,-h] at h'
 all_goals (refine Ac (n:=l.length) (fun s0 m z=> ∃(j:Nat) (A:List (List AV)),l.length - j<=m/\j<=l.length/\A=fM fd (l.take j)/\z.fr 2= .ptr ⟨0,2,0⟩ 1 0/\z.hp ⟨0,2,0⟩= .box 1 [.dmp ob ok or_,.dmp nb nk nr] false/\z.fr 12= .sl false 5 (Ik l)/\z.fr 13=iv l.length/\z.fr 14=iv j/\z.fr 5= .own ⟨0,11,0⟩ 1 l.length/\z.hp ⟨0,11,0⟩= .arr 1 6 360 (A++List.replicate (l.length - j) [iz 0,bz false,iz 0,.sl false 6 [],.sl false 6 [],.sl false 6 []]) false) ⟨0,[],Zo,Zo,by simp[fM],Zi,Zi,Zi,Zi,Zi,Zi,Zi⟩ ?_)
 rintro m ⟨fr,hp⟩ ⟨j,A,hm,hj,hA,f2,b2,fl,fn,fi,f5,a5⟩;simp at f2 b2 fl fn fi f5 a5;have AO:A.length=j:=by rw[hA];simp;omega
 by_cases Ii:j<l.length
 ·have e1:(j:Int)<l.length:=Zo
  have oF:IntKind.i64.wrap ((j:Int)+1)=(j:Int)+1:=Iw Zo;have hg:(Ik l)[j]?=some l[j].row:=by simp[B5,Ii]
  have dN:=Bp (oY Ii);have hS:=Lib.hid (show A++[prS fd l[j]]=fM fd (l.take (j+1)) by rw[hA,My,My,AU,Bs Ii,zA];rfl);have s1:=Nz (x:=prS fd l[j]) (z:=[iz 0,bz false,iz 0,.sl false 6 [],.sl false 6 [],.sl false 6 []]) AO Ii;have s2:=O8 (z:=[iz 0,bz false,iz 0,.sl false 6 [],.sl false 6 [],.sl false 6 []]) AO Ii;generalize hq:l[j]=e at*;obtain⟨ek,ex,ee,eth,eel⟩:=e;simp only[Bo] at hg;simp only[Bi] at dN;have mM:=Ii;have iL: ∀h:j<(Ik l).length,(Ik l)[j]'h=_:=fun h=>nN ((Bs h).symm.trans hg)
  rw[Y8] at s1;have fx:=ff ex;have ie:=MR o n ee Zo;simp only[ho,hn] at ie;rw[hfd] at ie;have it:=ih eth Zo;have il:=ih eel Zo;have t9:=Bra fd;generalize hft:fd ex=t at*;obtain⟨ta,tb⟩:=t;simp only at fx s1;have IH:=Lib.hid ih;have FF:=Lib.hid ff;have t8:=Vx fd;generalize hR:A++List.replicate (l.length - j) [iz 0,bz false,iz 0,.sl false 6 [],.sl false 6 [],.sl false 6 []]=R at*;clear hq Ii ih ff ho hn hR
  repeat' first|refine ZN ?_|refine Z2 ?_ ?_|intro h h';try simp[*,-h] at h'
  all_goals exact⟨l.length - (j+1),Zo,j+1,A++[prS fd ⟨ek,ex,ee,eth,eel⟩],Zo,Zo,hS.out,Zm,Zm,Zm,Zm,Zm,Zm,by rw[Y8];simp[*]⟩
 ·have e1: ¬(j:Int)<l.length:=Zo
  have hS:=Lib.hid (show A++List.replicate (l.length - j) [iz 0,bz false,iz 0,.sl false 6 [],.sl false 6 [],.sl false 6 []]=fM fd l by rw[hA,Kb Zo,show l.length - j=0 by omega];simp);have hRl:(A++List.replicate (l.length - j) [iz 0,bz false,iz 0,.sl false 6 [],.sl false 6 [],.sl false 6 []]).length=l.length:=by rw[X3,AO,Ab4];omega
  clear ih ff ho hn hA AO;generalize A++List.replicate (l.length - j) [iz 0,bz false,iz 0,.sl false 6 [],.sl false 6 [],.sl false 6 []]=R at*
  repeat' first|refine ZN ?_|refine Z2 ?_ ?_|intro h h';try simp[*,-h] at h'
  all_goals (rw[<-hS.out])
theorem Bga (o n:List (Tx×(Bool×Int))): ∀N,N<=1048576-> ∀l:List Sy.St,Ix l<=N->LM.dat 236 [.agg [lL iA o,lL iA n],.sl false 5 (Ik l)]=some [.vec 6 (fM (uM n o) l)]
 |0,h,l,hl=>Bfa o n 0 h (fun l h'=>Zo) l hl
 |N+1,h,l,hl=>Bfa o n (N+1) h (fun l h'=>Bga o n N Zo l Zo) l hl
theorem IL (o n:List (Tx×(Bool×Int)))(l:List Sy.St)(hl:Ix l<=1048576):LM.dat 236 [.agg [lL iA o,lL iA n],.sl false 5 (Ik l)]=some [.vec 6 (fM (uM n o) l)]:=Bga o n 1048576 (D5 _) l hl
end
section
open Go Go.Ab Go.Ab.Sy
variable {l:List Tx}{i:Nat}{X:aS}{s:Tx}{α:Type}
def plZ :Option Nat->Int
 |some k=>k
 |none=> -1
@[simp] theorem Kk (k:Nat):plZ (some k)=k:=rfl
@[simp] theorem Ob :plZ none= -1:=rfl
theorem Oa(h: ¬i<l.length):(I4 (l.drop i) s).map (· +i)=none:=by rw[wO Zo];rfl
theorem Vy(hi:i<l.length)(h:l[i]=s):(I4 (l.drop i) s).map (· +i)=some i:=by rw[Ng hi];simp[I4,h]
theorem Lh(hi:i<l.length)(h: ¬l[i]=s):(I4 (l.drop i) s).map (· +i)=(I4 (l.drop (i+1)) s).map (· +(i+1)):=by
 rw[Ng hi];simp only[I4,Jx h,Option.map_map];congr 1
 funext x
 simp only[Function.comp];omega
theorem Yt (l m:List Tx):Ib l++Ib m=Ib (l++m):=(zA ..).symm
theorem Bw (nm:Tx)(ps ls:List Tx)(w:Bool)(b:List Sy.St):Sy.Fu.row ⟨nm,ps,ls,w,b⟩=[tz nm.val,.sl false 1 (Ib ps),.sl false 1 (Ib ls),bz w,.sl false 5 (Ik b)]:=rfl
theorem tx_at(h:i<l.length):(Ib l)[i]?=some [tz l[i].val]:=by simp[h]
theorem Lg(hX: ∀f a,X.dat f a=none)(l:List Tx)(s:Tx)(hl:l.length<=2199023255552):(Lm X).dat 125 [.sl false 1 (Ib l),tv s.val]=some [iv (plZ (I4 l s))]:=by
 refine fW Tryz.func125 (hX _ _) ?_
 repeat' first|refine ZN ?_|refine Z2 ?_ ?_|intro h h';try simp[*,-h] at h'
 all_goals (refine Ac (n:=l.length) (fun s0 m z=> ∃i:Nat,l.length - i<=m/\i<=l.length/\I4 l s=(I4 (l.drop i) s).map (· +i)/\z.fr 0= .sl false 1 (Ib l)/\z.fr 1=tv s.val/\z.fr 5=iv i) ⟨0,Zo,Zo,Zi,Zi,Zi,Zi⟩ ?_)
 rintro m ⟨fr,hp⟩ ⟨i,hm,hi,hI,f0,f1,f5⟩;simp at f0 f1 f5;rw[hI];have HI:=Lib.hid hI;clear hI;by_cases Ii:i<l.length
 ·have e1:(i:Int)<l.length:=Zo
  have hg:=tx_at Ii;have w1:=Iw (k:=i) Zo;by_cases ht:l[i]=s
  ·rw[Vy Ii ht]
   have hv:l[i].val=s.val:=congrArg Tx.val ht;clear ht HI;exact ZS
  ·have HD:=Lib.hid (HI.out.trans (Lh Ii ht))
   have hv: ¬l[i].val=s.val:=fun h=>ht (Tx.ext h)
   rw[Lh Ii ht];clear ht HI;generalize hr:(I4 (l.drop (i+1)) s).map (· +(i+1))=r at*
   repeat' first|refine ZN ?_|refine Z2 ?_ ?_|intro h h';try simp[*,-h] at h'
   all_goals exact⟨l.length - (i+1),Zo,i+1,Zo,Zo,hr.symm,Zm,Zm,Zm⟩
 ·have e1: ¬(i:Int)<l.length:=Zo
  rw[Oa Ii];clear HI;exact ZS
theorem Cua(hX: ∀f a,X.dat f a=none)(nm:Tx)(ps ls:List Tx)(w:Bool)(b:List Sy.St)(h1:ps.length<=1048576)(h2:ls.length<=1048576):(Lm X).dat 73 [.agg [tz nm.val,.sl false 1 (Ib ps),.sl false 1 (Ib ls),bz w,.sl false 5 (Ik b)]]=some [.vec 1 (Ib (ps++ls))]:=by
 refine fW Tryz.func73 (hX _ _) ?_;have b1:(ps.length+ls.length)*16<=140737488355328:=Zo;have b2:ps.length+ls.length<=9223372036854775807:=Zo;have b3:ps.length*16<=140737488355328:=Zo;have b4:ps.length<=9223372036854775807:=Zo
 repeat' first|refine ZN ?_|refine Z2 ?_ ?_|intro h h';try simp[*,-h] at h'
 all_goals (rw[Yt])
theorem Qk{l:List α}(h:i<l.length):l.take (i+1)=l.take i++[l[i]]:=by rw[AU,Bs h];rfl
theorem Yc {β:Type}{f:α->β}{G m:List β}{l:List α}(h:i<l.length)(hG:G=m++(l.take i).map f):G++[f l[i]]=m++(l.take (i+1)).map f:=by rw[hG,Qk h,zA,tI];rfl
theorem So(hX: ∀f a,X.dat f a=none)(vs:List Tx)(ar:List (Tx×Int))(fs:List Sy.Fu)(hv:vs.length<=1048576)(ha:ar.length<=1048576)(hf:fs.length<=1048576):(Lm X).dat 72 [.agg [.sl false 1 (Ib vs),.sl false 2 (Ih ar),.sl false 5 (fs.map Sy.Fu.row)]]=some [.vec 1 (Ib (Us ⟨vs,ar,fs⟩))]:=by
 refine fW Tryz.func72 (hX _ _) ?_;have b3:vs.length*16<=140737488355328:=Zo;have b4:vs.length<=9223372036854775807:=Zo;have uW:(Ih ar).length=ar.length:=by simp[Ih]
 repeat' first|refine ZN ?_|refine Z2 ?_ ?_|intro h h';try simp[*,-h] at h'
 all_goals (refine Ac (n:=ar.length) (fun s0 m z=> ∃(i g g1:Nat) (G:List Tx),ar.length - i<=m/\i<=ar.length/\G=vs++(ar.take i).map (·.1)/\z.fr 1= .ptr ⟨0,1,0⟩ g1 0/\z.fr 3= .own ⟨0,6,0⟩ g G.length/\z.fr 4=iv i/\z.hp ⟨0,1,0⟩= .box g1 [.sl false 1 (Ib vs),.sl false 2 (Ih ar),.sl false 5 (fs.map Sy.Fu.row)] false/\z.hp ⟨0,6,0⟩= .arr g 1 9 (Ib G) false) ⟨0,2,1,vs,Zo,Zo,Zi,Zi,Zi,Zi,Zi,Zi⟩ ?_)
 rintro m ⟨fr,hp⟩ ⟨i,g,g1,G,hm,hi,hG,f1,f3,f4,h1,h6⟩;simp at f1 f3 f4 h1 h6;have hGl:G.length=vs.length+i:=by rw[hG];simp;omega
 by_cases Ii:i<ar.length
 ·have e1:(i:Int)<ar.length:=Zo
  have hg:(Ih ar)[i]?=some [tz ar[i].1.val,iz ar[i].2]:=by simp[Ih,Ii]
  have w1:=Iw (k:=i) Zo;have x1:(G.length+1)*16<=140737488355328:=Zo;have x2:G.length<=9223372036854775806:=Zo;have hN:=Lib.hid (Yc Ii hG);clear hG hGl;generalize hq:ar[i]=t at*;obtain⟨ts,tn⟩:=t;clear hq Ii
  repeat' first|refine ZN ?_|refine Z2 ?_ ?_|intro h h';try simp[*,-h] at h'
  all_goals exact⟨ar.length - (i+1),Zo,i+1,g+1,g1,G++[ts],Zo,Zo,hN.out,Zm,Zm,Zm,Zm,Zm⟩
 ·have e1: ¬(i:Int)<ar.length:=Zo
  have hN:=Lib.hid (show G=vs++ar.map (·.1) by rw[hG,Kb Zo]);have hGb:G.length<=2097152:=Zo;clear hG hGl
  repeat' first|refine ZN ?_|refine Z2 ?_ ?_|intro h h';try simp[*,-h] at h'
  all_goals (refine Ac (n:=fs.length) (fun s0 m z=> ∃(i g g1:Nat) (H:List Tx),fs.length - i<=m/\i<=fs.length/\H=G++(fs.take i).map (·.name)/\z.fr 1= .ptr ⟨0,1,0⟩ g1 0/\z.fr 3= .own ⟨0,6,0⟩ g H.length/\z.fr 5=iv i/\z.hp ⟨0,1,0⟩= .box g1 [.sl false 1 (Ib vs),.sl false 2 (Ih ar),.sl false 5 (fs.map Sy.Fu.row)] false/\z.hp ⟨0,6,0⟩= .arr g 1 9 (Ib H) false) ⟨0,g,g1,G,Zo,Zo,Zi,Zm,Zm,Zm,Zm,Zm⟩ ?_)
  rintro m' ⟨fr',hp'⟩ ⟨j,g',g1',H,AJ,hj,hH,f1',f3',f5',pS,h6'⟩;simp at f1' f3' f5' pS h6';clear f1 f3 f4 h1 h6;have hHl:H.length=G.length+j:=by rw[hH];simp;omega
  by_cases eQ:j<fs.length
  ·have e2:(j:Int)<fs.length:=Zo
   have hg:(fs.map Sy.Fu.row)[j]?=some fs[j].row:=by simp[eQ]
   have w1:=Iw (k:=j) Zo;have x1:(H.length+1)*16<=140737488355328:=Zo;have x2:H.length<=9223372036854775806:=Zo;have hM:=Lib.hid (Yc eQ hH);clear hH hHl;generalize hq:fs[j]=t at*;obtain⟨tn,tp,tl,tw,tb⟩:=t;simp only[Bw] at hg;clear hq eQ
   repeat' first|refine ZN ?_|refine Z2 ?_ ?_|intro h h';try simp[*,-h] at h'
   all_goals exact⟨fs.length - (j+1),Zo,j+1,g'+1,g1',H++[tn],Zo,Zo,hM.out,Zm,Zm,Zm,Zm,Zm⟩
  ·have e2: ¬(j:Int)<fs.length:=Zo
   have hM:=Lib.hid (show Ib H=Ib (Us ⟨vs,ar,fs⟩) by rw[hH,Kb Zo,hN.out];simp[Us]);clear hH hHl
   repeat' first|refine ZN ?_|refine Z2 ?_ ?_|intro h h';try simp[*,-h] at h'
   all_goals (have t9:(Ib H).take H.length=Ib H:=Kb Zi)
   all_goals (rw[<-hM.out];try simp[t9])
end
end Go.Proofs.YtggghdmdjpianaaGreatDoor
