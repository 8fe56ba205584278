/- A part of the proof: Pa, Pb, Pc, Pd, Pe, Pf, Pg, Ph, Pi. -/
import Derived.Test.YtpmoibjpjlhcgaaGreatDoorY08
import Derived.Test.YtpmoibjpjlhcgaaGreatDoorY11
import Derived.Lib.Hide
set_option linter.unusedSimpArgs false
set_option linter.unusedVariables false
set_option maxRecDepth 200000
set_option maxHeartbeats 8000000
namespace Go.Proofs.YtpmoibjpjlhcgaaGreatDoor
open Go Go.Ab Go.Ab.Sy
def wrongV (a:Int):Value:= .iface 135 (.agg ⟨[.int .i64 a]⟩)
structure Rd (T:List Tok)(e:Int)(q gx gy n:Nat)(hp:Hp):Prop where
 box:hp ⟨1,q,0⟩= .box gx [.own ⟨1,q,1⟩ gy T.length,iv n,iv e] false
 arr:hp ⟨1,q,1⟩= .arr gy 4 141 (T.map Tok.row) false
 len:T.length<=1048576
 le:n<=T.length
def Far (k q:Nat)(hp1 hp2:Hp):Prop:= ∀d i c,d<=k->(⟨d,i,c⟩:Nm)≠⟨1,q,0⟩->hp2 ⟨d,i,c⟩=hp1 ⟨d,i,c⟩
abbrev Wr (k q:Nat)(hp1:Hp)(v:Value)(hp2:Hp):Prop:=(∃a,v=wrongV a)/\Far k q hp1 hp2
def peekT (T:List Tok)(n:Nat):ByteArray:=match T[n]? with|some t=>if t.kind=3\/t.kind=4 then t.text.1 else⟨#[]⟩|none=>⟨#[]⟩
def kindT (T:List Tok)(n:Nat):Int:=match T[n]? with|some t=>t.kind|none=>0
attribute [simp] resultV lowerRes lowerV lowerAll
theorem Af {P:Program}{E:Cfg}{X:Orc}{f k k1 d:Nat}{fn:Func}{c:Code}{args:List AV}{hp:Hp}{rvs:List ResultVar}{R:AV->Hp->Prop}{PR:Value->Hp->Prop}(hk:k+1=k1)(hf:P.funcs[f]?=some fn)(hx:X.hpc k d f args hp=none)(hb:fn.body=some c)(hok:Ad fn=true)(hl:args.length=fn.params.size+fn.nfree)
  (hrv:fn.results.toList=rvs) (h:W P E k1 (lim P E X) c ⟨frame0 args,hp⟩ (EndB P k d rvs R PR)) (hi:E.inl f=false:=by first|rfl|simp) (hz:E.frz f=false:=by first|rfl|simp):
  (∃v hp',(lim P E X).hpc k d f args hp=some (v,hp')/\R v hp')\/ ∃n v hp',Pan P E (lim P E X) (.fn k f args hp) n v hp'/\PR v hp':=by
 subst hk
 exact G3a hf hx hb hok hl hrv h hi hz
theorem Be {P:Program}{E:Cfg}{X:Orc}{f k k1 d:Nat}{fn:Func}{c:Code}{args:List AV}{hp:Hp}{rvs:List ResultVar}{ts:List TypeId}{R:AV->Hp->Prop}{PR:Value->Hp->Prop}(hk:k+1=k1)(hf:P.funcs[f]?=some fn)(hx:X.hpc k d f args hp=none)(hb:fn.body=some c)(hok:Ad fn=true)(hl:args.length=fn.params.size+fn.nfree)
  (hrv:fn.results.toList=rvs) (ht:rtys P f=ts) (h:W P E k1 (lim P E X) c ⟨frame0 args,hp⟩ (Aua P ts rvs R PR)) (hi:E.inl f=false:=by first|rfl|simp) (hz:E.frz f=true:=by first|rfl|simp):
  (∃v hp',(lim P E X).hpc k d f args hp=some (v,hp')/\R v hp')\/ ∃n v hp',Pan P E (lim P E X) (.fn k f args hp) n v hp'/\PR v hp':=by
 subst hk
 exact Bma hf hx hb hok hl hrv ht h hi hz
attribute [simp] resultV lowerRes lowerV lowerAll
@[simp] theorem Tok.row_mk (k:Int)(t:Tx)(n a:Int):Tok.row ⟨k,t,n,a⟩=[iz k,tz t.1,uz n,iz a]:=rfl
theorem Np {T:List Tok}{n:Nat}(h: ¬n<T.length):T[n]?=none:=List.getElem?_eq_none (by omega)
@[simp] theorem lk_ne {d k i j c c':Nat}(h:d≠k):((⟨d,i,c⟩:Nm)=⟨k,j,c'⟩)=False:=by simp[h]
theorem peek {T:List Tok}{e:Int}{q n gx gy:Nat}(D:Nat)(hD:1<=D)(d:Nat)(hp1:Hp)(hr:Rd T e q gx gy n hp1):HB Tryz.prog E47 (Lm X46) D d 111 [.ptr ⟨1,q,0⟩ gx 0] hp1 (fun v hp2=>v=tv (peekT T n)/\Rd T e q gx gy n hp2/\Far D q hp1 hp2) (Wr D q hp1):=by
 obtain⟨k,rfl⟩: ∃k,D=k+1:=⟨D - 1,by omega⟩
 clear hD
 refine Af (k1:=k+2) (PR:=Wr (k+1) q hp1) rfl Tryz.func111 rfl rfl Ym rfl rvs_111 ?_
 obtain⟨h1,h2,hlen,hle⟩:=hr
 by_cases hn:n<T.length
 ·have e1:(n:Int)<T.length:=by omega
  have e3:T[n]?=some T[n]:=List.getElem?_eq_getElem hn
  generalize hq:T[n]=t at*
  obtain⟨tk,tt,tn,ta⟩:=t
  by_cases k3:tk=3
  ·subst k3
   repeat' (first|refine ZN ?_|refine Z2 ?_ ?_|(intro h h';try simp[*,-h] at h'))
   all_goals refine⟨by simp[peekT,kindT,e3, *];done,⟨by simp[*],by simp[*],hlen,hle⟩,fun d i c hd hne=>by have hd2:d≠k+2:=(by omega);simp[hd2,hne]⟩
  ·by_cases k4:tk=4
   ·subst k4
    repeat' (first|refine ZN ?_|refine Z2 ?_ ?_|(intro h h';try simp[*,-h] at h'))
    all_goals refine⟨by simp[peekT,kindT,e3, *];done,⟨by simp[*],by simp[*],hlen,hle⟩,fun d i c hd hne=>by have hd2:d≠k+2:=(by omega);simp[hd2,hne]⟩
   ·have q3:(tk==3)=false:=by simpa using k3
    have q4:(tk==4)=false:=by simpa using k4
    repeat' (first|refine ZN ?_|refine Z2 ?_ ?_|(intro h h';try simp[*,-h] at h'))
    all_goals refine⟨by simp[peekT,kindT,e3, *];done,⟨by simp[*],by simp[*],hlen,hle⟩,fun d i c hd hne=>by have hd2:d≠k+2:=(by omega);simp[hd2,hne]⟩
 ·have e1: ¬(n:Int)<T.length:=by omega
  have e3:T[n]?=none:=Np hn
  repeat' (first|refine ZN ?_|refine Z2 ?_ ?_|(intro h h';try simp[*,-h] at h'))
  all_goals refine⟨by simp[peekT,kindT,e3, *];done,⟨by simp[*],by simp[*],hlen,hle⟩,fun d i c hd hne=>by have hd2:d≠k+2:=(by omega);simp[hd2,hne]⟩
theorem kind {T:List Tok}{e:Int}{q n gx gy:Nat}(D:Nat)(hD:1<=D)(d:Nat)(hp1:Hp)(hr:Rd T e q gx gy n hp1):HB Tryz.prog E47 (Lm X46) D d 112 [.ptr ⟨1,q,0⟩ gx 0] hp1 (fun v hp2=>v=iv (kindT T n)/\Rd T e q gx gy n hp2/\Far D q hp1 hp2) (Wr D q hp1):=by
 obtain⟨k,rfl⟩: ∃k,D=k+1:=⟨D - 1,by omega⟩
 clear hD
 refine Af (k1:=k+2) (PR:=Wr (k+1) q hp1) rfl Tryz.func112 rfl rfl Yl rfl rvs_112 ?_
 obtain⟨h1,h2,hlen,hle⟩:=hr
 by_cases hn:n<T.length
 ·have e1:(n:Int)<T.length:=by omega
  have e3:T[n]?=some T[n]:=List.getElem?_eq_getElem hn
  generalize hq:T[n]=t at*
  obtain⟨tk,tt,tn,ta⟩:=t
  repeat' (first|refine ZN ?_|refine Z2 ?_ ?_|(intro h h';try simp[*,-h] at h'))
  all_goals refine⟨by simp[peekT,kindT,e3, *];done,⟨by simp[*],by simp[*],hlen,hle⟩,fun d i c hd hne=>by have hd2:d≠k+2:=(by omega);simp[hd2,hne]⟩
 ·have e1: ¬(n:Int)<T.length:=by omega
  have e3:T[n]?=none:=Np hn
  repeat' (first|refine ZN ?_|refine Z2 ?_ ?_|(intro h h';try simp[*,-h] at h'))
  all_goals refine⟨by simp[peekT,kindT,e3, *];done,⟨by simp[*],by simp[*],hlen,hle⟩,fun d i c hd hne=>by have hd2:d≠k+2:=(by omega);simp[hd2,hne]⟩
theorem fail {T:List Tok}{e:Int}{q n gx gy:Nat}(D:Nat)(hD:1<=D)(d:Nat)(hp1:Hp)(hr:Rd T e q gx gy n hp1):HB Tryz.prog E47 (Lm X46) D d 73 [.ptr ⟨1,q,0⟩ gx 0] hp1 (fun v hp2=>False) (Wr D q hp1):=by
 obtain⟨k,rfl⟩: ∃k,D=k+1:=⟨D - 1,by omega⟩
 clear hD
 refine Af (k1:=k+2) (PR:=Wr (k+1) q hp1) rfl Tryz.func73 rfl rfl C8a rfl rvs_73 ?_
 obtain⟨h1,h2,hlen,hle⟩:=hr
 by_cases hn:n<T.length
 ·have e1:(n:Int)<T.length:=by omega
  have e3:T[n]?=some T[n]:=List.getElem?_eq_getElem hn
  generalize hq:T[n]=t at*
  obtain⟨tk,tt,tn,ta⟩:=t
  repeat' (first|(apply W_srdt (c:=13) (idx:=[0,1,2,3,4,5,6,7,8,9,10,11,12]);kernel_rfl;kernel_rfl;(simp only[List.map_cons,List.map_nil,Array.getD_eq_getD_getElem?,List.getElem?_toArray,List.getElem?_cons_zero,List.getElem?_cons_succ,Option.getD_some]);(repeat' (first|exact Free.nil|((with_reducible apply Cb);(exact Zc))));exact rfl;exact Zc)|(refine Z1 ?_)|(refine Z2 ?_ ?_)|(intro h h';try simp[*,-h] at h'))
  all_goals exact⟨⟨_,rfl⟩,fun _ _ _ _ _=>rfl⟩
 ·have e1: ¬(n:Int)<T.length:=by omega
  have e3:T[n]?=none:=Np hn
  repeat' (first|refine ZN ?_|refine Z2 ?_ ?_|(intro h h';try simp[*,-h] at h'))
  all_goals exact⟨⟨_,rfl⟩,fun _ _ _ _ _=>rfl⟩
theorem Far.trans {k k' q:Nat}{a b c:Hp}(h1:Far k q a b)(h2:Far k' q b c)(h:k<=k'):Far k q a c:=fun d i x hd hne=>(h2 d i x (by omega) hne).trans (h1 d i x hd hne)
theorem Far.own {D q:Nat}{a b:Hp}(h:Far D q a b)(hD:D≠1): ∀i c,b ⟨D,i,c⟩=a ⟨D,i,c⟩:=fun i c=>h _ i c (Nat.le_refl _) (by simp[hD])
theorem Far.all {k k1 q:Nat}{a b:Hp}(h:Far k1 q a b)(hk:k<=k1): ∀d i c,d<=k->(⟨d,i,c⟩:Nm)≠⟨1,q,0⟩->b ⟨d,i,c⟩=a ⟨d,i,c⟩:=fun d i c hd hne=>h d i c (by omega) hne
theorem Mi {T:List Tok}{n:Nat}{s:ByteArray}(h:peekT T n=s)(hs:s≠⟨#[]⟩):n<T.length:=by
 by_cases hn:n<T.length
 ·exact hn
 ·unfold peekT at h
  rw[Np hn] at h
  exact(hs h.symm).elim
theorem G7a {T:List Tok}{n:Nat}{k:Int}(h:kindT T n=k)(hs:k≠0):n<T.length:=by
 by_cases hn:n<T.length
 ·exact hn
 ·unfold kindT at h
  rw[Np hn] at h
  exact(hs h.symm).elim
end Go.Proofs.YtpmoibjpjlhcgaaGreatDoor
namespace Go.Proofs.YtpmoibjpjlhcgaaGreatDoor
open Go Go.Ab Go.Ab.Sy
theorem may {T:List Tok}{e:Int}{q n gx gy:Nat}{s:ByteArray}(D:Nat)(hD:2<=D)(d:Nat)(hp1:Hp)(hs:s≠⟨#[]⟩)(hr:Rd T e q gx gy n hp1):HB Tryz.prog E47 (Lm X46) D d 74 [.ptr ⟨1,q,0⟩ gx 0,tv s] hp1 (fun v hp2=>(v=bv false/\Rd T e q gx gy n hp2/\Far D q hp1 hp2)\/(v=bv true/\n<T.length/\Rd T e q gx gy (n+1) hp2/\Far D q hp1 hp2)) (Wr D q hp1):=by
 obtain⟨k,rfl⟩: ∃k,D=k+2:=⟨D - 2,by omega⟩
 clear hD
 refine Af (k1:=k+3) (PR:=Wr (k+2) q hp1) rfl Tryz.func74 rfl rfl C7a rfl rvs_74 ?_
 obtain⟨h1,h2,hlen,hle⟩:=hr
 have w1:IntKind.i64.wrap ((n:Int)+1)=(n:Int)+1:=wrapN (by omega)
 repeat' (first|refine ZN ?_|refine Z2 ?_ ?_|(intro h h';try simp[*,-h] at h')|(exact⟨⟨_,rfl⟩,fun d i c hd hne=>(hpf d i c (by omega) hne).trans (by have hd2:d≠k+3:=(by omega);first|exact HF.out d i c hd hne|(simp[*];done)|(simp[*];exact HF.out d i c hd hne))⟩)|((with_reducible apply Aa (f:=111));(iterate 5 exact Z5);(apply peek (k+3) (by omega));constructor;((conv=>lhs;simp -implicitDefEqProofs [*,-Int.natCast_add])<;>exact rfl);exact Zc;assumption;omega;rotate_left;(rintro _ hpp ⟨⟨a,rfl⟩,hpf⟩);rotate_right;(rintro _ hp2 ⟨rfl,⟨hb2,ha2,_,_⟩,hf2⟩;have hO2:=hf2.own (by omega);have hL2:=hf2.all (k:=k+2) (by omega);clear hf2))|fail)
 ·left
  exact⟨rfl,⟨by simp[*],by simp[*],hlen,hle⟩,fun d i c hd hne=>by have hd2:d≠k+3:=(by omega);simp[*]⟩
 ·right
  have hn:n<T.length:=Mi (by assumption) hs
  exact⟨rfl,hn,⟨by simp[*],by simp[*],hlen,hn⟩,fun d i c hd hne=>by have hd2:d≠k+3:=(by omega);simp[*]⟩
theorem take {T:List Tok}{e:Int}{q n gx gy:Nat}{kd:Int}(D:Nat)(hD:2<=D)(d:Nat)(hp1:Hp)(hs:kd≠0)(hr:Rd T e q gx gy n hp1):HB Tryz.prog E47 (Lm X46) D d 76 [.ptr ⟨1,q,0⟩ gx 0,iv kd] hp1 (fun v hp2=> ∃t:Tok,v= .agg t.row/\n<T.length/\Rd T e q gx gy (n+1) hp2/\Far D q hp1 hp2) (Wr D q hp1):=by
 obtain⟨k,rfl⟩: ∃k,D=k+2:=⟨D - 2,by omega⟩
 clear hD
 refine Be (k1:=k+3) (PR:=Wr (k+2) q hp1) rfl Tryz.func76 rfl rfl C5a rfl rvs_76 rtys_76 ?_
 obtain⟨h1,h2,hlen,hle⟩:=hr
 have w1:IntKind.i64.wrap ((n:Int)+1)=(n:Int)+1:=wrapN (by omega)
 by_cases hkd:kindT T n=kd
 ·have hn:n<T.length:=G7a hkd hs
  have e1:(n:Int)<T.length:=by omega
  have e3:T[n]?=some T[n]:=List.getElem?_eq_getElem hn
  generalize hq:T[n]=t at*
  obtain⟨tk,tt,tn,ta⟩:=t
  repeat' (first|refine ZN ?_|refine Z2 ?_ ?_|(intro h h';try simp[*,-h] at h')|(exact⟨⟨_,rfl⟩,fun d i c hd hne=>(hpf d i c (by omega) hne).trans (by have hd2:d≠k+3:=(by omega);first|exact HF.out d i c hd hne|(simp[*];done)|(simp[*];exact HF.out d i c hd hne))⟩)|((with_reducible apply Aa (f:=112));(iterate 5 exact Z5);(apply kind (k+3) (by omega));constructor;((conv=>lhs;simp -implicitDefEqProofs [*,-Int.natCast_add])<;>exact rfl);exact Zc;assumption;omega;rotate_left;(rintro _ hpp ⟨⟨a,rfl⟩,hpf⟩);rotate_right;(rintro _ hp2 ⟨rfl,⟨hb2,ha2,_,_⟩,hf2⟩;have hO2:=hf2.own (by omega);have hL2:=hf2.all (k:=k+2) (by omega);clear hf2))|((with_reducible apply Aa (f:=73));(iterate 5 exact Z5);(apply fail (k+3) (by omega));constructor;((conv=>lhs;simp -implicitDefEqProofs [*,-Int.natCast_add])<;>exact rfl);exact Zc;assumption;omega;rotate_left;(rintro _ hpp ⟨⟨a,rfl⟩,hpf⟩);rotate_right;(rintro _ _ hf2;exact hf2.elim))|fail)
  all_goals exact⟨⟨tk,tt,tn,ta⟩,rfl,hn,⟨by simp[*],by simp[*],hlen,hn⟩,fun d i c hd hne=>by have hd2:d≠k+3:=(by omega);simp[*]⟩
 ·
  repeat' (first|refine ZN ?_|refine Z2 ?_ ?_|(intro h h';try simp[*,-h] at h')|(exact⟨⟨_,rfl⟩,fun d i c hd hne=>(hpf d i c (by omega) hne).trans (by have hd2:d≠k+3:=(by omega);first|exact HF.out d i c hd hne|(simp[*];done)|(simp[*];exact HF.out d i c hd hne))⟩)|((with_reducible apply Aa (f:=112));(iterate 5 exact Z5);(apply kind (k+3) (by omega));constructor;((conv=>lhs;simp -implicitDefEqProofs [*,-Int.natCast_add])<;>exact rfl);exact Zc;assumption;omega;rotate_left;(rintro _ hpp ⟨⟨a,rfl⟩,hpf⟩);rotate_right;(rintro _ hp2 ⟨rfl,⟨hb2,ha2,_,_⟩,hf2⟩;have hO2:=hf2.own (by omega);have hL2:=hf2.all (k:=k+2) (by omega);clear hf2))|((with_reducible apply Aa (f:=73));(iterate 5 exact Z5);(apply fail (k+3) (by omega));constructor;((conv=>lhs;simp -implicitDefEqProofs [*,-Int.natCast_add])<;>exact rfl);exact Zc;assumption;omega;rotate_left;(rintro _ hpp ⟨⟨a,rfl⟩,hpf⟩);rotate_right;(rintro _ _ hf2;exact hf2.elim))|fail)
theorem must {T:List Tok}{e:Int}{q n gx gy:Nat}{l:List ByteArray}{s0 gl:Nat}(D:Nat)(hD:2<=D)(d:Nat)(hp1:Hp)(hs: ∀s∈l,s≠⟨#[]⟩)(hl:l.length<=8)(hls:hp1 ⟨D,s0,0⟩= .arr gl 1 9 (tbRows l) false)(hr:Rd T e q gx gy n hp1):HB Tryz.prog E47 (Lm X46) D d 77 [.ptr ⟨1,q,0⟩ gx 0,.own ⟨D,s0,0⟩ gl l.length] hp1 (fun v hp2=>v= .tup []/\n+l.length<=T.length/\Rd T e q gx gy (n+l.length) hp2/\Far D q hp1 hp2) (Wr D q hp1):=by
 obtain⟨k,rfl⟩: ∃k,D=k+2:=⟨D - 2,by omega⟩
 clear hD
 refine Af (k1:=k+3) (PR:=Wr (k+2) q hp1) rfl Tryz.func77 rfl rfl C4a rfl rvs_77 ?_
 obtain⟨h1,h2,hlen,hle⟩:=hr
 have w1: ∀i:Nat,i<=1048576->IntKind.i64.wrap ((i:Int)+1)=(i:Int)+1:=fun i hi=>wrapN (by omega)
 repeat' (first|refine ZN ?_|refine Z2 ?_ ?_|(intro h h';try simp[*,-h] at h')|(exact⟨⟨_,rfl⟩,fun d i c hd hne=>(hpf d i c (by omega) hne).trans (by have hd2:d≠k+3:=(by omega);first|exact HF.out d i c hd hne|(simp[*];done)|(simp[*];exact HF.out d i c hd hne))⟩)|((with_reducible apply Aa (f:=111));(iterate 5 exact Z5);(apply peek (k+3) (by omega));constructor;((conv=>lhs;simp -implicitDefEqProofs [*,-Int.natCast_add])<;>exact rfl);exact Zc;assumption;omega;rotate_left;(rintro _ hpp ⟨⟨a,rfl⟩,hpf⟩);rotate_right;(rintro _ hp2 ⟨rfl,⟨hb2,ha2,_,_⟩,hf2⟩;have hO2:=hf2.own (by omega);have hL2:=hf2.all (k:=k+2) (by omega);clear hf2))|((with_reducible apply Aa (f:=73));(iterate 5 exact Z5);(apply fail (k+3) (by omega));constructor;((conv=>lhs;simp -implicitDefEqProofs [*,-Int.natCast_add])<;>exact rfl);exact Zc;assumption;omega;rotate_left;(rintro _ hpp ⟨⟨a,rfl⟩,hpf⟩);rotate_right;(rintro _ _ hf2;exact hf2.elim))|fail)
 refine Ah (n:=l.length) (fun s0 m s=> ∃i:Nat,m=l.length - i/\i<=l.length/\n+i<=T.length/\s.fr 8=iv i/\s.fr 6=s0.fr 6/\s.fr 7=s0.fr 7/\s.fr 0=s0.fr 0/\Rd T e q gx gy (n+i) s.hp/\Far (k+2) q hp1 s.hp) ⟨0,by simp,by omega,by omega,by simp,by simp,by simp,by simp,⟨by simp[*],by simp[*],hlen,hle⟩,fun d i c hd hne=>by have hd2:d≠k+3:=(by omega);simp[*]⟩ ?_
 rintro m ⟨fr,hp⟩ ⟨i,rfl,hi,hni,f8,f6,f7,f0,⟨hb,ha,_,_⟩,hfar⟩
 simp at f8 f6 f7 f0 hb ha hfar
 have hlo:hp ⟨k+2,s0,0⟩= .arr gl 1 9 (tbRows l) false:=(hfar _ _ _ (Nat.le_refl _) (by simp)).trans hls
 clear h1 h2 hls
 by_cases hlt:i<l.length
 ·have hg:l[i]?=some l[i]:=List.getElem?_eq_getElem hlt
  have hz:=hs _ (List.getElem_mem hlt)
  generalize hq:l[i]=t at*
  have e1:(i:Int)<l.length:=by omega
  have w2:=w1 i (by omega)
  have w3:IntKind.i64.wrap ((n:Int)+i+1)=(n:Int)+i+1:=by have:=w1 (n+i) (by omega);rw[Int.natCast_add] at this;exact this
  have HF:=Lib.hid hfar
  clear hfar
  repeat' (first|refine ZN ?_|refine Z2 ?_ ?_|(intro h h';try simp[*,-h] at h')|(exact⟨⟨_,rfl⟩,fun d i c hd hne=>(hpf d i c (by omega) hne).trans (by have hd2:d≠k+3:=(by omega);first|exact HF.out d i c hd hne|(simp[*];done)|(simp[*];exact HF.out d i c hd hne))⟩)|((with_reducible apply Aa (f:=111));(iterate 5 exact Z5);(apply peek (k+3) (by omega));constructor;((conv=>lhs;simp -implicitDefEqProofs [*,-Int.natCast_add])<;>exact rfl);exact Zc;assumption;omega;rotate_left;(rintro _ hpp ⟨⟨a,rfl⟩,hpf⟩);rotate_right;(rintro _ hp2 ⟨rfl,⟨hb2,ha2,_,_⟩,hf2⟩;have hO2:=hf2.own (by omega);have hL2:=hf2.all (k:=k+2) (by omega);clear hf2))|((with_reducible apply Aa (f:=73));(iterate 5 exact Z5);(apply fail (k+3) (by omega));constructor;((conv=>lhs;simp -implicitDefEqProofs [*,-Int.natCast_add])<;>exact rfl);exact Zc;assumption;omega;rotate_left;(rintro _ hpp ⟨⟨a,rfl⟩,hpf⟩);rotate_right;(rintro _ _ hf2;exact hf2.elim))|fail)
  have hn:n+i<T.length:=Mi (by assumption) hz
  have hfar:=HF.out
  exact⟨l.length - (i+1),by omega,i+1,rfl,by omega,by omega,by simp,by simp[*],by simp[*],by simp[*],⟨by simp[*];try omega,by simp[*],hlen,by omega⟩,fun d i c hd hne=>by have hd2:d≠k+3:=(by omega);simp[*];exact hfar d i c hd hne⟩
 ·obtain rfl:i=l.length:=by omega
  have e1: ¬(l.length:Int)<l.length:=by omega
  have HF:=Lib.hid hfar
  clear hfar
  repeat' (first|refine ZN ?_|refine Z2 ?_ ?_|(intro h h';try simp[*,-h] at h')|(exact⟨⟨_,rfl⟩,fun d i c hd hne=>(hpf d i c (by omega) hne).trans (by have hd2:d≠k+3:=(by omega);first|exact HF.out d i c hd hne|(simp[*];done)|(simp[*];exact HF.out d i c hd hne))⟩)|((with_reducible apply Aa (f:=111));(iterate 5 exact Z5);(apply peek (k+3) (by omega));constructor;((conv=>lhs;simp -implicitDefEqProofs [*,-Int.natCast_add])<;>exact rfl);exact Zc;assumption;omega;rotate_left;(rintro _ hpp ⟨⟨a,rfl⟩,hpf⟩);rotate_right;(rintro _ hp2 ⟨rfl,⟨hb2,ha2,_,_⟩,hf2⟩;have hO2:=hf2.own (by omega);have hL2:=hf2.all (k:=k+2) (by omega);clear hf2))|((with_reducible apply Aa (f:=73));(iterate 5 exact Z5);(apply fail (k+3) (by omega));constructor;((conv=>lhs;simp -implicitDefEqProofs [*,-Int.natCast_add])<;>exact rfl);exact Zc;assumption;omega;rotate_left;(rintro _ hpp ⟨⟨a,rfl⟩,hpf⟩);rotate_right;(rintro _ _ hf2;exact hf2.elim))|fail)
  exact⟨rfl,hni,⟨by simp[*],by simp[*],hlen,hni⟩,HF.out⟩
theorem Lc (l:List Tx):(txRows l).take l.length=txRows l:=by rw[List.take_of_length_le (by simp)]
theorem names {T:List Tok}{e:Int}{q n gx gy:Nat}(D:Nat)(hD:2<=D)(d:Nat)(hp1:Hp)(hr:Rd T e q gx gy n hp1):HB Tryz.prog E47 (Lm X46) D d 75 [.ptr ⟨1,q,0⟩ gx 0] hp1 (fun v hp2=> ∃(l:List Tx) (n2:Nat),v= .sl false 1 (txRows l)/\n+l.length<=n2/\n<n2/\Rd T e q gx gy n2 hp2/\Far D q hp1 hp2) (Wr D q hp1):=by
 obtain⟨k,rfl⟩: ∃k,D=k+2:=⟨D - 2,by omega⟩
 clear hD
 refine Be (k1:=k+3) (PR:=Wr (k+2) q hp1) rfl Tryz.func75 rfl rfl C6a rfl rvs_75 rtys_75 ?_
 obtain⟨h1,h2,hlen,hle⟩:=hr
 repeat' (first|refine ZN ?_|refine Z2 ?_ ?_|(intro h h';try simp[*,-h] at h')|(exact⟨⟨_,rfl⟩,fun d i c hd hne=>(hpf d i c (by omega) hne).trans (by have hd2:d≠k+3:=(by omega);first|exact HF.out d i c hd hne|(simp[*];done)|(simp[*];exact HF.out d i c hd hne))⟩)|((with_reducible apply Aa (f:=76));(iterate 5 exact Z5);(apply take (k+3) (by omega));decide;constructor;((conv=>lhs;simp -implicitDefEqProofs [*,-Int.natCast_add])<;>exact rfl);exact Zc;assumption;omega;rotate_left;(rintro _ hpp ⟨⟨a,rfl⟩,hpf⟩);rotate_right;(rintro _ hp2 ⟨⟨tk2,tt2,tn2,ta2⟩,rfl,hn2,⟨hb2,ha2,_,hle2⟩,hf2⟩;have hO2:=hf2.own (by omega);have hL2:=hf2.all (k:=k+2) (by omega);clear hf2;simp only[Tok.row_mk]))|fail)
 refine Ah (n:=T.length - (n+1)) (fun s0 m s=> ∃(n2 g:Nat) (l:List Tx),m=T.length - n2/\n+l.length<=n2/\n<n2/\s.fr 0=s0.fr 0/\s.fr 3= .own ⟨k+3,7,0⟩ g l.length/\s.hp ⟨k+3,7,0⟩= .arr g 1 9 (txRows l) false/\Rd T e q gx gy n2 s.hp/\Far (k+2) q hp1 s.hp) ⟨n+1,_,[tt2],by omega,by simp,by omega,by simp,by simp;rfl,by simp[*],⟨by simp[*],by simp[*],hlen,hle2⟩,fun d i c hd hne=>by have hd2:d≠k+3:=(by omega);simp[*]⟩ ?_
 rintro m ⟨fr,hp⟩ ⟨n2,g,l,rfl,hnl,hnn,f0,f3,hl,⟨hb,ha,_,hle3⟩,hfar⟩
 simp at f0 f3 hl hb ha hfar
 have HF:=Lib.hid hfar
 clear hfar h1 h2 hb2 ha2 hO2 hL2
 have a1:(l.length+1)*16<=140737488355328:=by omega
 have a2:l.length<=9223372036854775806:=by omega
 have a3:=Lc l
 repeat' (first|refine ZN ?_|refine Z2 ?_ ?_|(intro h h';try simp[*,-h] at h')|(exact⟨⟨_,rfl⟩,fun d i c hd hne=>(hpf d i c (by omega) hne).trans (by have hd2:d≠k+3:=(by omega);first|exact HF.out d i c hd hne|(simp[*];done)|(simp[*];exact HF.out d i c hd hne))⟩)|((with_reducible apply Aa (f:=74));(iterate 5 exact Z5);(apply may (k+3) (by omega));decide;constructor;((conv=>lhs;simp -implicitDefEqProofs [*,-Int.natCast_add])<;>exact rfl);exact Zc;assumption;omega;rotate_left;(rintro _ hpp ⟨⟨a,rfl⟩,hpf⟩);rotate_right;(rintro _ hp2 (⟨rfl,⟨hb2,ha2,_,_⟩,hf2⟩|⟨rfl,hn2,⟨hb2,ha2,_,hle2⟩,hf2⟩)<;>(have hO2:=hf2.own (by omega);have hL2:=hf2.all (k:=k+2) (by omega);clear hf2)))|((with_reducible apply Aa (f:=76));(iterate 5 exact Z5);(apply take (k+3) (by omega));decide;constructor;((conv=>lhs;simp -implicitDefEqProofs [*,-Int.natCast_add])<;>exact rfl);exact Zc;assumption;omega;rotate_left;(rintro _ hpp ⟨⟨a,rfl⟩,hpf⟩);rotate_right;(rintro _ hp2 ⟨⟨tk2,tt2,tn2,ta2⟩,rfl,hn2,⟨hb2,ha2,_,hle2⟩,hf2⟩;have hO2:=hf2.own (by omega);have hL2:=hf2.all (k:=k+2) (by omega);clear hf2;simp only[Tok.row_mk]))|fail)
 ·have hfar:=HF.out
  exact⟨l,n2,by simp[*],hnl,hnn,⟨by simp[*],by simp[*],hlen,hle3⟩,fun d i c hd hne=>by have hd2:d≠k+3:=(by omega);simp[*];exact hfar d i c hd hne⟩
 ·have hfar:=HF.out
  exact⟨T.length - (n2+1+1),by omega,n2+1+1,g+1,l++[tt2],rfl,by simp;omega,by omega,by simp[*],by simp[*],by simp[*],⟨by simp[*],by simp[*],hlen,hle2⟩,fun d i c hd hne=>by have hd2:d≠k+3:=(by omega);simp[*];exact hfar d i c hd hne⟩
theorem Hf {T:List Tok}{e:Int}{q n gx gy:Nat}{s:ByteArray}{s0 gl:Nat}(D:Nat)(hD:2<=D)(d:Nat)(hp1:Hp)(hls:hp1 ⟨D,s0,0⟩= .arr gl 1 9 [[tz s]] false)(hs:s≠⟨#[]⟩)(hr:Rd T e q gx gy n hp1):
  HB Tryz.prog E47 (Lm X46) D d 77 [.ptr ⟨1,q,0⟩ gx 0,.own ⟨D,s0,0⟩ gl 1] hp1 (fun v hp2=>v= .tup []/\n+1<=T.length/\Rd T e q gx gy (n+1) hp2/\Far D q hp1 hp2) (Wr D q hp1):=
 must (l:=[s]) D hD d hp1 (fun x hx=>by simp at hx;rw[hx];exact hs) (by simp) hls hr
theorem must2 {T:List Tok}{e:Int}{q n gx gy:Nat}{s t:ByteArray}{s0 gl:Nat}(D:Nat)(hD:2<=D)(d:Nat)(hp1:Hp)(hls:hp1 ⟨D,s0,0⟩= .arr gl 1 9 [[tz s],[tz t]] false)(hs:s≠⟨#[]⟩)(ht:t≠⟨#[]⟩)(hr:Rd T e q gx gy n hp1):
  HB Tryz.prog E47 (Lm X46) D d 77 [.ptr ⟨1,q,0⟩ gx 0,.own ⟨D,s0,0⟩ gl 2] hp1 (fun v hp2=>v= .tup []/\n+2<=T.length/\Rd T e q gx gy (n+2) hp2/\Far D q hp1 hp2) (Wr D q hp1):=
 must (l:=[s,t]) D hD d hp1 (fun x hx=>by simp at hx;rcases hx with rfl|rfl;exact hs;exact ht) (by simp) hls hr
@[simp] theorem Au (k o n:Int)(s:Tx)(l:List Sy.Ex):(Sy.Ex.mk k o n s l).row=[iz k,iz o,uz n,tz s.1,.sl false 5 (exRows l)]:=Sy.Ex.row_eq _
@[simp] theorem A2 (k o n:Int)(s:Tx)(l:List Sy.Ex):(Sy.Ex.mk k o n s l).size=exSize l+1:=Sy.Ex.size_eq _
end Go.Proofs.YtpmoibjpjlhcgaaGreatDoor
namespace Go.Proofs.YtpmoibjpjlhcgaaGreatDoor
open Go Go.Ab Go.Ab.Sy
def RE (T:List Tok)(e:Int)(q gx gy n D:Nat)(hp1:Hp)(v:AV)(hp2:Hp):Prop:= ∃(x:Sy.Ex) (n2:Nat),v= .agg x.row/\n+x.size<=n2/\n<n2/\Rd T e q gx gy n2 hp2/\Far D q hp1 hp2
def RL (T:List Tok)(e:Int)(q gx gy n D:Nat)(hp1:Hp)(v:AV)(hp2:Hp):Prop:= ∃(x:List Sy.Ex) (n2:Nat),v= .sl false 5 (exRows x)/\n+exSize x<=n2/\n<n2/\Rd T e q gx gy n2 hp2/\Far D q hp1 hp2
theorem atom_w {T:List Tok}{e:Int}{q n gx gy:Nat}(D:Nat)(hD:2<=D)(d:Nat)(hp1:Hp)(ihE: ∀(D:Nat) (hD:2<=D) (d:Nat) (hp1:Hp) {n2:Nat} {ls:Int} (hls:1<=ls) (hr:Rd T e q gx gy n2 hp1) (hn:n<n2),HB Tryz.prog E47 (Lm X46) D d 239 [.ptr ⟨1,q,0⟩ gx 0,iv ls] hp1 (RE T e q gx gy n2 D hp1) (Wr D q hp1))(ihA: ∀(D:Nat) (hD:2<=D) (d:Nat) (hp1:Hp) {n2:Nat} (hr:Rd T e q gx gy n2 hp1) (hn:n<n2),HB Tryz.prog E47 (Lm X46) D d 290 [.ptr ⟨1,q,0⟩ gx 0] hp1 (RE T e q gx gy n2 D hp1) (Wr D q hp1))(ihG: ∀(D:Nat) (hD:2<=D) (d:Nat) (hp1:Hp) {n2:Nat} (hr:Rd T e q gx gy n2 hp1) (hn:n<n2),HB Tryz.prog E47 (Lm X46) D d 292 [.ptr ⟨1,q,0⟩ gx 0] hp1 (RL T e q gx gy n2 D hp1) (Wr D q hp1))(hr:Rd T e q gx gy n hp1):HB Tryz.prog E47 (Lm X46) D d 290 [.ptr ⟨1,q,0⟩ gx 0] hp1 (RE T e q gx gy n D hp1) (Wr D q hp1):=by
 obtain⟨k,rfl⟩: ∃k,D=k+2:=⟨D - 2,by omega⟩
 clear hD
 refine Be (k1:=k+3) (PR:=Wr (k+2) q hp1) rfl Tryz.func290 rfl rfl Vq rfl rvs_290 E1a ?_
 obtain⟨h1,h2,hlen,hle⟩:=hr
 repeat' (first|refine ZN ?_|refine Z2 ?_ ?_|(intro h h';try simp[*,-h] at h')|(exact⟨⟨_,rfl⟩,fun d i c hd hne=>(hpf d i c (by omega) hne).trans (by have hd2:d≠k+3:=(by omega);first|exact HF.out d i c hd hne|(simp[*];done)|(simp[*];exact HF.out d i c hd hne))⟩)|((with_reducible apply Aa (f:=112));(iterate 5 exact Z5);(apply kind (k+3) (by omega));constructor;((conv=>lhs;simp -implicitDefEqProofs [*,-Int.natCast_add])<;>exact rfl);exact Zc;assumption;omega;rotate_left;(rintro _ hpp ⟨⟨a,rfl⟩,hpf⟩);rotate_right;(rintro _ hp2 ⟨rfl,⟨hb2,ha2,_,_⟩,hf2⟩;have hO2:=hf2.own (by omega);have hL2:=hf2.all (k:=k+2) (by omega);clear hf2))|((with_reducible apply Aa (f:=74));(iterate 5 exact Z5);(apply may (k+3) (by omega));decide;constructor;((conv=>lhs;simp -implicitDefEqProofs [*,-Int.natCast_add])<;>exact rfl);exact Zc;assumption;omega;rotate_left;(rintro _ hpp ⟨⟨a,rfl⟩,hpf⟩);rotate_right;(rintro _ hp2 (⟨rfl,⟨hb2,ha2,_,_⟩,hf2⟩|⟨rfl,hn2,⟨hb2,ha2,_,hle2⟩,hf2⟩)<;>(have hO2:=hf2.own (by omega);have hL2:=hf2.all (k:=k+2) (by omega);clear hf2)))|((with_reducible apply Aa (f:=76));(iterate 5 exact Z5);(apply take (k+3) (by omega));decide;constructor;((conv=>lhs;simp -implicitDefEqProofs [*,-Int.natCast_add])<;>exact rfl);exact Zc;assumption;omega;rotate_left;(rintro _ hpp ⟨⟨a,rfl⟩,hpf⟩);rotate_right;(rintro _ hp2 ⟨⟨tk2,tt2,tn2,ta2⟩,rfl,hn2,⟨hb2,ha2,_,hle2⟩,hf2⟩;have hO2:=hf2.own (by omega);have hL2:=hf2.all (k:=k+2) (by omega);clear hf2;simp only[Tok.row_mk]))|((with_reducible apply Aa (f:=77));(iterate 5 exact Z5);(apply Hf (k+3) (by omega));exact Zc;decide;constructor;((conv=>lhs;simp -implicitDefEqProofs [*,-Int.natCast_add])<;>exact rfl);exact Zc;assumption;omega;rotate_left;(rintro _ hpp ⟨⟨a,rfl⟩,hpf⟩);rotate_right;(rintro _ hp2 ⟨rfl,hn2,⟨hb2,ha2,_,hle2⟩,hf2⟩;have hO2:=hf2.own (by omega);have hL2:=hf2.all (k:=k+2) (by omega);clear hf2))|((with_reducible apply Aa (f:=77));(iterate 5 exact Z5);(apply must2 (k+3) (by omega));exact Zc;decide;decide;constructor;((conv=>lhs;simp -implicitDefEqProofs [*,-Int.natCast_add])<;>exact rfl);exact Zc;assumption;omega;rotate_left;(rintro _ hpp ⟨⟨a,rfl⟩,hpf⟩);rotate_right;(rintro _ hp2 ⟨rfl,hn2,⟨hb2,ha2,_,hle2⟩,hf2⟩;have hO2:=hf2.own (by omega);have hL2:=hf2.all (k:=k+2) (by omega);clear hf2))|((with_reducible apply Aa (f:=239));(iterate 5 exact Z5);(apply ihE (k+3) (by omega));omega;constructor;((conv=>lhs;simp -implicitDefEqProofs [*,-Int.natCast_add])<;>exact rfl);exact Zc;assumption;omega;omega;rotate_left;(rintro _ hpp ⟨⟨a,rfl⟩,hpf⟩);rotate_right;(rintro _ hp2 ⟨⟨xk,xo,xn,xs,xl⟩,m2,rfl,hs2,hn2,⟨hb2,ha2,_,hle2⟩,hf2⟩;have hO2:=hf2.own (by omega);have hL2:=hf2.all (k:=k+2) (by omega);clear hf2;simp only[Au,A2] at*))|((with_reducible apply Aa (f:=290));(iterate 5 exact Z5);(apply ihA (k+3) (by omega));constructor;((conv=>lhs;simp -implicitDefEqProofs [*,-Int.natCast_add])<;>exact rfl);exact Zc;assumption;omega;omega;rotate_left;(rintro _ hpp ⟨⟨a,rfl⟩,hpf⟩);rotate_right;(rintro _ hp2 ⟨⟨xk,xo,xn,xs,xl⟩,m2,rfl,hs2,hn2,⟨hb2,ha2,_,hle2⟩,hf2⟩;have hO2:=hf2.own (by omega);have hL2:=hf2.all (k:=k+2) (by omega);clear hf2;simp only[Au,A2] at*))|((with_reducible apply Aa (f:=292));(iterate 5 exact Z5);(apply ihG (k+3) (by omega));constructor;((conv=>lhs;simp -implicitDefEqProofs [*,-Int.natCast_add])<;>exact rfl);exact Zc;assumption;omega;omega;rotate_left;(rintro _ hpp ⟨⟨a,rfl⟩,hpf⟩);rotate_right;(rintro _ hp2 ⟨xl,m2,rfl,hs2,hn2,⟨hb2,ha2,_,hle2⟩,hf2⟩;have hO2:=hf2.own (by omega);have hL2:=hf2.all (k:=k+2) (by omega);clear hf2))|fail)
 ·exact⟨.mk 1 0 tn2 tx0 [],n+1,by simp[*],by(try simp);try omega,by omega,⟨by simp[*],by simp[*],hlen,by omega⟩,fun d i c hd hne=>by have hd2:d≠k+3:=(by omega);simp[*]⟩
 ·exact⟨.mk 2 0 0 tt2 [],n+1,by simp[*],by(try simp);try omega,by omega,⟨by simp[*],by simp[*],hlen,by omega⟩,fun d i c hd hne=>by have hd2:d≠k+3:=(by omega);simp[*]⟩
 ·exact⟨.mk 4 0 0 tt2 xl,m2,by simp[*],by(try simp);try omega,by omega,⟨by simp[*],by simp[*],hlen,by omega⟩,fun d i c hd hne=>by have hd2:d≠k+3:=(by omega);simp[*]⟩
 ·exact⟨.mk 3 0 0 tt2 [.mk xk xo xn xs xl],m2+1,by simp[*],by(try simp);try omega,by omega,⟨by simp[*],by simp[*],hlen,by omega⟩,fun d i c hd hne=>by have hd2:d≠k+3:=(by omega);simp[*]⟩
 ·exact⟨.mk 7 0 0 tx0 [.mk xk xo xn xs xl],m2,by simp[*],by(try simp);try omega,by omega,⟨by simp[*],by simp[*],hlen,by omega⟩,fun d i c hd hne=>by have hd2:d≠k+3:=(by omega);simp[*]⟩
 ·exact⟨.mk xk xo xn xs xl,m2+1,by simp[*],by(try simp);try omega,by omega,⟨by simp[*],by simp[*],hlen,by omega⟩,fun d i c hd hne=>by have hd2:d≠k+3:=(by omega);simp[*]⟩
 ·exact⟨.mk 5 0 0 tx0 [],n+1+2,by simp[*],by(try simp);try omega,by omega,⟨by simp[*],by simp[*],hlen,by omega⟩,fun d i c hd hne=>by have hd2:d≠k+3:=(by omega);simp[*]⟩
theorem Aea (l:List Sy.Ex):(exRows l).take l.length=exRows l:=by rw[List.take_of_length_le (by simp)]
theorem sign (s:ByteArray): ∃ke oe st:Int,(Lm X46).dat 291 [tv s]=some [.agg [iz ke,iz oe,uz 0,tz ⟨#[]⟩,.vec 5 []],iz st]/\0<=st/\st<=9/\(1<=st->s≠⟨#[]⟩):=by
 obtain⟨rs,h1,ke,oe,st,rfl,h2⟩:=fnR (P:=Tryz.prog) (E:=E47) (X:=X46) (args:=[tv s]) (R:=fun rs=> ∃ke oe st:Int,rs=[.agg [iz ke,iz oe,uz 0,tz ⟨#[]⟩,.vec 5 []],iz st]/\0<=st/\st<=9/\(1<=st->s≠⟨#[]⟩)) Tryz.func291 rfl rfl Vp rfl E0a rvs_291 (by
  have hop: ∀o:Int,(Lm X46).dat 322 [iz o]=some [.agg [iz 6,iz o,uz 0,tz ⟨#[]⟩,.vec 5 []]]:=fun o=>by
   refine fnW Tryz.func322 rfl rfl Vj rfl Ewa rvs_322 ?_
   exact ZS
  repeat' (first|refine ZN ?_|refine Z2 ?_ ?_|(intro h h';try simp[*,-h] at h'))
  all_goals (refine⟨_,_,_,rfl,by decide,by decide,?_⟩)
  all_goals (first|(intro hh;exact absurd hh (by decide))|(rintro _ rfl;simp_all)))
 exact⟨ke,oe,st,h1,h2⟩
theorem args_w {T:List Tok}{e:Int}{q n gx gy:Nat}(D:Nat)(hD:2<=D)(d:Nat)(hp1:Hp)(ihE: ∀(D:Nat) (hD:2<=D) (d:Nat) (hp1:Hp) {n2:Nat} {ls:Int} (hls:1<=ls) (hr:Rd T e q gx gy n2 hp1) (hn:n<=n2),HB Tryz.prog E47 (Lm X46) D d 239 [.ptr ⟨1,q,0⟩ gx 0,iv ls] hp1 (RE T e q gx gy n2 D hp1) (Wr D q hp1))(hr:Rd T e q gx gy n hp1):HB Tryz.prog E47 (Lm X46) D d 292 [.ptr ⟨1,q,0⟩ gx 0] hp1 (RL T e q gx gy n D hp1) (Wr D q hp1):=by
 obtain⟨k,rfl⟩: ∃k,D=k+2:=⟨D - 2,by omega⟩
 clear hD
 refine Be (k1:=k+3) (PR:=Wr (k+2) q hp1) rfl Tryz.func292 rfl rfl Vo rfl rvs_292 Eza ?_
 obtain⟨h1,h2,hlen,hle⟩:=hr
 repeat' (first|refine ZN ?_|refine Z2 ?_ ?_|(intro h h';try simp[*,-h] at h')|(exact⟨⟨_,rfl⟩,fun d i c hd hne=>(hpf d i c (by omega) hne).trans (by have hd2:d≠k+3:=(by omega);first|exact HF.out d i c hd hne|(simp[*];done)|(simp[*];exact HF.out d i c hd hne))⟩)|((with_reducible apply Aa (f:=74));(iterate 5 exact Z5);(apply may (k+3) (by omega));decide;constructor;((conv=>lhs;simp -implicitDefEqProofs [*,-Int.natCast_add])<;>exact rfl);exact Zc;assumption;omega;rotate_left;(rintro _ hpp ⟨⟨a,rfl⟩,hpf⟩);rotate_right;(rintro _ hp2 (⟨rfl,⟨hb2,ha2,_,_⟩,hf2⟩|⟨rfl,hn2,⟨hb2,ha2,_,hle2⟩,hf2⟩)<;>(have hO2:=hf2.own (by omega);have hL2:=hf2.all (k:=k+2) (by omega);clear hf2)))|((with_reducible apply Aa (f:=77));(iterate 5 exact Z5);(apply Hf (k+3) (by omega));exact Zc;decide;constructor;((conv=>lhs;simp -implicitDefEqProofs [*,-Int.natCast_add])<;>exact rfl);exact Zc;assumption;omega;rotate_left;(rintro _ hpp ⟨⟨a,rfl⟩,hpf⟩);rotate_right;(rintro _ hp2 ⟨rfl,hn2,⟨hb2,ha2,_,hle2⟩,hf2⟩;have hO2:=hf2.own (by omega);have hL2:=hf2.all (k:=k+2) (by omega);clear hf2))|((with_reducible apply Aa (f:=239));(iterate 5 exact Z5);(apply ihE (k+3) (by omega));omega;constructor;((conv=>lhs;simp -implicitDefEqProofs [*,-Int.natCast_add])<;>exact rfl);exact Zc;assumption;omega;omega;rotate_left;(rintro _ hpp ⟨⟨a,rfl⟩,hpf⟩);rotate_right;(rintro _ hp2 ⟨⟨xk,xo,xn,xs,xl⟩,m2,rfl,hs2,hn2,⟨hb2,ha2,_,hle2⟩,hf2⟩;have hO2:=hf2.own (by omega);have hL2:=hf2.all (k:=k+2) (by omega);clear hf2;simp only[Au,A2] at*))|fail)
 all_goals try exact⟨[],n+1,by simp[*],by(try simp);try omega,by omega,⟨by simp[*],by simp[*],hlen,by omega⟩,fun d i c hd hne=>by have hd2:d≠k+3:=(by omega);simp[*]⟩
 refine Ah (n:=T.length - m2) (fun s0 m s=> ∃(n2 g:Nat) (l:List Sy.Ex),m=T.length - n2/\n+exSize l<=n2/\n<n2/\s.fr 0=s0.fr 0/\s.fr 3= .own ⟨k+3,8,0⟩ g l.length/\s.hp ⟨k+3,8,0⟩= .arr g 5 288 (exRows l) false/\Rd T e q gx gy n2 s.hp/\Far (k+2) q hp1 s.hp) ⟨m2,_,[.mk xk xo xn xs xl],by omega,by simp;omega,by omega,by simp,by simp;rfl,by simp[*],⟨by simp[*],by simp[*],hlen,hle2⟩,fun d i c hd hne=>by have hd2:d≠k+3:=(by omega);simp[*]⟩ ?_
 clear h1 h2 hb2 ha2 hO2 hL2
 rintro m ⟨fr,hp⟩ ⟨n2,g,l,rfl,hnl,hnn,f0,f3,hl,⟨hb,ha,_,hle3⟩,hfar⟩
 simp at f0 f3 hl ha hfar
 simp only at hb
 have HF:=Lib.hid hfar
 clear hfar
 have hll:=Bv l
 have a1:(l.length+1)*64<=140737488355328:=by omega
 have a2:l.length<=9223372036854775806:=by omega
 have a3:=Aea l
 repeat' (first|refine ZN ?_|refine Z2 ?_ ?_|(intro h h';try simp[*,-h] at h')|(exact⟨⟨_,rfl⟩,fun d i c hd hne=>(hpf d i c (by omega) hne).trans (by have hd2:d≠k+3:=(by omega);first|exact HF.out d i c hd hne|(simp[*];done)|(simp[*];exact HF.out d i c hd hne))⟩)|((with_reducible apply Aa (f:=74));(iterate 5 exact Z5);(apply may (k+3) (by omega));decide;constructor;((conv=>lhs;simp -implicitDefEqProofs [*,-Int.natCast_add])<;>exact rfl);exact Zc;assumption;omega;rotate_left;(rintro _ hpp ⟨⟨a,rfl⟩,hpf⟩);rotate_right;(rintro _ hp2 (⟨rfl,⟨hb2,ha2,_,_⟩,hf2⟩|⟨rfl,hn2,⟨hb2,ha2,_,hle2⟩,hf2⟩)<;>(have hO2:=hf2.own (by omega);have hL2:=hf2.all (k:=k+2) (by omega);clear hf2)))|((with_reducible apply Aa (f:=77));(iterate 5 exact Z5);(apply Hf (k+3) (by omega));exact Zc;decide;constructor;((conv=>lhs;simp -implicitDefEqProofs [*,-Int.natCast_add])<;>exact rfl);exact Zc;assumption;omega;rotate_left;(rintro _ hpp ⟨⟨a,rfl⟩,hpf⟩);rotate_right;(rintro _ hp2 ⟨rfl,hn2,⟨hb2,ha2,_,hle2⟩,hf2⟩;have hO2:=hf2.own (by omega);have hL2:=hf2.all (k:=k+2) (by omega);clear hf2))|((with_reducible apply Aa (f:=239));(iterate 5 exact Z5);(apply ihE (k+3) (by omega));omega;constructor;((conv=>lhs;simp -implicitDefEqProofs [*,-Int.natCast_add])<;>exact rfl);exact Zc;assumption;omega;omega;rotate_left;(rintro _ hpp ⟨⟨a,rfl⟩,hpf⟩);rotate_right;(rintro _ hp2 ⟨⟨xk,xo,xn,xs,xl⟩,m2,rfl,hs2,hn2,⟨hb2,ha2,_,hle2⟩,hf2⟩;have hO2:=hf2.own (by omega);have hL2:=hf2.all (k:=k+2) (by omega);clear hf2;simp only[Au,A2] at*))|fail)
 ·have hfar:=HF.out
  exact⟨l,n2+1,by simp[*],by omega,by omega,⟨by simp[*],by simp[*],hlen,by omega⟩,fun d i c hd hne=>by have hd2:d≠k+3:=(by omega);simp[*];exact hfar d i c hd hne⟩
 ·have hfar:=HF.out
  exact⟨T.length - m2,by omega,m2,g+1,l++[.mk xk xo xn xs xl],rfl,by simp;omega,by omega,by simp[*],by simp[*],by simp[*],⟨by simp[*],by simp[*],hlen,hle2⟩,fun d i c hd hne=>by have hd2:d≠k+3:=(by omega);simp[*];exact hfar d i c hd hne⟩
end Go.Proofs.YtpmoibjpjlhcgaaGreatDoor
namespace Go.Proofs.YtpmoibjpjlhcgaaGreatDoor
open Go Go.Ab Go.Ab.Sy
theorem expr_w {T:List Tok}{e:Int}{q n gx gy:Nat}{ls:Int}(D:Nat)(hD:2<=D)(d:Nat)(hp1:Hp)(ihE: ∀(D:Nat) (hD:2<=D) (d:Nat) (hp1:Hp) {n2:Nat} {ls:Int} (hls:1<=ls) (hr:Rd T e q gx gy n2 hp1) (hn:n<n2),HB Tryz.prog E47 (Lm X46) D d 239 [.ptr ⟨1,q,0⟩ gx 0,iv ls] hp1 (RE T e q gx gy n2 D hp1) (Wr D q hp1))(ihA: ∀(D:Nat) (hD:2<=D) (d:Nat) (hp1:Hp) {n2:Nat} (hr:Rd T e q gx gy n2 hp1) (hn:n<=n2),HB Tryz.prog E47 (Lm X46) D d 290 [.ptr ⟨1,q,0⟩ gx 0] hp1 (RE T e q gx gy n2 D hp1) (Wr D q hp1))(hls:1<=ls)(hr:Rd T e q gx gy n hp1):HB Tryz.prog E47 (Lm X46) D d 239 [.ptr ⟨1,q,0⟩ gx 0,iv ls] hp1 (RE T e q gx gy n D hp1) (Wr D q hp1):=by
 obtain⟨k,rfl⟩: ∃k,D=k+2:=⟨D - 2,by omega⟩
 clear hD
 refine Be (k1:=k+3) (PR:=Wr (k+2) q hp1) rfl Tryz.func239 rfl rfl Wb rfl rvs_239 E8a ?_
 obtain⟨h1,h2,hlen,hle⟩:=hr
 repeat' (first|refine ZN ?_|refine Z2 ?_ ?_|(intro h h';try simp[*,-h] at h')|(exact⟨⟨_,rfl⟩,fun d i c hd hne=>(hpf d i c (by omega) hne).trans (by have hd2:d≠k+3:=(by omega);first|exact HF.out d i c hd hne|(simp[*];done)|(simp[*];exact HF.out d i c hd hne))⟩)|((with_reducible apply Aa (f:=290));(iterate 5 exact Z5);(apply ihA (k+3) (by omega));constructor;((conv=>lhs;simp -implicitDefEqProofs [*,-Int.natCast_add])<;>exact rfl);exact Zc;assumption;omega;omega;rotate_left;(rintro _ hpp ⟨⟨a,rfl⟩,hpf⟩);rotate_right;(rintro _ hp2 ⟨⟨xk,xo,xn,xs,xl⟩,m2,rfl,hs2,hn2,⟨hb2,ha2,_,hle2⟩,hf2⟩;have hO2:=hf2.own (by omega);have hL2:=hf2.all (k:=k+2) (by omega);clear hf2;simp only[Au,A2] at*))|fail)
 refine Ah (n:=T.length - m2) (fun s0 m s=> ∃(n2 g:Nat) (x:Sy.Ex) (kc:AV),m=T.length - n2/\n+x.size<=n2/\n<n2/\s.fr 0=s0.fr 0/\s.fr 1=s0.fr 1/\s.fr 4=s0.fr 4/\s.fr 5= .ptr ⟨k+3,5,0⟩ g 0/\s.hp ⟨k+3,5,0⟩= .box g [iz x.kind,iz x.op,uz x.num,tz x.name,kc] false/\
  (kc= .sl false 5 (exRows x.kids)\/ ∃g',kc= .own ⟨k+3,5,5⟩ g' x.kids.length/\s.hp ⟨k+3,5,5⟩= .arr g' 5 288 (exRows x.kids) false)/\s.hp ⟨k+3,4,0⟩= .box ((hp1 ⟨k+3,4,0⟩).gen+1) [iv 0,iv 0,uv 0,tv ⟨⟨[]⟩⟩,.own ⟨k+3,4,5⟩ ((hp1 ⟨k+3,4,5⟩).gen+1) 0] false/\Rd T e q gx gy n2 s.hp/\Far (k+2) q hp1 s.hp)
  ⟨m2,_,.mk xk xo xn xs xl,_,rfl,by simp;omega,by omega,by simp,by simp,by simp,by simp;rfl,by simp[Sy.Ex.kind,Sy.Ex.op,Sy.Ex.num,Sy.Ex.name];rfl,.inl (by simp[Sy.Ex.kids]),by simp[*],⟨by simp[*],by simp[*],hlen,hle2⟩,fun d i c hd hne=>by have hd2:d≠k+3:=(by omega);simp[*]⟩ ?_
 rintro m ⟨fr,hp⟩ ⟨n2,g,⟨lk,lo,ln,ls_,ll⟩,kc,rfl,hnl,hnn,f0,f1,f4,f5,h5,hkc,h4,⟨hb,ha,_,hle3⟩,hfar⟩
 simp[Sy.Ex.kind,Sy.Ex.op,Sy.Ex.num,Sy.Ex.name,Sy.Ex.kids] at f0 f1 f4 f5 h5 hkc ha hfar hnl
 simp at h4
 simp only at hb
 clear h1 h2 hb2 ha2 hO2 hL2
 have HF:=Lib.hid hfar
 clear hfar
 obtain⟨ke,oe,st,hsg,hs0,hs9,hsn⟩:=sign (peekT T n2)
 have w1:IntKind.i64.wrap ((n2:Int)+1)=(n2:Int)+1:=wrapN (by omega)
 have w2:IntKind.i64.wrap (st+1)=st+1:=Ag (by omega) (by omega)
 have a3:=Aea ll
 have hn3:1<=st->n2<T.length:=fun h=>Mi rfl (hsn h)
 have HN:=Lib.hid hn3
 clear hsn hn3
 rcases hkc with rfl|⟨g',rfl,h55⟩
 all_goals by_cases hlt:st<ls
 all_goals (try have hn2':n2<T.length:=HN.out (by omega))
 repeat' (first|((apply Kf (c:=4) (idx:=[0,1,2,3]) (d:=31));kernel_rfl;kernel_rfl;(simp only[List.map_cons,List.map_nil,Array.getD_eq_getD_getElem?,List.getElem?_toArray,List.getElem?_cons_zero,List.getElem?_cons_succ,Option.getD_some]);(repeat' (first|exact Free.nil|((with_reducible apply Cb);(exact Zc))));exact rfl;exact Zc;(exact Mm);decide;exact Zc;(apply ihE (k+3) (by omega));omega;constructor;(conv=>lhs;simp -implicitDefEqProofs [*,-Int.natCast_add]);(rw[show((n2:Int)+1)=((n2+1:Nat):Int) from by omega]);exact Zc;assumption;omega;omega;rotate_left;(rintro _ hpp ⟨⟨a,rfl⟩,hpf⟩);rotate_right;(rintro _ hp2 h1c ⟨⟨xk,xo,xn,xs,xl⟩,m2,rfl,hs2,hn2,⟨hb2,ha2,_,hle2⟩,hf2⟩;have hO2:=hf2.own (by omega);have hL2:=hf2.all (k:=k+2) (by omega);clear hf2;simp only[Au,A2] at*);(refine Cu (by kernel_rfl) ?_);(repeat (first|((with_reducible apply Wd_u);(exact Zc))|((with_reducible apply Wd_n);(exact Zc))));(with_reducible apply A7);(apply Ao (ps:=[(0,1),(0,2),(1,2),(0,3),(1,3),(0,4)]));kernel_rfl;(iterate 5 refine Zk ?_);(refine List.forall_mem_cons.2 ⟨?_,?_⟩);((focus (refine Ca (by simp) (by simp) rfl ?_;(repeat' (refine List.forall_mem_cons.2 ⟨⟨trivial,rfl,by simp[Facet.nm],by simp[Facet.nm],by simp[Facet.nm],by simp[Facet.nm, *]⟩,?_⟩));exact fun y hy=>by cases hy)));(exact Zz))|(refine Z1 ?_)|(refine Z2 ?_ ?_)|(intro h h';try simp[*,-h] at h')|(exact⟨⟨_,rfl⟩,fun d i c hd hne=>(hpf d i c (by omega) hne).trans (by have hd2:d≠k+3:=(by omega);first|exact HF.out d i c hd hne|(simp[*];done)|(simp[*];exact HF.out d i c hd hne))⟩)|((with_reducible apply Aa (f:=111));(iterate 5 exact Z5);(apply peek (k+3) (by omega));constructor;((conv=>lhs;simp -implicitDefEqProofs [*,-Int.natCast_add])<;>exact rfl);exact Zc;assumption;omega;rotate_left;(rintro _ hpp ⟨⟨a,rfl⟩,hpf⟩);rotate_right;(rintro _ hp2 ⟨rfl,⟨hb2,ha2,_,_⟩,hf2⟩;have hO2:=hf2.own (by omega);have hL2:=hf2.all (k:=k+2) (by omega);clear hf2))|fail)
 all_goals have hfar:=HF.out
 all_goals first
  |exact⟨.mk lk lo ln ls_ ll,n2,by simp[*],by simp;omega,hnn,⟨by simp[*],by simp[*],hlen,hle3⟩,fun d i c hd hne=>by have hd2:d≠k+3:=(by omega);simp[*];exact hfar d i c hd hne⟩
  |exact⟨T.length - m2,by omega,m2,g,.mk ke oe 0 tx0 [.mk lk lo ln ls_ ll,.mk xk xo xn xs xl],.own ⟨k+3,5,5⟩ ((hp ⟨k+3,5,5⟩).gen+1) 2,rfl,by simp;omega,by omega,by simp[*],by simp[*],by simp[*],by simp[*],by simp[Sy.Ex.kind,Sy.Ex.op,Sy.Ex.num,Sy.Ex.name, *];done,.inr ⟨_,rfl,by simp[Sy.Ex.kids, *];done⟩,by simp[*],⟨by simp[*],by simp[*],hlen,hle2⟩,fun d i c hd hne=>by have hd2:d≠k+3:=(by omega);simp[*];exact hfar d i c hd hne⟩
  |exact⟨T.length - m2,by omega,m2,g,.mk ke oe 0 tx0 [.mk lk lo ln ls_ ll,.mk xk xo xn xs xl],.own ⟨k+3,5,5⟩ (g'+1) 2,rfl,by simp;omega,by omega,by simp[*],by simp[*],by simp[*],by simp[*],by simp[Sy.Ex.kind,Sy.Ex.op,Sy.Ex.num,Sy.Ex.name, *];done,.inr ⟨_,rfl,by simp[Sy.Ex.kids, *];done⟩,by simp[*],⟨by simp[*],by simp[*],hlen,hle2⟩,fun d i c hd hne=>by have hd2:d≠k+3:=(by omega);simp[*];exact hfar d i c hd hne⟩
end Go.Proofs.YtpmoibjpjlhcgaaGreatDoor
namespace Go.Proofs.YtpmoibjpjlhcgaaGreatDoor
open Go Go.Ab Go.Ab.Sy
theorem exprs (T:List Tok)(e:Int)(q gx gy:Nat): ∀m n:Nat,T.length+1 - n<=m->
  (∀(D:Nat) (hD:2<=D) (d:Nat) (hp1:Hp) (hr:Rd T e q gx gy n hp1),HB Tryz.prog E47 (Lm X46) D d 290 [.ptr ⟨1,q,0⟩ gx 0] hp1 (RE T e q gx gy n D hp1) (Wr D q hp1))/\
  (∀(D:Nat) (hD:2<=D) (d:Nat) (hp1:Hp) (ls:Int) (hls:1<=ls) (hr:Rd T e q gx gy n hp1),HB Tryz.prog E47 (Lm X46) D d 239 [.ptr ⟨1,q,0⟩ gx 0,iv ls] hp1 (RE T e q gx gy n D hp1) (Wr D q hp1))/\
  (∀(D:Nat) (hD:2<=D) (d:Nat) (hp1:Hp) (hr:Rd T e q gx gy n hp1),HB Tryz.prog E47 (Lm X46) D d 292 [.ptr ⟨1,q,0⟩ gx 0] hp1 (RL T e q gx gy n D hp1) (Wr D q hp1)):=by
 intro m
 induction m using Nat.strongRecOn with
 |_ m ih=>
  intro n hm
  have ihE: ∀(D:Nat) (hD:2<=D) (d:Nat) (hp1:Hp) {n2:Nat} {ls:Int} (hls:1<=ls) (hr:Rd T e q gx gy n2 hp1) (hn:n<n2),HB Tryz.prog E47 (Lm X46) D d 239 [.ptr ⟨1,q,0⟩ gx 0,iv ls] hp1 (RE T e q gx gy n2 D hp1) (Wr D q hp1):=
   fun D hD d hp1 n2 ls hls hr hn=>(ih (T.length+1 - n2) (by have:=hr.le;omega) n2 (Nat.le_refl _)).2.1 D hD d hp1 ls hls hr
  have hA: ∀(D:Nat) (hD:2<=D) (d:Nat) (hp1:Hp) (hr:Rd T e q gx gy n hp1),HB Tryz.prog E47 (Lm X46) D d 290 [.ptr ⟨1,q,0⟩ gx 0] hp1 (RE T e q gx gy n D hp1) (Wr D q hp1):=
   fun D hD d hp1 hr=>atom_w D hD d hp1 ihE (fun D hD d hp1 n2 hr hn=>(ih (T.length+1 - n2) (by have:=hr.le;omega) n2 (Nat.le_refl _)).1 D hD d hp1 hr) (fun D hD d hp1 n2 hr hn=>(ih (T.length+1 - n2) (by have:=hr.le;omega) n2 (Nat.le_refl _)).2.2 D hD d hp1 hr) hr
  have hE: ∀(D:Nat) (hD:2<=D) (d:Nat) (hp1:Hp) (ls:Int) (hls:1<=ls) (hr:Rd T e q gx gy n hp1),HB Tryz.prog E47 (Lm X46) D d 239 [.ptr ⟨1,q,0⟩ gx 0,iv ls] hp1 (RE T e q gx gy n D hp1) (Wr D q hp1):=
   fun D hD d hp1 ls hls hr=>expr_w D hD d hp1 ihE (fun D hD d hp1 n2 hr hn=>by
    by_cases h:n=n2
    ·subst h;exact hA D hD d hp1 hr
    ·exact(ih (T.length+1 - n2) (by have:=hr.le;omega) n2 (Nat.le_refl _)).1 D hD d hp1 hr) hls hr
  exact⟨hA,hE,fun D hD d hp1 hr=>args_w D hD d hp1 (fun D hD d hp1 n2 ls hls hr hn=>by
    by_cases h:n=n2
    ·subst h;exact hE D hD d hp1 ls hls hr
    ·exact ihE D hD d hp1 hls hr (by omega)) hr⟩
theorem Jn {T:List Tok}{e:Int}{q gx gy n:Nat}{ls:Int}(D:Nat)(hD:2<=D)(d:Nat)(hp1:Hp)(hls:1<=ls)(hr:Rd T e q gx gy n hp1):HB Tryz.prog E47 (Lm X46) D d 239 [.ptr ⟨1,q,0⟩ gx 0,iv ls] hp1 (RE T e q gx gy n D hp1) (Wr D q hp1):=
 (exprs T e q gx gy _ n (Nat.le_refl _)).2.1 D hD d hp1 ls hls hr
theorem Ala {T:List Tok}{e:Int}{q gx gy n:Nat}(D:Nat)(hD:2<=D)(d:Nat)(hp1:Hp)(hr:Rd T e q gx gy n hp1):HB Tryz.prog E47 (Lm X46) D d 292 [.ptr ⟨1,q,0⟩ gx 0] hp1 (RL T e q gx gy n D hp1) (Wr D q hp1):=
 (exprs T e q gx gy _ n (Nat.le_refl _)).2.2 D hD d hp1 hr
@[simp] theorem C3 (k:Int)(s:Tx)(e:List Sy.Ex)(t f:List Sy.St):(Sy.St.mk k s e t f).row=[iz k,tz s.1,.sl false 5 (exRows e),.sl false 5 (stRows t),.sl false 5 (stRows f)]:=Sy.St.row_eq _
@[simp] theorem Cl (k:Int)(s:Tx)(e:List Sy.Ex)(t f:List Sy.St):(Sy.St.mk k s e t f).size=exSize e+stSize t+stSize f+1:=Sy.St.size_eq _
def RS (T:List Tok)(e:Int)(q gx gy n D:Nat)(hp1:Hp)(v:AV)(hp2:Hp):Prop:= ∃(x:Sy.St) (n2:Nat),v= .agg x.row/\n+x.size<=n2/\n<n2/\Rd T e q gx gy n2 hp2/\Far D q hp1 hp2
def RSL (T:List Tok)(e:Int)(q gx gy n D:Nat)(hp1:Hp)(v:AV)(hp2:Hp):Prop:= ∃(x:List Sy.St) (n2:Nat),v= .sl false 5 (stRows x)/\n+stSize x<=n2/\n<n2/\Rd T e q gx gy n2 hp2/\Far D q hp1 hp2
theorem st_take (l:List Sy.St):(stRows l).take l.length=stRows l:=by rw[List.take_of_length_le (by simp)]
theorem round {T:List Tok}{e:Int}{q n gx gy:Nat}(D:Nat)(hD:2<=D)(d:Nat)(hp1:Hp)(hr:Rd T e q gx gy n hp1):HB Tryz.prog E47 (Lm X46) D d 238 [.ptr ⟨1,q,0⟩ gx 0] hp1 (fun v hp2=> ∃(x:Sy.Ex) (n2:Nat),v= .sl false 5 [x.row]/\n+x.size<=n2/\n<n2/\Rd T e q gx gy n2 hp2/\Far D q hp1 hp2) (Wr D q hp1):=by
 obtain⟨k,rfl⟩: ∃k,D=k+2:=⟨D - 2,by omega⟩
 clear hD
 refine Be (k1:=k+3) (PR:=Wr (k+2) q hp1) rfl Tryz.func238 rfl rfl Wc rfl rvs_238 E9a ?_
 obtain⟨h1,h2,hlen,hle⟩:=hr
 repeat' (first|refine ZN ?_|refine Z2 ?_ ?_|(intro h h';try simp[*,-h] at h')|(exact⟨⟨_,rfl⟩,fun d i c hd hne=>(hpf d i c (by omega) hne).trans (by have hd2:d≠k+3:=(by omega);first|exact HF.out d i c hd hne|(simp[*];done)|(simp[*];exact HF.out d i c hd hne))⟩)|((with_reducible apply Aa (f:=77));(iterate 5 exact Z5);(apply Hf (k+3) (by omega));exact Zc;decide;constructor;((conv=>lhs;simp -implicitDefEqProofs [*,-Int.natCast_add])<;>exact rfl);exact Zc;assumption;omega;rotate_left;(rintro _ hpp ⟨⟨a,rfl⟩,hpf⟩);rotate_right;(rintro _ hp2 ⟨rfl,hn2,⟨hb2,ha2,_,hle2⟩,hf2⟩;have hO2:=hf2.own (by omega);have hL2:=hf2.all (k:=k+2) (by omega);clear hf2))|((with_reducible apply Aa (f:=239));(iterate 5 exact Z5);(apply Jn (k+3) (by omega));omega;constructor;((conv=>lhs;simp -implicitDefEqProofs [*,-Int.natCast_add])<;>exact rfl);exact Zc;assumption;omega;rotate_left;(rintro _ hpp ⟨⟨a,rfl⟩,hpf⟩);rotate_right;(rintro _ hp2 ⟨⟨xk,xo,xn,xs,xl⟩,m2,rfl,hs2,hn2,⟨hb2,ha2,_,hle2⟩,hf2⟩;have hO2:=hf2.own (by omega);have hL2:=hf2.all (k:=k+2) (by omega);clear hf2;simp only[Au,A2] at*))|fail)
 exact⟨.mk xk xo xn xs xl,m2+1,by simp[*],by(try simp);try omega,by omega,⟨by simp[*],by simp[*],hlen,by omega⟩,fun d i c hd hne=>by have hd2:d≠k+3:=(by omega);simp[*]⟩
theorem body_w {T:List Tok}{e:Int}{q n gx gy:Nat}(D:Nat)(hD:2<=D)(d:Nat)(hp1:Hp)(ihL: ∀(D:Nat) (hD:2<=D) (d:Nat) (hp1:Hp) {n2:Nat} (hr:Rd T e q gx gy n2 hp1) (hn:n<n2),HB Tryz.prog E47 (Lm X46) D d 113 [.ptr ⟨1,q,0⟩ gx 0] hp1 (RSL T e q gx gy n2 D hp1) (Wr D q hp1))(hr:Rd T e q gx gy n hp1):HB Tryz.prog E47 (Lm X46) D d 240 [.ptr ⟨1,q,0⟩ gx 0] hp1 (RSL T e q gx gy n D hp1) (Wr D q hp1):=by
 obtain⟨k,rfl⟩: ∃k,D=k+2:=⟨D - 2,by omega⟩
 clear hD
 refine Be (k1:=k+3) (PR:=Wr (k+2) q hp1) rfl Tryz.func240 rfl rfl Wa rfl rvs_240 E7a ?_
 obtain⟨h1,h2,hlen,hle⟩:=hr
 repeat' (first|refine ZN ?_|refine Z2 ?_ ?_|(intro h h';try simp[*,-h] at h')|(exact⟨⟨_,rfl⟩,fun d i c hd hne=>(hpf d i c (by omega) hne).trans (by have hd2:d≠k+3:=(by omega);first|exact HF.out d i c hd hne|(simp[*];done)|(simp[*];exact HF.out d i c hd hne))⟩)|((with_reducible apply Aa (f:=77));(iterate 5 exact Z5);(apply Hf (k+3) (by omega));exact Zc;decide;constructor;((conv=>lhs;simp -implicitDefEqProofs [*,-Int.natCast_add])<;>exact rfl);exact Zc;assumption;omega;rotate_left;(rintro _ hpp ⟨⟨a,rfl⟩,hpf⟩);rotate_right;(rintro _ hp2 ⟨rfl,hn2,⟨hb2,ha2,_,hle2⟩,hf2⟩;have hO2:=hf2.own (by omega);have hL2:=hf2.all (k:=k+2) (by omega);clear hf2))|((with_reducible apply Aa (f:=113));(iterate 5 exact Z5);(apply ihL (k+3) (by omega));constructor;((conv=>lhs;simp -implicitDefEqProofs [*,-Int.natCast_add])<;>exact rfl);exact Zc;assumption;omega;omega;rotate_left;(rintro _ hpp ⟨⟨a,rfl⟩,hpf⟩);rotate_right;(rintro _ hp2 ⟨sl,m2,rfl,hs2,hn2,⟨hb2,ha2,_,hle2⟩,hf2⟩;have hO2:=hf2.own (by omega);have hL2:=hf2.all (k:=k+2) (by omega);clear hf2))|fail)
 exact⟨sl,m2,by simp[*],by(try simp);try omega,by omega,⟨by simp[*],by simp[*],hlen,by omega⟩,fun d i c hd hne=>by have hd2:d≠k+3:=(by omega);simp[*]⟩
theorem stmts_w {T:List Tok}{e:Int}{q n gx gy:Nat}(D:Nat)(hD:2<=D)(d:Nat)(hp1:Hp)(ihS: ∀(D:Nat) (hD:2<=D) (d:Nat) (hp1:Hp) {n2:Nat} (hr:Rd T e q gx gy n2 hp1) (hn:n<=n2),HB Tryz.prog E47 (Lm X46) D d 162 [.ptr ⟨1,q,0⟩ gx 0] hp1 (RS T e q gx gy n2 D hp1) (Wr D q hp1))(hr:Rd T e q gx gy n hp1):HB Tryz.prog E47 (Lm X46) D d 113 [.ptr ⟨1,q,0⟩ gx 0] hp1 (RSL T e q gx gy n D hp1) (Wr D q hp1):=by
 obtain⟨k,rfl⟩: ∃k,D=k+2:=⟨D - 2,by omega⟩
 clear hD
 refine Be (k1:=k+3) (PR:=Wr (k+2) q hp1) rfl Tryz.func113 rfl rfl Yk rfl rvs_113 F7a ?_
 obtain⟨h1,h2,hlen,hle⟩:=hr
 repeat' (first|refine ZN ?_|refine Z2 ?_ ?_|(intro h h';try simp[*,-h] at h')|(exact⟨⟨_,rfl⟩,fun d i c hd hne=>(hpf d i c (by omega) hne).trans (by have hd2:d≠k+3:=(by omega);first|exact HF.out d i c hd hne|(simp[*];done)|(simp[*];exact HF.out d i c hd hne))⟩)|fail)
 refine Ah (n:=T.length+1 - n) (fun s0 m s=> ∃(n2 g:Nat) (l:List Sy.St),m=T.length+1 - n2/\n+stSize l<=n2/\s.fr 0=s0.fr 0/\s.fr 3= .own ⟨k+3,3,0⟩ g l.length/\s.hp ⟨k+3,3,0⟩= .arr g 5 215 (stRows l) false/\Rd T e q gx gy n2 s.hp/\Far (k+2) q hp1 s.hp) ⟨n,_,[],rfl,by simp,by simp,by simp;rfl,by simp[*],⟨by simp[*],by simp[*],hlen,hle⟩,fun d i c hd hne=>by have hd2:d≠k+3:=(by omega);simp[*]⟩ ?_
 clear h1 h2
 rintro m ⟨fr,hp⟩ ⟨n2,g,l,rfl,hnl,f0,f3,hl,⟨hb,ha,_,hle3⟩,hfar⟩
 simp at f0 f3 hl ha hfar
 simp only at hb
 have HF:=Lib.hid hfar
 clear hfar
 have hll:=Cj l
 have a1:(l.length+1)*96<=140737488355328:=by omega
 have a2:l.length<=9223372036854775806:=by omega
 have a3:=st_take l
 repeat' (first|refine ZN ?_|refine Z2 ?_ ?_|(intro h h';try simp[*,-h] at h')|(exact⟨⟨_,rfl⟩,fun d i c hd hne=>(hpf d i c (by omega) hne).trans (by have hd2:d≠k+3:=(by omega);first|exact HF.out d i c hd hne|(simp[*];done)|(simp[*];exact HF.out d i c hd hne))⟩)|((with_reducible apply Aa (f:=74));(iterate 5 exact Z5);(apply may (k+3) (by omega));decide;constructor;((conv=>lhs;simp -implicitDefEqProofs [*,-Int.natCast_add])<;>exact rfl);exact Zc;assumption;omega;rotate_left;(rintro _ hpp ⟨⟨a,rfl⟩,hpf⟩);rotate_right;(rintro _ hp2 (⟨rfl,⟨hb2,ha2,_,_⟩,hf2⟩|⟨rfl,hn2,⟨hb2,ha2,_,hle2⟩,hf2⟩)<;>(have hO2:=hf2.own (by omega);have hL2:=hf2.all (k:=k+2) (by omega);clear hf2)))|((with_reducible apply Aa (f:=162));(iterate 5 exact Z5);(apply ihS (k+3) (by omega));constructor;((conv=>lhs;simp -implicitDefEqProofs [*,-Int.natCast_add])<;>exact rfl);exact Zc;assumption;omega;omega;rotate_left;(rintro _ hpp ⟨⟨a,rfl⟩,hpf⟩);rotate_right;(rintro _ hp2 ⟨⟨sk,sn,se,sth,sel⟩,m2,rfl,hs2,hn2,⟨hb2,ha2,_,hle2⟩,hf2⟩;have hO2:=hf2.own (by omega);have hL2:=hf2.all (k:=k+2) (by omega);clear hf2;simp only[C3,Cl] at*))|fail)
 all_goals have hfar:=HF.out
 ·exact⟨T.length+1 - m2,by omega,m2,g+1,l++[.mk sk sn se sth sel],rfl,by simp;omega,by simp[*],by simp[*],by simp[*],⟨by simp[*],by simp[*],hlen,hle2⟩,fun d i c hd hne=>by have hd2:d≠k+3:=(by omega);simp[*];exact hfar d i c hd hne⟩
 ·exact⟨l,n2+1,by simp[*],by omega,by omega,⟨by simp[*],by simp[*],hlen,by omega⟩,fun d i c hd hne=>by have hd2:d≠k+3:=(by omega);simp[*];exact hfar d i c hd hne⟩
end Go.Proofs.YtpmoibjpjlhcgaaGreatDoor
namespace Go.Proofs.YtpmoibjpjlhcgaaGreatDoor
open Go Go.Ab Go.Ab.Sy
theorem named {T:List Tok}{e:Int}{q n gx gy:Nat}(D:Nat)(hD:2<=D)(d:Nat)(hp1:Hp)(hr:Rd T e q gx gy n hp1):HB Tryz.prog E47 (Lm X46) D d 241 [.ptr ⟨1,q,0⟩ gx 0] hp1 (RS T e q gx gy n D hp1) (Wr D q hp1):=by
 obtain⟨k,rfl⟩: ∃k,D=k+2:=⟨D - 2,by omega⟩
 clear hD
 refine Be (k1:=k+3) (PR:=Wr (k+2) q hp1) rfl Tryz.func241 rfl rfl V9 rfl rvs_241 E6a ?_
 obtain⟨h1,h2,hlen,hle⟩:=hr
 repeat' (first|((apply Kf (c:=2) (idx:=[0,1]) (d:=30));kernel_rfl;kernel_rfl;(simp only[List.map_cons,List.map_nil,Array.getD_eq_getD_getElem?,List.getElem?_toArray,List.getElem?_cons_zero,List.getElem?_cons_succ,Option.getD_some]);(repeat' (first|exact Free.nil|((with_reducible apply Cb);(exact Zc))));exact rfl;exact Zc;(exact Mm);decide;exact Zc;(apply Jn (k+3) (by omega));decide;constructor;((conv=>lhs;simp -implicitDefEqProofs [*,-Int.natCast_add])<;>exact rfl);exact Zc;assumption;omega;rotate_left;(rintro _ hpp ⟨⟨a,rfl⟩,hpf⟩);rotate_right;(rintro _ hp2 h1c ⟨⟨yk,yo,yn,ys,yl⟩,m3,rfl,hs2,hn2,⟨hb2,ha2,_,hle2⟩,hf2⟩;have hO2:=hf2.own (by omega);have hL2:=hf2.all (k:=k+2) (by omega);clear hf2;simp only[Au,A2] at*);(refine Cu (by kernel_rfl) ?_);(repeat (first|((with_reducible apply Wd_u);(exact Zc))|((with_reducible apply Wd_n);(exact Zc))));(with_reducible apply A7);(apply Ao (ps:=[(0,1),(0,2)]));kernel_rfl;(refine Zk ?_);(refine List.forall_mem_cons.2 ⟨?_,?_⟩);((focus (refine Ca (by simp) (by simp) rfl ?_;(repeat' (refine List.forall_mem_cons.2 ⟨⟨trivial,rfl,by simp[Facet.nm],by simp[Facet.nm],by simp[Facet.nm],by simp[Facet.nm, *]⟩,?_⟩));exact fun y hy=>by cases hy)));(exact Zz))|((apply W_rdB (c:=2) (idx:=[0,1]) (d:=30));kernel_rfl;kernel_rfl;(simp only[List.map_cons,List.map_nil,Array.getD_eq_getD_getElem?,List.getElem?_toArray,List.getElem?_cons_zero,List.getElem?_cons_succ,Option.getD_some]);(repeat' (first|exact Free.nil|((with_reducible apply Cb);(exact Zc))));exact rfl;exact Zc;(exact Mm);decide;exact Zc;(apply Jn (k+3) (by omega));decide;constructor;((conv=>lhs;simp -implicitDefEqProofs [*,-Int.natCast_add])<;>exact rfl);exact Zc;assumption;omega;rotate_left;(rintro _ hpp ⟨⟨a,rfl⟩,hpf⟩);rotate_right;(rintro _ hp2 h1c ⟨⟨yk,yo,yn,ys,yl⟩,m3,rfl,hs2,hn2,⟨hb2,ha2,_,hle2⟩,hf2⟩;have hO2:=hf2.own (by omega);have hL2:=hf2.all (k:=k+2) (by omega);clear hf2;simp only[Au,A2] at*);(refine Hh (by kernel_rfl) ?_);(repeat (first|((with_reducible apply Wd_u);(exact Zc))|((with_reducible apply Wd_n);(exact Zc))));(with_reducible apply A7);(apply Ao (ps:=[(0,1),(0,2)]));kernel_rfl;(refine Zk ?_);(refine List.forall_mem_cons.2 ⟨?_,?_⟩);((focus (refine Ca (by simp) (by simp) rfl ?_;(repeat' (refine List.forall_mem_cons.2 ⟨⟨trivial,rfl,by simp[Facet.nm],by simp[Facet.nm],by simp[Facet.nm],by simp[Facet.nm, *]⟩,?_⟩));exact fun y hy=>by cases hy)));(exact Zz))|(refine Z1 ?_)|(refine Z2 ?_ ?_)|(intro h h';try simp[*,-h] at h')|(exact⟨⟨_,rfl⟩,fun d i c hd hne=>(hpf d i c (by omega) hne).trans (by have hd2:d≠k+3:=(by omega);first|exact HF.out d i c hd hne|(simp[*];done)|(simp[*];exact HF.out d i c hd hne))⟩)|((with_reducible apply Aa (f:=74));(iterate 5 exact Z5);(apply may (k+3) (by omega));decide;constructor;((conv=>lhs;simp -implicitDefEqProofs [*,-Int.natCast_add])<;>exact rfl);exact Zc;assumption;omega;rotate_left;(rintro _ hpp ⟨⟨a,rfl⟩,hpf⟩);rotate_right;(rintro _ hp2 (⟨rfl,⟨hb2,ha2,_,_⟩,hf2⟩|⟨rfl,hn2,⟨hb2,ha2,_,hle2⟩,hf2⟩)<;>(have hO2:=hf2.own (by omega);have hL2:=hf2.all (k:=k+2) (by omega);clear hf2)))|((with_reducible apply Aa (f:=77));(iterate 5 exact Z5);(apply Hf (k+3) (by omega));exact Zc;decide;constructor;((conv=>lhs;simp -implicitDefEqProofs [*,-Int.natCast_add])<;>exact rfl);exact Zc;assumption;omega;rotate_left;(rintro _ hpp ⟨⟨a,rfl⟩,hpf⟩);rotate_right;(rintro _ hp2 ⟨rfl,hn2,⟨hb2,ha2,_,hle2⟩,hf2⟩;have hO2:=hf2.own (by omega);have hL2:=hf2.all (k:=k+2) (by omega);clear hf2))|((with_reducible apply Aa (f:=77));(iterate 5 exact Z5);(apply must2 (k+3) (by omega));exact Zc;decide;decide;constructor;((conv=>lhs;simp -implicitDefEqProofs [*,-Int.natCast_add])<;>exact rfl);exact Zc;assumption;omega;rotate_left;(rintro _ hpp ⟨⟨a,rfl⟩,hpf⟩);rotate_right;(rintro _ hp2 ⟨rfl,hn2,⟨hb2,ha2,_,hle2⟩,hf2⟩;have hO2:=hf2.own (by omega);have hL2:=hf2.all (k:=k+2) (by omega);clear hf2))|((with_reducible apply Aa (f:=76));(iterate 5 exact Z5);(apply take (k+3) (by omega));decide;constructor;((conv=>lhs;simp -implicitDefEqProofs [*,-Int.natCast_add])<;>exact rfl);exact Zc;assumption;omega;rotate_left;(rintro _ hpp ⟨⟨a,rfl⟩,hpf⟩);rotate_right;(rintro _ hp2 ⟨⟨tk2,tt2,tn2,ta2⟩,rfl,hn2,⟨hb2,ha2,_,hle2⟩,hf2⟩;have hO2:=hf2.own (by omega);have hL2:=hf2.all (k:=k+2) (by omega);clear hf2;simp only[Tok.row_mk]))|((with_reducible apply Aa (f:=239));(iterate 5 exact Z5);(apply Jn (k+3) (by omega));omega;constructor;((conv=>lhs;simp -implicitDefEqProofs [*,-Int.natCast_add])<;>exact rfl);exact Zc;assumption;omega;rotate_left;(rintro _ hpp ⟨⟨a,rfl⟩,hpf⟩);rotate_right;(rintro _ hp2 ⟨⟨xk,xo,xn,xs,xl⟩,m2,rfl,hs2,hn2,⟨hb2,ha2,_,hle2⟩,hf2⟩;have hO2:=hf2.own (by omega);have hL2:=hf2.all (k:=k+2) (by omega);clear hf2;simp only[Au,A2] at*))|((with_reducible apply Aa (f:=292));(iterate 5 exact Z5);(apply Ala (k+3) (by omega));constructor;((conv=>lhs;simp -implicitDefEqProofs [*,-Int.natCast_add])<;>exact rfl);exact Zc;assumption;omega;rotate_left;(rintro _ hpp ⟨⟨a,rfl⟩,hpf⟩);rotate_right;(rintro _ hp2 ⟨xl,m2,rfl,hs2,hn2,⟨hb2,ha2,_,hle2⟩,hf2⟩;have hO2:=hf2.own (by omega);have hL2:=hf2.all (k:=k+2) (by omega);clear hf2))|((with_reducible apply Aa (f:=73));(iterate 5 exact Z5);(apply fail (k+3) (by omega));constructor;((conv=>lhs;simp -implicitDefEqProofs [*,-Int.natCast_add])<;>exact rfl);exact Zc;assumption;omega;rotate_left;(rintro _ hpp ⟨⟨a,rfl⟩,hpf⟩);rotate_right;(rintro _ _ hf2;exact hf2.elim))|fail)
 ·exact⟨.mk 6 tt2 xl [] [],m2+1,by simp[*],by(try simp);try omega,by omega,⟨by simp[*],by simp[*],hlen,by omega⟩,fun d i c hd hne=>by have hd2:d≠k+3:=(by omega);simp[*]⟩
 ·exact⟨.mk 2 tt2 [.mk xk xo xn xs xl,.mk yk yo yn ys yl] [] [],m3+1,by simp[*],by(try simp);try omega,by omega,⟨by simp[*],by simp[*],hlen,by omega⟩,fun d i c hd hne=>by have hd2:d≠k+3:=(by omega);simp[*]⟩
 ·exact⟨.mk 1 tt2 [.mk xk xo xn xs xl] [] [],m2+1,by simp[*],by(try simp);try omega,by omega,⟨by simp[*],by simp[*],hlen,by omega⟩,fun d i c hd hne=>by have hd2:d≠k+3:=(by omega);simp[*]⟩
theorem stmt_w {T:List Tok}{e:Int}{q n gx gy:Nat}(D:Nat)(hD:2<=D)(d:Nat)(hp1:Hp)(ihB: ∀(D:Nat) (hD:2<=D) (d:Nat) (hp1:Hp) {n2:Nat} (hr:Rd T e q gx gy n2 hp1) (hn:n<n2),HB Tryz.prog E47 (Lm X46) D d 240 [.ptr ⟨1,q,0⟩ gx 0] hp1 (RSL T e q gx gy n2 D hp1) (Wr D q hp1))(hr:Rd T e q gx gy n hp1):HB Tryz.prog E47 (Lm X46) D d 162 [.ptr ⟨1,q,0⟩ gx 0] hp1 (RS T e q gx gy n D hp1) (Wr D q hp1):=by
 obtain⟨k,rfl⟩: ∃k,D=k+2:=⟨D - 2,by omega⟩
 clear hD
 refine Be (k1:=k+3) (PR:=Wr (k+2) q hp1) rfl Tryz.func162 rfl rfl Xq rfl rvs_162 Fma ?_
 obtain⟨h1,h2,hlen,hle⟩:=hr
 repeat' (first|refine ZN ?_|refine Z2 ?_ ?_|(intro h h';try simp[*,-h] at h')|(exact⟨⟨_,rfl⟩,fun d i c hd hne=>(hpf d i c (by omega) hne).trans (by have hd2:d≠k+3:=(by omega);first|exact HF.out d i c hd hne|(simp[*];done)|(simp[*];exact HF.out d i c hd hne))⟩)|((with_reducible apply Aa (f:=74));(iterate 5 exact Z5);(apply may (k+3) (by omega));decide;constructor;((conv=>lhs;simp -implicitDefEqProofs [*,-Int.natCast_add])<;>exact rfl);exact Zc;assumption;omega;rotate_left;(rintro _ hpp ⟨⟨a,rfl⟩,hpf⟩);rotate_right;(rintro _ hp2 (⟨rfl,⟨hb2,ha2,_,_⟩,hf2⟩|⟨rfl,hn2,⟨hb2,ha2,_,hle2⟩,hf2⟩)<;>(have hO2:=hf2.own (by omega);have hL2:=hf2.all (k:=k+2) (by omega);clear hf2)))|((with_reducible apply Aa (f:=77));(iterate 5 exact Z5);(apply Hf (k+3) (by omega));exact Zc;decide;constructor;((conv=>lhs;simp -implicitDefEqProofs [*,-Int.natCast_add])<;>exact rfl);exact Zc;assumption;omega;rotate_left;(rintro _ hpp ⟨⟨a,rfl⟩,hpf⟩);rotate_right;(rintro _ hp2 ⟨rfl,hn2,⟨hb2,ha2,_,hle2⟩,hf2⟩;have hO2:=hf2.own (by omega);have hL2:=hf2.all (k:=k+2) (by omega);clear hf2))|((with_reducible apply Aa (f:=77));(iterate 5 exact Z5);(apply must2 (k+3) (by omega));exact Zc;decide;decide;constructor;((conv=>lhs;simp -implicitDefEqProofs [*,-Int.natCast_add])<;>exact rfl);exact Zc;assumption;omega;rotate_left;(rintro _ hpp ⟨⟨a,rfl⟩,hpf⟩);rotate_right;(rintro _ hp2 ⟨rfl,hn2,⟨hb2,ha2,_,hle2⟩,hf2⟩;have hO2:=hf2.own (by omega);have hL2:=hf2.all (k:=k+2) (by omega);clear hf2))|((with_reducible apply Aa (f:=76));(iterate 5 exact Z5);(apply take (k+3) (by omega));decide;constructor;((conv=>lhs;simp -implicitDefEqProofs [*,-Int.natCast_add])<;>exact rfl);exact Zc;assumption;omega;rotate_left;(rintro _ hpp ⟨⟨a,rfl⟩,hpf⟩);rotate_right;(rintro _ hp2 ⟨⟨tk2,tt2,tn2,ta2⟩,rfl,hn2,⟨hb2,ha2,_,hle2⟩,hf2⟩;have hO2:=hf2.own (by omega);have hL2:=hf2.all (k:=k+2) (by omega);clear hf2;simp only[Tok.row_mk]))|((with_reducible apply Aa (f:=239));(iterate 5 exact Z5);(apply Jn (k+3) (by omega));omega;constructor;((conv=>lhs;simp -implicitDefEqProofs [*,-Int.natCast_add])<;>exact rfl);exact Zc;assumption;omega;rotate_left;(rintro _ hpp ⟨⟨a,rfl⟩,hpf⟩);rotate_right;(rintro _ hp2 ⟨⟨xk,xo,xn,xs,xl⟩,m2,rfl,hs2,hn2,⟨hb2,ha2,_,hle2⟩,hf2⟩;have hO2:=hf2.own (by omega);have hL2:=hf2.all (k:=k+2) (by omega);clear hf2;simp only[Au,A2] at*))|((with_reducible apply Aa (f:=292));(iterate 5 exact Z5);(apply Ala (k+3) (by omega));constructor;((conv=>lhs;simp -implicitDefEqProofs [*,-Int.natCast_add])<;>exact rfl);exact Zc;assumption;omega;rotate_left;(rintro _ hpp ⟨⟨a,rfl⟩,hpf⟩);rotate_right;(rintro _ hp2 ⟨xl,m2,rfl,hs2,hn2,⟨hb2,ha2,_,hle2⟩,hf2⟩;have hO2:=hf2.own (by omega);have hL2:=hf2.all (k:=k+2) (by omega);clear hf2))|((with_reducible apply Aa (f:=73));(iterate 5 exact Z5);(apply fail (k+3) (by omega));constructor;((conv=>lhs;simp -implicitDefEqProofs [*,-Int.natCast_add])<;>exact rfl);exact Zc;assumption;omega;rotate_left;(rintro _ hpp ⟨⟨a,rfl⟩,hpf⟩);rotate_right;(rintro _ _ hf2;exact hf2.elim))|((with_reducible apply Aa (f:=238));(iterate 5 exact Z5);(apply round (k+3) (by omega));constructor;((conv=>lhs;simp -implicitDefEqProofs [*,-Int.natCast_add])<;>exact rfl);exact Zc;assumption;omega;rotate_left;(rintro _ hpp ⟨⟨a,rfl⟩,hpf⟩);rotate_right;(rintro _ hp2 ⟨rx,m2,rfl,hs2,hn2,⟨hb2,ha2,_,hle2⟩,hf2⟩;have hO2:=hf2.own (by omega);have hL2:=hf2.all (k:=k+2) (by omega);clear hf2))|((fail_if_success (have hbl:=bl));((with_reducible apply Aa (f:=240));(iterate 5 exact Z5);(apply ihB (k+3) (by omega));constructor;((conv=>lhs;simp -implicitDefEqProofs [*,-Int.natCast_add])<;>exact rfl);exact Zc;assumption;omega;omega;rotate_left;(rintro _ hpp ⟨⟨a,rfl⟩,hpf⟩);rotate_right;(rintro _ hp2 ⟨bl,m2,rfl,hs2,hn2,⟨hb2,ha2,_,hle2⟩,hf2⟩;have hO2:=hf2.own (by omega);have hL2:=hf2.all (k:=k+2) (by omega);clear hf2)))|((with_reducible apply Aa (f:=240));(iterate 5 exact Z5);(apply ihB (k+3) (by omega));constructor;((conv=>lhs;simp -implicitDefEqProofs [*,-Int.natCast_add])<;>exact rfl);exact Zc;assumption;omega;omega;rotate_left;(rintro _ hpp ⟨⟨a,rfl⟩,hpf⟩);rotate_right;(rintro _ hp2 ⟨bl2,m2,rfl,hs2,hn2,⟨hb2,ha2,_,hle2⟩,hf2⟩;have hO2:=hf2.own (by omega);have hL2:=hf2.all (k:=k+2) (by omega);clear hf2))|((with_reducible apply Aa (f:=241));(iterate 5 exact Z5);(apply named (k+3) (by omega));constructor;((conv=>lhs;simp -implicitDefEqProofs [*,-Int.natCast_add])<;>exact rfl);exact Zc;assumption;omega;rotate_left;(rintro _ hpp ⟨⟨a,rfl⟩,hpf⟩);rotate_right;(rintro _ hp2 ⟨⟨sk,sn,se,sth,sel⟩,m2,rfl,hs2,hn2,⟨hb2,ha2,_,hle2⟩,hf2⟩;have hO2:=hf2.own (by omega);have hL2:=hf2.all (k:=k+2) (by omega);clear hf2;simp only[C3,Cl] at*))|fail)
 ·exact⟨.mk sk sn se sth sel,m2,by simp[*],by(try simp);try omega,by omega,⟨by simp[*],by simp[*],hlen,by omega⟩,fun d i c hd hne=>by have hd2:d≠k+3:=(by omega);simp[*]⟩
 ·exact⟨.mk 5 tx0 [rx] bl [],m2,by simp[*],by(try simp);try omega,by omega,⟨by simp[*],by simp[*],hlen,by omega⟩,fun d i c hd hne=>by have hd2:d≠k+3:=(by omega);simp[*]⟩
 ·exact⟨.mk 4 tx0 [rx] bl [],m2,by simp[*],by(try simp);try omega,by omega,⟨by simp[*],by simp[*],hlen,by omega⟩,fun d i c hd hne=>by have hd2:d≠k+3:=(by omega);simp[*]⟩
 ·exact⟨.mk 4 tx0 [rx] bl bl2,m2,by simp[*],by(try simp);try omega,by omega,⟨by simp[*],by simp[*],hlen,by omega⟩,fun d i c hd hne=>by have hd2:d≠k+3:=(by omega);simp[*]⟩
 ·exact⟨.mk 7 tx0 [.mk xk xo xn xs xl] [] [],m2+1,by simp[*],by(try simp);try omega,by omega,⟨by simp[*],by simp[*],hlen,by omega⟩,fun d i c hd hne=>by have hd2:d≠k+3:=(by omega);simp[*]⟩
 ·exact⟨.mk 7 tx0 [] [] [],n+1+1,by simp[*],by(try simp);try omega,by omega,⟨by simp[*],by simp[*],hlen,by omega⟩,fun d i c hd hne=>by have hd2:d≠k+3:=(by omega);simp[*]⟩
 ·exact⟨.mk 3 tx0 [rx] [] [],m2+1,by simp[*],by(try simp);try omega,by omega,⟨by simp[*],by simp[*],hlen,by omega⟩,fun d i c hd hne=>by have hd2:d≠k+3:=(by omega);simp[*]⟩
theorem A8a (T:List Tok)(e:Int)(q gx gy:Nat): ∀m n:Nat,T.length+1 - n<=m->
  (∀(D:Nat) (hD:2<=D) (d:Nat) (hp1:Hp) (hr:Rd T e q gx gy n hp1),HB Tryz.prog E47 (Lm X46) D d 240 [.ptr ⟨1,q,0⟩ gx 0] hp1 (RSL T e q gx gy n D hp1) (Wr D q hp1))/\
  (∀(D:Nat) (hD:2<=D) (d:Nat) (hp1:Hp) (hr:Rd T e q gx gy n hp1),HB Tryz.prog E47 (Lm X46) D d 162 [.ptr ⟨1,q,0⟩ gx 0] hp1 (RS T e q gx gy n D hp1) (Wr D q hp1))/\
  (∀(D:Nat) (hD:2<=D) (d:Nat) (hp1:Hp) (hr:Rd T e q gx gy n hp1),HB Tryz.prog E47 (Lm X46) D d 113 [.ptr ⟨1,q,0⟩ gx 0] hp1 (RSL T e q gx gy n D hp1) (Wr D q hp1)):=by
 intro m
 induction m using Nat.strongRecOn with
 |_ m ih=>
  intro n hm
  have hS: ∀(D:Nat) (hD:2<=D) (d:Nat) (hp1:Hp) (hr:Rd T e q gx gy n hp1),HB Tryz.prog E47 (Lm X46) D d 162 [.ptr ⟨1,q,0⟩ gx 0] hp1 (RS T e q gx gy n D hp1) (Wr D q hp1):=
   fun D hD d hp1 hr=>stmt_w D hD d hp1 (fun D hD d hp1 n2 hr hn=>(ih (T.length+1 - n2) (by have:=hr.le;omega) n2 (Nat.le_refl _)).1 D hD d hp1 hr) hr
  exact⟨fun D hD d hp1 hr=>body_w D hD d hp1 (fun D hD d hp1 n2 hr hn=>(ih (T.length+1 - n2) (by have:=hr.le;omega) n2 (Nat.le_refl _)).2.2 D hD d hp1 hr) hr,hS,
   fun D hD d hp1 hr=>stmts_w D hD d hp1 (fun D hD d hp1 n2 hr hn=>by
    by_cases h:n=n2
    ·subst h;exact hS D hD d hp1 hr
    ·exact(ih (T.length+1 - n2) (by have:=hr.le;omega) n2 (Nat.le_refl _)).2.1 D hD d hp1 hr) hr⟩
theorem Eia {T:List Tok}{e:Int}{q gx gy n:Nat}(D:Nat)(hD:2<=D)(d:Nat)(hp1:Hp)(hr:Rd T e q gx gy n hp1):HB Tryz.prog E47 (Lm X46) D d 113 [.ptr ⟨1,q,0⟩ gx 0] hp1 (RSL T e q gx gy n D hp1) (Wr D q hp1):=
 (A8a T e q gx gy _ n (Nat.le_refl _)).2.2 D hD d hp1 hr
end Go.Proofs.YtpmoibjpjlhcgaaGreatDoor
namespace Go.Proofs.YtpmoibjpjlhcgaaGreatDoor
open Go Go.Ab Go.Ab.Sy
def RF (T:List Tok)(e:Int)(q gx gy n D:Nat)(hp1:Hp)(v:AV)(hp2:Hp):Prop:= ∃(x:Sy.Fu) (n2:Nat),v= .agg x.row/\n+x.size<=n2/\n<n2/\Rd T e q gx gy n2 hp2/\Far D q hp1 hp2
theorem fun_w {T:List Tok}{e:Int}{q n gx gy:Nat}(D:Nat)(hD:2<=D)(d:Nat)(hp1:Hp)(hr:Rd T e q gx gy n hp1):HB Tryz.prog E47 (Lm X46) D d 78 [.ptr ⟨1,q,0⟩ gx 0] hp1 (RF T e q gx gy n D hp1) (Wr D q hp1):=by
 obtain⟨k,rfl⟩: ∃k,D=k+2:=⟨D - 2,by omega⟩
 clear hD
 refine Be (k1:=k+3) (PR:=Wr (k+2) q hp1) rfl Tryz.func78 rfl rfl C3a rfl rvs_78 rtys_78 ?_
 obtain⟨h1,h2,hlen,hle⟩:=hr
 repeat' (first|refine ZN ?_|refine Z2 ?_ ?_|(intro h h';try simp[*,-h] at h')|(exact⟨⟨_,rfl⟩,fun d i c hd hne=>(hpf d i c (by omega) hne).trans (by have hd2:d≠k+3:=(by omega);first|exact HF.out d i c hd hne|(simp[*];done)|(simp[*];exact HF.out d i c hd hne))⟩)|((with_reducible apply Aa (f:=74));(iterate 5 exact Z5);(apply may (k+3) (by omega));decide;constructor;((conv=>lhs;simp -implicitDefEqProofs [*,-Int.natCast_add])<;>exact rfl);exact Zc;assumption;omega;rotate_left;(rintro _ hpp ⟨⟨a,rfl⟩,hpf⟩);rotate_right;(rintro _ hp2 (⟨rfl,⟨hb2,ha2,_,_⟩,hf2⟩|⟨rfl,hn2,⟨hb2,ha2,_,hle2⟩,hf2⟩)<;>(have hO2:=hf2.own (by omega);have hL2:=hf2.all (k:=k+2) (by omega);clear hf2)))|((with_reducible apply Aa (f:=77));(iterate 5 exact Z5);(apply Hf (k+3) (by omega));exact Zc;decide;constructor;((conv=>lhs;simp -implicitDefEqProofs [*,-Int.natCast_add])<;>exact rfl);exact Zc;assumption;omega;rotate_left;(rintro _ hpp ⟨⟨a,rfl⟩,hpf⟩);rotate_right;(rintro _ hp2 ⟨rfl,hn2,⟨hb2,ha2,_,hle2⟩,hf2⟩;have hO2:=hf2.own (by omega);have hL2:=hf2.all (k:=k+2) (by omega);clear hf2))|((with_reducible apply Aa (f:=76));(iterate 5 exact Z5);(apply take (k+3) (by omega));decide;constructor;((conv=>lhs;simp -implicitDefEqProofs [*,-Int.natCast_add])<;>exact rfl);exact Zc;assumption;omega;rotate_left;(rintro _ hpp ⟨⟨a,rfl⟩,hpf⟩);rotate_right;(rintro _ hp2 ⟨⟨tk2,tt2,tn2,ta2⟩,rfl,hn2,⟨hb2,ha2,_,hle2⟩,hf2⟩;have hO2:=hf2.own (by omega);have hL2:=hf2.all (k:=k+2) (by omega);clear hf2;simp only[Tok.row_mk]))|((with_reducible apply Aa (f:=112));(iterate 5 exact Z5);(apply kind (k+3) (by omega));constructor;((conv=>lhs;simp -implicitDefEqProofs [*,-Int.natCast_add])<;>exact rfl);exact Zc;assumption;omega;rotate_left;(rintro _ hpp ⟨⟨a,rfl⟩,hpf⟩);rotate_right;(rintro _ hp2 ⟨rfl,⟨hb2,ha2,_,_⟩,hf2⟩;have hO2:=hf2.own (by omega);have hL2:=hf2.all (k:=k+2) (by omega);clear hf2))|((with_reducible apply Aa (f:=75));(iterate 5 exact Z5);(apply names (k+3) (by omega));constructor;((conv=>lhs;simp -implicitDefEqProofs [*,-Int.natCast_add])<;>exact rfl);exact Zc;assumption;omega;rotate_left;(rintro _ hpp ⟨⟨a,rfl⟩,hpf⟩);rotate_right;(rintro _ hp2 ⟨nl2,m2,rfl,hs2,hn2,⟨hb2,ha2,_,hle2⟩,hf2⟩;have hO2:=hf2.own (by omega);have hL2:=hf2.all (k:=k+2) (by omega);clear hf2))|fail)
 all_goals (refine Ah (n:=T.length+1 - n) (fun s0 m s=> ∃(n2 g2 g5:Nat) (ls ps:List Tx) (c1:AV) (w:Bool) (nm:Tx),T.length+1 - n2<=m/\n+ps.length+ls.length+1<=n2/\s.fr 0= .ptr ⟨1,q,0⟩ gx 0/\s.fr 2= .ptr ⟨k+3,2,0⟩ ((hp1 ⟨k+3,2,0⟩).gen+1) 0/\s.fr 3= .ptr ⟨k+3,3,0⟩ ((hp1 ⟨k+3,3,0⟩).gen+1) 0/\
   s.hp ⟨k+3,3,0⟩= .box ((hp1 ⟨k+3,3,0⟩).gen+1) [tv nm,c1,.own ⟨k+3,3,3⟩ g2 ls.length,bv w,.own ⟨k+3,3,5⟩ g5 0] false/\s.hp ⟨k+3,3,3⟩= .arr g2 1 9 (txRows ls) false/\s.hp ⟨k+3,3,5⟩= .arr g5 5 215 [] false/\
   (c1= .sl false 1 (txRows ps)\/(ps=[]/\ ∃g',c1= .own ⟨k+3,3,2⟩ g' 0/\s.hp ⟨k+3,3,2⟩= .arr g' 1 9 [] false))/\
   s.hp ⟨k+3,2,0⟩= .box ((hp1 ⟨k+3,2,0⟩).gen+1) [tv ⟨⟨[]⟩⟩,.own ⟨k+3,2,2⟩ ((hp1 ⟨k+3,2,2⟩).gen+1) 0,.own ⟨k+3,2,3⟩ ((hp1 ⟨k+3,2,3⟩).gen+1) 0,bv false,.own ⟨k+3,2,5⟩ ((hp1 ⟨k+3,2,5⟩).gen+1) 0] false/\Rd T e q gx gy n2 s.hp/\Far (k+2) q hp1 s.hp) ?_ ?_;(first
  |(exact⟨m2+1+1+1,(hp1 ⟨k+3,3,3⟩).gen+1,(hp1 ⟨k+3,3,5⟩).gen+1,[],nl2,.sl false 1 (txRows nl2),true,tt2,by omega,by(try simp);try omega,by simp[*],by simp[*],by simp[*],by simp[*];done,by simp[*],by simp[*],.inl rfl,by simp[*],⟨by simp[*];done,by simp[*],hlen,by omega⟩,fun d i c hd hne=>by have hd2:d≠k+3:=(by omega);simp[*]⟩)
  |(exact⟨m2+1+1,(hp1 ⟨k+3,3,3⟩).gen+1,(hp1 ⟨k+3,3,5⟩).gen+1,[],nl2,.sl false 1 (txRows nl2),false,tt2,by omega,by(try simp);try omega,by simp[*],by simp[*],by simp[*],by simp[*];done,by simp[*],by simp[*],.inl rfl,by simp[*],⟨by simp[*];done,by simp[*],hlen,by omega⟩,fun d i c hd hne=>by have hd2:d≠k+3:=(by omega);simp[*]⟩)
  |(exact⟨n+1+1+1+1+1+1,(hp1 ⟨k+3,3,3⟩).gen+1,(hp1 ⟨k+3,3,5⟩).gen+1,[],[],.own ⟨k+3,3,2⟩ ((hp1 ⟨k+3,3,2⟩).gen+1) 0,true,tt2,by omega,by(try simp);try omega,by simp[*],by simp[*],by simp[*],by simp[*];done,by simp[*],by simp[*],.inr ⟨rfl,_,rfl,by simp[*]⟩,by simp[*],⟨by simp[*];done,by simp[*],hlen,by omega⟩,fun d i c hd hne=>by have hd2:d≠k+3:=(by omega);simp[*]⟩)
  |(exact⟨n+1+1+1+1+1,(hp1 ⟨k+3,3,3⟩).gen+1,(hp1 ⟨k+3,3,5⟩).gen+1,[],[],.own ⟨k+3,3,2⟩ ((hp1 ⟨k+3,3,2⟩).gen+1) 0,false,tt2,by omega,by(try simp);try omega,by simp[*],by simp[*],by simp[*],by simp[*];done,by simp[*],by simp[*],.inr ⟨rfl,_,rfl,by simp[*]⟩,by simp[*],⟨by simp[*];done,by simp[*],hlen,by omega⟩,fun d i c hd hne=>by have hd2:d≠k+3:=(by omega);simp[*]⟩)))
 all_goals clear h1 h2 hb2 ha2 hO2 hL2
 all_goals rintro m ⟨fr,hp⟩ ⟨n2,g2,g5,ls,ps,c1,w,nm,hmm,hnl,f0,f2,f3,b3,a3,a5,hc1,b2,⟨hb,ha,_,hle3⟩,hfar⟩
 all_goals simp at f0 f2 f3 b3 a3 a5 hc1 b2 ha hfar
 all_goals simp only at hb
 all_goals have HF:=Lib.hid hfar
 all_goals clear hfar
 all_goals have t3:=Lc ls
 all_goals rcases hc1 with rfl|⟨rfl,g',rfl,a2⟩
 all_goals
  repeat' (first|((apply Kf (c:=3) (idx:=[0,1,2]) (d:=34));kernel_rfl;kernel_rfl;(simp only[List.map_cons,List.map_nil,Array.getD_eq_getD_getElem?,List.getElem?_toArray,List.getElem?_cons_zero,List.getElem?_cons_succ,Option.getD_some]);(repeat' (first|exact Free.nil|((with_reducible apply Cb);(exact Zc))));exact rfl;exact Zc;(exact Zi);decide;exact Zc;(apply names (k+3) (by omega));constructor;((conv=>lhs;simp -implicitDefEqProofs [*,-Int.natCast_add])<;>exact rfl);exact Zc;assumption;omega;rotate_left;(rintro _ hpp ⟨⟨a,rfl⟩,hpf⟩);rotate_right;(rintro _ hp2 h1c ⟨nl3,m2,rfl,hs2,hn2,⟨hb2,ha2,_,hle2⟩,hf2⟩;have hO2:=hf2.own (by omega);have hL2:=hf2.all (k:=k+2) (by omega);clear hf2;have b1:(ls.length+nl3.length)*16<=140737488355328:=(by omega);have b2:ls.length+nl3.length<=9223372036854775807:=(by omega));(refine Cu (by kernel_rfl) ?_);(repeat (first|((with_reducible apply Wd_u);(exact Zc))|((with_reducible apply Wd_n);(exact Zc))));(with_reducible apply A7);(apply Ao (ps:=[(0,2),(1,2),(0,3),(1,3)]));kernel_rfl;(iterate 2 refine Zk ?_);(refine List.forall_mem_cons.2 ⟨?_,?_⟩);((focus (refine Ca (by simp) (by simp) rfl ?_;(repeat' (refine List.forall_mem_cons.2 ⟨⟨trivial,rfl,by simp[Facet.nm],by simp[Facet.nm],by simp[Facet.nm],by simp[Facet.nm, *]⟩,?_⟩));exact fun y hy=>by cases hy)));(refine List.forall_mem_cons.2 ⟨?_,?_⟩);((focus (refine Ca (by simp) (by simp) rfl ?_;(repeat' (refine List.forall_mem_cons.2 ⟨⟨trivial,rfl,by simp[Facet.nm],by simp[Facet.nm],by simp[Facet.nm],by simp[Facet.nm, *]⟩,?_⟩));exact fun y hy=>by cases hy)));(exact Zz))|(refine Z1 ?_)|(refine Z2 ?_ ?_)|(intro h h';try simp[*,-h] at h')|(exact⟨⟨_,rfl⟩,fun d i c hd hne=>(hpf d i c (by omega) hne).trans (by have hd2:d≠k+3:=(by omega);first|exact HF.out d i c hd hne|(simp[*];done)|(simp[*];exact HF.out d i c hd hne))⟩)|((with_reducible apply Aa (f:=74));(iterate 5 exact Z5);(apply may (k+3) (by omega));decide;constructor;((conv=>lhs;simp -implicitDefEqProofs [*,-Int.natCast_add])<;>exact rfl);exact Zc;assumption;omega;rotate_left;(rintro _ hpp ⟨⟨a,rfl⟩,hpf⟩);rotate_right;(rintro _ hp2 (⟨rfl,⟨hb2,ha2,_,_⟩,hf2⟩|⟨rfl,hn2,⟨hb2,ha2,_,hle2⟩,hf2⟩)<;>(have hO2:=hf2.own (by omega);have hL2:=hf2.all (k:=k+2) (by omega);clear hf2)))|((with_reducible apply Aa (f:=77));(iterate 5 exact Z5);(apply Hf (k+3) (by omega));exact Zc;decide;constructor;((conv=>lhs;simp -implicitDefEqProofs [*,-Int.natCast_add])<;>exact rfl);exact Zc;assumption;omega;rotate_left;(rintro _ hpp ⟨⟨a,rfl⟩,hpf⟩);rotate_right;(rintro _ hp2 ⟨rfl,hn2,⟨hb2,ha2,_,hle2⟩,hf2⟩;have hO2:=hf2.own (by omega);have hL2:=hf2.all (k:=k+2) (by omega);clear hf2))|((with_reducible apply Aa (f:=113));(iterate 5 exact Z5);(apply Eia (k+3) (by omega));constructor;((conv=>lhs;simp -implicitDefEqProofs [*,-Int.natCast_add])<;>exact rfl);exact Zc;assumption;omega;rotate_left;(rintro _ hpp ⟨⟨a,rfl⟩,hpf⟩);rotate_right;(rintro _ hp2 ⟨sl,m2,rfl,hs2,hn2,⟨hb2,ha2,_,hle2⟩,hf2⟩;have hO2:=hf2.own (by omega);have hL2:=hf2.all (k:=k+2) (by omega);clear hf2))|fail)
 all_goals have hfar:=HF.out
 all_goals first
  |(exact⟨⟨nm,ps,ls,w,sl⟩,m2,by simp[Sy.Fu.row, *],by(try simp[Sy.Fu.size] at*);omega,by omega,⟨by simp[*],by simp[*],hlen,by omega⟩,fun d i c hd hne=>by have hd2:d≠k+3:=(by omega);simp[*];exact hfar d i c hd hne⟩)
  |(exact⟨⟨nm,[],ls,w,sl⟩,m2,by simp[Sy.Fu.row, *],by(try simp[Sy.Fu.size] at*);omega,by omega,⟨by simp[*],by simp[*],hlen,by omega⟩,fun d i c hd hne=>by have hd2:d≠k+3:=(by omega);simp[*];exact hfar d i c hd hne⟩)
  |(exact⟨T.length+1 - (m2+1),by omega,m2+1,g2+1,g5,ls++nl3,ps,.sl false 1 (txRows ps),w,nm,by omega,by(try simp at*);omega,by simp[*],by simp[*],by simp[*],by simp[*];done,by simp[*],by simp[*],.inl rfl,by simp[*],⟨by simp[*];done,by simp[*],hlen,by omega⟩,fun d i c hd hne=>by have hd2:d≠k+3:=(by omega);simp[*];exact hfar d i c hd hne⟩)
  |(exact⟨T.length+1 - (m2+1),by omega,m2+1,g2+1,g5,ls++nl3,[],.own ⟨k+3,3,2⟩ g' 0,w,nm,by omega,by(try simp at*);omega,by simp[*],by simp[*],by simp[*],by simp[*];done,by simp[*],by simp[*],(.inr ⟨rfl,g',rfl,by simp[*]⟩),by simp[*],⟨by simp[*];done,by simp[*],hlen,by omega⟩,fun d i c hd hne=>by have hd2:d≠k+3:=(by omega);simp[*];exact hfar d i c hd hne⟩)
end Go.Proofs.YtpmoibjpjlhcgaaGreatDoor
namespace Go.Proofs.YtpmoibjpjlhcgaaGreatDoor
open Go Go.Ab Go.Ab.Sy
@[simp] theorem A3 (nm:Tx)(ps ls:List Tx)(w:Bool)(b:List Sy.St):(Sy.Fu.mk nm ps ls w b).row=[tz nm.1,.sl false 1 (txRows ps),.sl false 1 (txRows ls),bz w,.sl false 5 (stRows b)]:=rfl
@[simp] theorem Br (nm:Tx)(ps ls:List Tx)(w:Bool)(b:List Sy.St):(Sy.Fu.mk nm ps ls w b).size=ps.length+ls.length+stSize b+1:=rfl
def RP (T:List Tok)(e:Int)(q gx gy n D:Nat)(hp1:Hp)(v:AV)(hp2:Hp):Prop:= ∃(x:Sy.Pr) (n2:Nat),v= .agg x.row/\n+x.size<=n2/\Rd T e q gx gy n2 hp2/\Far D q hp1 hp2
theorem Ama (l:List (Tx×Int)):(arRows l).take l.length=arRows l:=by rw[List.take_of_length_le (by simp[arRows])]
theorem ar_len (l:List (Tx×Int)):(arRows l).length=l.length:=by simp[arRows]
theorem Ana (l:List (Tx×Int))(s:Tx)(z:Int):arRows (l++[(s,z)])=arRows l++[[tz s.1,iz z]]:=by simp[arRows]
theorem fu_take (l:List Sy.Fu):(l.map Sy.Fu.row).take l.length=l.map Sy.Fu.row:=by rw[List.take_of_length_le (by simp)]
theorem prog_w {T:List Tok}{e:Int}{q n gx gy:Nat}(D:Nat)(hD:2<=D)(d:Nat)(hp1:Hp)(hr:Rd T e q gx gy n hp1):HB Tryz.prog E47 (Lm X46) D d 47 [.ptr ⟨1,q,0⟩ gx 0] hp1 (RP T e q gx gy n D hp1) (Wr D q hp1):=by
 obtain⟨k,rfl⟩: ∃k,D=k+2:=⟨D - 2,by omega⟩
 clear hD
 refine Be (k1:=k+3) (PR:=Wr (k+2) q hp1) rfl Tryz.func47 rfl rfl Dia rfl rvs_47 rtys_47 ?_
 obtain⟨h1,h2,hlen,hle⟩:=hr
 repeat' (first|refine ZN ?_|refine Z2 ?_ ?_|(intro h h';try simp[*,-h] at h')|(exact⟨⟨_,rfl⟩,fun d i c hd hne=>(hpf d i c (by omega) hne).trans (by have hd2:d≠k+3:=(by omega);first|exact HF.out d i c hd hne|(simp[*];done)|(simp[*];exact HF.out d i c hd hne))⟩)|fail)
 refine Ah (n:=T.length+1 - n) (fun s0 m s=> ∃(n2 gv ga gf:Nat) (vs:List Tx) (ar:List (Tx×Int)),T.length+1 - n2<=m/\n+vs.length+ar.length<=n2/\s.fr 0= .ptr ⟨1,q,0⟩ gx 0/\s.fr 2= .ptr ⟨k+3,2,0⟩ ((hp1 ⟨k+3,2,0⟩).gen+1) 0/\s.fr 3= .ptr ⟨k+3,3,0⟩ ((hp1 ⟨k+3,3,0⟩).gen+1) 0/\s.hp ⟨k+3,3,0⟩= .box ((hp1 ⟨k+3,3,0⟩).gen+1) [.own ⟨k+3,3,1⟩ gv vs.length,.own ⟨k+3,3,2⟩ ga ar.length,.own ⟨k+3,3,3⟩ gf 0] false/\s.hp ⟨k+3,3,1⟩= .arr gv 1 9 (txRows vs) false/\s.hp ⟨k+3,3,2⟩= .arr ga 2 145 (arRows ar) false/\s.hp ⟨k+3,3,3⟩= .arr gf 5 148 [] false/\s.hp ⟨k+3,2,0⟩= .box ((hp1 ⟨k+3,2,0⟩).gen+1) [.own ⟨k+3,2,1⟩ ((hp1 ⟨k+3,2,1⟩).gen+1) 0,.own ⟨k+3,2,2⟩ ((hp1 ⟨k+3,2,2⟩).gen+1) 0,.own ⟨k+3,2,3⟩ ((hp1 ⟨k+3,2,3⟩).gen+1) 0] false/\Rd T e q gx gy n2 s.hp/\Far (k+2) q hp1 s.hp) ⟨n,(hp1 ⟨k+3,3,1⟩).gen+1,(hp1 ⟨k+3,3,2⟩).gen+1,(hp1 ⟨k+3,3,3⟩).gen+1,[],[],by omega,by simp,by simp,by simp,by simp,by simp;done,by simp,by simp[arRows],by simp,by simp,⟨by simp[*],by simp[*],hlen,hle⟩,fun d i c hd hne=>by have hd2:d≠k+3:=(by omega);simp[*]⟩ ?_
 clear h1 h2
 rintro m ⟨fr,hp⟩ ⟨n2,gv,ga,gf,vs,ar,hmm,hnl,f0,f2,f3,b3,a1,a2,a3,b2,⟨hb,ha,_,hle3⟩,hfar⟩
 simp at f0 f2 f3 b3 a1 a2 a3 b2 ha hfar
 simp only at hb
 have HF:=Lib.hid hfar
 have t1:=Lc vs
 have t2:=Ama ar
 have t4:=ar_len ar
 have t6:=Ana ar
 clear hfar
 have x1:(ar.length+1)*24<=140737488355328:=by omega
 have x2:ar.length<=9223372036854775806:=by omega
 repeat' (first|((apply Kf (c:=3) (idx:=[0,1,2]) (d:=11));kernel_rfl;kernel_rfl;(simp only[List.map_cons,List.map_nil,Array.getD_eq_getD_getElem?,List.getElem?_toArray,List.getElem?_cons_zero,List.getElem?_cons_succ,Option.getD_some]);(repeat' (first|exact Free.nil|((with_reducible apply Cb);(exact Zc))));exact rfl;exact Zc;(exact Zi);decide;exact Zc;(apply names (k+3) (by omega));constructor;((conv=>lhs;simp -implicitDefEqProofs [*,-Int.natCast_add])<;>exact rfl);exact Zc;assumption;omega;rotate_left;(rintro _ hpp ⟨⟨a,rfl⟩,hpf⟩);rotate_right;(rintro _ hp2 h1c ⟨nl3,m2,rfl,hs2,hn2,⟨hb2,ha2,_,hle2⟩,hf2⟩;have hO2:=hf2.own (by omega);have hL2:=hf2.all (k:=k+2) (by omega);clear hf2;have b1:(vs.length+nl3.length)*16<=140737488355328:=(by omega);have b2:vs.length+nl3.length<=9223372036854775807:=(by omega));(refine Cu (by kernel_rfl) ?_);(repeat (first|((with_reducible apply Wd_u);(exact Zc))|((with_reducible apply Wd_n);(exact Zc))));(with_reducible apply A7);(apply Ao (ps:=[(0,2),(1,2),(0,3),(1,3)]));kernel_rfl;(iterate 2 refine Zk ?_);(refine List.forall_mem_cons.2 ⟨?_,?_⟩);((focus (refine Ca (by simp) (by simp) rfl ?_;(repeat' (refine List.forall_mem_cons.2 ⟨⟨trivial,rfl,by simp[Facet.nm],by simp[Facet.nm],by simp[Facet.nm],by simp[Facet.nm, *]⟩,?_⟩));exact fun y hy=>by cases hy)));(refine List.forall_mem_cons.2 ⟨?_,?_⟩);((focus (refine Ca (by simp) (by simp) rfl ?_;(repeat' (refine List.forall_mem_cons.2 ⟨⟨trivial,rfl,by simp[Facet.nm],by simp[Facet.nm],by simp[Facet.nm],by simp[Facet.nm, *]⟩,?_⟩));exact fun y hy=>by cases hy)));(exact Zz))|((apply Kf (c:=3) (idx:=[0,1,2]) (d:=43));kernel_rfl;kernel_rfl;(simp only[List.map_cons,List.map_nil,Array.getD_eq_getD_getElem?,List.getElem?_toArray,List.getElem?_cons_zero,List.getElem?_cons_succ,Option.getD_some]);(repeat' (first|exact Free.nil|((with_reducible apply Cb);(exact Zc))));exact rfl;exact Zc;(exact Pt);decide;exact Zc;(apply fun_w (k+3) (by omega));constructor;((conv=>lhs;simp -implicitDefEqProofs [*,-Int.natCast_add])<;>exact rfl);exact Zc;assumption;omega;rotate_left;(rintro _ hpp ⟨⟨a,rfl⟩,hpf⟩);rotate_right;(rintro _ hp2 h1c ⟨⟨fn,fp,fl,fw,fb⟩,m2,rfl,hs2,hn2,⟨hb2,ha2,_,hle2⟩,hf2⟩;have hO2:=hf2.own (by omega);have hL2:=hf2.all (k:=k+2) (by omega);clear hf2;simp only[A3,Br] at*);(refine Cu (by kernel_rfl) ?_);(repeat (first|((with_reducible apply Wd_u);(exact Zc))|((with_reducible apply Wd_n);(exact Zc))));(with_reducible apply A7);(apply Ao (ps:=[(0,2),(1,2),(0,3),(1,3),(0,4),(1,4)]));kernel_rfl;(iterate 2 refine Zk ?_);(refine List.forall_mem_cons.2 ⟨?_,?_⟩);((focus (refine Ca (by simp) (by simp) rfl ?_;(repeat' (refine List.forall_mem_cons.2 ⟨⟨trivial,rfl,by simp[Facet.nm],by simp[Facet.nm],by simp[Facet.nm],by simp[Facet.nm, *]⟩,?_⟩));exact fun y hy=>by cases hy)));(refine List.forall_mem_cons.2 ⟨?_,?_⟩);((focus (refine Ca (by simp) (by simp) rfl ?_;(repeat' (refine List.forall_mem_cons.2 ⟨⟨trivial,rfl,by simp[Facet.nm],by simp[Facet.nm],by simp[Facet.nm],by simp[Facet.nm, *]⟩,?_⟩));exact fun y hy=>by cases hy)));(iterate 2 refine Zs ?_);(exact Zz))|(refine Z1 ?_)|(refine Z2 ?_ ?_)|(intro h h';try simp[*,-h] at h')|(exact⟨⟨_,rfl⟩,fun d i c hd hne=>(hpf d i c (by omega) hne).trans (by have hd2:d≠k+3:=(by omega);first|exact HF.out d i c hd hne|(simp[*];done)|(simp[*];exact HF.out d i c hd hne))⟩)|((with_reducible apply Aa (f:=74));(iterate 5 exact Z5);(apply may (k+3) (by omega));decide;constructor;((conv=>lhs;simp -implicitDefEqProofs [*,-Int.natCast_add])<;>exact rfl);exact Zc;assumption;omega;rotate_left;(rintro _ hpp ⟨⟨a,rfl⟩,hpf⟩);rotate_right;(rintro _ hp2 (⟨rfl,⟨hb2,ha2,_,_⟩,hf2⟩|⟨rfl,hn2,⟨hb2,ha2,_,hle2⟩,hf2⟩)<;>(have hO2:=hf2.own (by omega);have hL2:=hf2.all (k:=k+2) (by omega);clear hf2)))|((with_reducible apply Aa (f:=77));(iterate 5 exact Z5);(apply Hf (k+3) (by omega));exact Zc;decide;constructor;((conv=>lhs;simp -implicitDefEqProofs [*,-Int.natCast_add])<;>exact rfl);exact Zc;assumption;omega;rotate_left;(rintro _ hpp ⟨⟨a,rfl⟩,hpf⟩);rotate_right;(rintro _ hp2 ⟨rfl,hn2,⟨hb2,ha2,_,hle2⟩,hf2⟩;have hO2:=hf2.own (by omega);have hL2:=hf2.all (k:=k+2) (by omega);clear hf2))|((fail_if_success (have hbl:=tt1));((with_reducible apply Aa (f:=76));(iterate 5 exact Z5);(apply take (k+3) (by omega));decide;constructor;((conv=>lhs;simp -implicitDefEqProofs [*,-Int.natCast_add])<;>exact rfl);exact Zc;assumption;omega;rotate_left;(rintro _ hpp ⟨⟨a,rfl⟩,hpf⟩);rotate_right;(rintro _ hp2 ⟨⟨tk1,tt1,tn1,ta1⟩,rfl,hn2,⟨hb2,ha2,_,hle2⟩,hf2⟩;have hO2:=hf2.own (by omega);have hL2:=hf2.all (k:=k+2) (by omega);clear hf2;simp only[Tok.row_mk])))|((with_reducible apply Aa (f:=76));(iterate 5 exact Z5);(apply take (k+3) (by omega));decide;constructor;((conv=>lhs;simp -implicitDefEqProofs [*,-Int.natCast_add])<;>exact rfl);exact Zc;assumption;omega;rotate_left;(rintro _ hpp ⟨⟨a,rfl⟩,hpf⟩);rotate_right;(rintro _ hp2 ⟨⟨tk2,tt2,tn2,ta2⟩,rfl,hn2,⟨hb2,ha2,_,hle2⟩,hf2⟩;have hO2:=hf2.own (by omega);have hL2:=hf2.all (k:=k+2) (by omega);clear hf2;simp only[Tok.row_mk]))|fail)
 rotate_left
 ·have hfar:=HF.out
  exact⟨T.length+1 - (n2+1+1+1+1+1+1),by omega,n2+1+1+1+1+1+1,gv,ga+1,gf,vs,ar++[(tt1,IntKind.i64.wrap tn2)],by omega,by(try simp at*);omega,by simp[*],by simp[*],by simp[*],by simp[*];done,by simp[*],by simp[*],by simp[*],by simp[*],⟨by simp[*];done,by simp[*],hlen,by omega⟩,fun d i c hd hne=>by have hd2:d≠k+3:=(by omega);simp[*];exact hfar d i c hd hne⟩
 ·have hfar:=HF.out
  exact⟨T.length+1 - (m2+1),by omega,m2+1,gv+1,ga,gf,vs++nl3,ar,by omega,by(try simp at*);omega,by simp[*],by simp[*],by simp[*],by simp[*];done,by simp[*],by simp[*],by simp[*],by simp[*],⟨by simp[*];done,by simp[*],hlen,by omega⟩,fun d i c hd hne=>by have hd2:d≠k+3:=(by omega);simp[*];exact hfar d i c hd hne⟩
 refine Ah (n:=T.length+1 - n) (fun s0 m s=> ∃(n2 gv ga gf:Nat) (vs:List Tx) (ar:List (Tx×Int)) (fs:List Sy.Fu),T.length+1 - n2<=m/\n+vs.length+ar.length+fuSize fs<=n2/\s.fr 0= .ptr ⟨1,q,0⟩ gx 0/\s.fr 2= .ptr ⟨k+3,2,0⟩ ((hp1 ⟨k+3,2,0⟩).gen+1) 0/\s.fr 3= .ptr ⟨k+3,3,0⟩ ((hp1 ⟨k+3,3,0⟩).gen+1) 0/\s.hp ⟨k+3,3,0⟩= .box ((hp1 ⟨k+3,3,0⟩).gen+1) [.own ⟨k+3,3,1⟩ gv vs.length,.own ⟨k+3,3,2⟩ ga ar.length,.own ⟨k+3,3,3⟩ gf fs.length] false/\s.hp ⟨k+3,3,1⟩= .arr gv 1 9 (txRows vs) false/\s.hp ⟨k+3,3,2⟩= .arr ga 2 145 (arRows ar) false/\s.hp ⟨k+3,3,3⟩= .arr gf 5 148 (fs.map Sy.Fu.row) false/\s.hp ⟨k+3,2,0⟩= .box ((hp1 ⟨k+3,2,0⟩).gen+1) [.own ⟨k+3,2,1⟩ ((hp1 ⟨k+3,2,1⟩).gen+1) 0,.own ⟨k+3,2,2⟩ ((hp1 ⟨k+3,2,2⟩).gen+1) 0,.own ⟨k+3,2,3⟩ ((hp1 ⟨k+3,2,3⟩).gen+1) 0] false/\Rd T e q gx gy n2 s.hp/\Far (k+2) q hp1 s.hp) ⟨m2,gv,ga,gf+1,vs,ar,[⟨fn,fp,fl,fw,fb⟩],by omega,by(try simp at*);omega,by simp[*],by simp[*],by simp[*],by simp[*];done,by simp[*],by simp[*],by simp[*],by simp[*],⟨by simp[*];done,by simp[*],hlen,by omega⟩,fun d i c hd hne=>by have hd2:d≠k+3:=(by omega);simp[*];exact HF.out d i c hd hne⟩ ?_
 clear hb2 ha2 hO2 hL2 b3 a1 a2 a3 b2 ha hb HF t1 t2 t4 t6
 rintro m ⟨fr,hp⟩ ⟨n2,gv,ga,gf,vs,ar,fs,hmm,hnl,f0,f2,f3,b3,a1,a2,a3,b2,⟨hb,ha,_,hle3⟩,hfar⟩
 simp at f0 f2 f3 b3 a1 a2 a3 b2 ha hfar
 simp only at hb
 have HF:=Lib.hid hfar
 have t1:=Lc vs
 have t2:=Ama ar
 have t4:=ar_len ar
 have t6:=Ana ar
 clear hfar
 have t3:=fu_take fs
 have t5:=Bq fs
 have x1:(fs.length+1)*96<=140737488355328:=by omega
 have x2:fs.length<=9223372036854775806:=by omega
 by_cases hlt:n2<T.length
 all_goals (first|have e1:(n2:Int)<T.length:=(by omega)|have e1: ¬(n2:Int)<T.length:=(by omega))
 repeat' (first|((apply W_rdB (c:=3) (idx:=[0,1,2]) (d:=60));kernel_rfl;kernel_rfl;(simp only[List.map_cons,List.map_nil,Array.getD_eq_getD_getElem?,List.getElem?_toArray,List.getElem?_cons_zero,List.getElem?_cons_succ,Option.getD_some]);(repeat' (first|exact Free.nil|((with_reducible apply Cb);(exact Zc))));exact rfl;exact Zc;(exact Pt);decide;exact Zc;(apply fun_w (k+3) (by omega));constructor;((conv=>lhs;simp -implicitDefEqProofs [*,-Int.natCast_add])<;>exact rfl);exact Zc;assumption;omega;rotate_left;(rintro _ hpp ⟨⟨a,rfl⟩,hpf⟩);rotate_right;(rintro _ hp2 h1c ⟨⟨fn,fp,fl,fw,fb⟩,m2,rfl,hs2,hn2,⟨hb2,ha2,_,hle2⟩,hf2⟩;have hO2:=hf2.own (by omega);have hL2:=hf2.all (k:=k+2) (by omega);clear hf2;simp only[A3,Br] at*);(refine Hh (by kernel_rfl) ?_);(repeat (first|((with_reducible apply Wd_u);(exact Zc))|((with_reducible apply Wd_n);(exact Zc))));(with_reducible apply A7);(apply Ao (ps:=[(0,2),(1,2),(0,3),(1,3),(0,4),(1,4)]));kernel_rfl;(iterate 2 refine Zk ?_);(refine List.forall_mem_cons.2 ⟨?_,?_⟩);((focus (refine Ca (by simp) (by simp) rfl ?_;(repeat' (refine List.forall_mem_cons.2 ⟨⟨trivial,rfl,by simp[Facet.nm],by simp[Facet.nm],by simp[Facet.nm],by simp[Facet.nm, *]⟩,?_⟩));exact fun y hy=>by cases hy)));(refine List.forall_mem_cons.2 ⟨?_,?_⟩);((focus (refine Ca (by simp) (by simp) rfl ?_;(repeat' (refine List.forall_mem_cons.2 ⟨⟨trivial,rfl,by simp[Facet.nm],by simp[Facet.nm],by simp[Facet.nm],by simp[Facet.nm, *]⟩,?_⟩));exact fun y hy=>by cases hy)));(iterate 2 refine Zs ?_);(exact Zz))|((apply Kf (c:=3) (idx:=[0,1,2]) (d:=60));kernel_rfl;kernel_rfl;(simp only[List.map_cons,List.map_nil,Array.getD_eq_getD_getElem?,List.getElem?_toArray,List.getElem?_cons_zero,List.getElem?_cons_succ,Option.getD_some]);(repeat' (first|exact Free.nil|((with_reducible apply Cb);(exact Zc))));exact rfl;exact Zc;(exact Pt);decide;exact Zc;(apply fun_w (k+3) (by omega));constructor;((conv=>lhs;simp -implicitDefEqProofs [*,-Int.natCast_add])<;>exact rfl);exact Zc;assumption;omega;rotate_left;(rintro _ hpp ⟨⟨a,rfl⟩,hpf⟩);rotate_right;(rintro _ hp2 h1c ⟨⟨fn,fp,fl,fw,fb⟩,m2,rfl,hs2,hn2,⟨hb2,ha2,_,hle2⟩,hf2⟩;have hO2:=hf2.own (by omega);have hL2:=hf2.all (k:=k+2) (by omega);clear hf2;simp only[A3,Br] at*);(refine Cu (by kernel_rfl) ?_);(repeat (first|((with_reducible apply Wd_u);(exact Zc))|((with_reducible apply Wd_n);(exact Zc))));(with_reducible apply A7);(apply Ao (ps:=[(0,2),(1,2),(0,3),(1,3),(0,4),(1,4)]));kernel_rfl;(iterate 2 refine Zk ?_);(refine List.forall_mem_cons.2 ⟨?_,?_⟩);((focus (refine Ca (by simp) (by simp) rfl ?_;(repeat' (refine List.forall_mem_cons.2 ⟨⟨trivial,rfl,by simp[Facet.nm],by simp[Facet.nm],by simp[Facet.nm],by simp[Facet.nm, *]⟩,?_⟩));exact fun y hy=>by cases hy)));(refine List.forall_mem_cons.2 ⟨?_,?_⟩);((focus (refine Ca (by simp) (by simp) rfl ?_;(repeat' (refine List.forall_mem_cons.2 ⟨⟨trivial,rfl,by simp[Facet.nm],by simp[Facet.nm],by simp[Facet.nm],by simp[Facet.nm, *]⟩,?_⟩));exact fun y hy=>by cases hy)));(iterate 2 refine Zs ?_);(exact Zz))|(refine Z1 ?_)|(refine Z2 ?_ ?_)|(intro h h';try simp[*,-h] at h')|(exact⟨⟨_,rfl⟩,fun d i c hd hne=>(hpf d i c (by omega) hne).trans (by have hd2:d≠k+3:=(by omega);first|exact HF.out d i c hd hne|(simp[*];done)|(simp[*];exact HF.out d i c hd hne))⟩)|fail)
 ·have hfar:=HF.out
  have t7:=Hl fs [⟨fn,fp,fl,fw,fb⟩]
  simp only[Ky,T6,Br] at t7
  exact⟨T.length+1 - m2,by omega,m2,gv,ga,gf+1,vs,ar,fs++[⟨fn,fp,fl,fw,fb⟩],by omega,by(try simp at*);omega,by simp[*],by simp[*],by simp[*],by simp[*];done,by simp[*],by simp[*],by simp[*],by simp[*],⟨by simp[*];done,by simp[*],hlen,by omega⟩,fun d i c hd hne=>by have hd2:d≠k+3:=(by omega);simp[*];exact hfar d i c hd hne⟩
 ·have hfar:=HF.out
  exact⟨⟨vs,ar,fs⟩,n2,by simp[Sy.Pr.row],by(try simp[Sy.Pr.size]);omega,⟨by simp[*];done,by simp[*],hlen,by omega⟩,fun d i c hd hne=>by have hd2:d≠k+3:=(by omega);simp[*];exact hfar d i c hd hne⟩
end Go.Proofs.YtpmoibjpjlhcgaaGreatDoor
namespace Go.Proofs.YtpmoibjpjlhcgaaGreatDoor
open Go Go.Ab Go.Ab.Sy
def RC (T:List Tok)(e:Int)(gx gy gp:Nat)(hp1:Hp)(v:AV)(hp2:Hp):Prop:=v= .tup []/\ ∃(x:Sy.Pr) (n2:Nat),hp2 ⟨0,5,0⟩= .box gp x.row false/\x.size<=T.length/\Rd T e 25 gx gy n2 hp2/\ ∀d i c,d<=1->(⟨d,i,c⟩:Nm)≠⟨1,25,0⟩->(⟨d,i,c⟩:Nm)≠⟨0,5,0⟩->hp2 ⟨d,i,c⟩=hp1 ⟨d,i,c⟩
theorem Cla {T:List Tok}{e:Int}{gx gy gp:Nat}{c1 c2 c3:AV}(d:Nat)(hp1:Hp)(hr:Rd T e 25 gx gy 0 hp1)(hp:hp1 ⟨0,5,0⟩= .box gp [c1,c2,c3] false):HB Tryz.prog E47 (Lm X46) 1 d 46 [.ptr ⟨1,25,0⟩ gx 0,.ptr ⟨0,5,0⟩ gp 0] hp1 (RC T e gx gy gp hp1) (Wr 1 25 hp1):=by
 refine Af (k1:=2) (PR:=Wr 1 25 hp1) rfl Tryz.func46 rfl rfl Dja rfl rvs_46 ?_
 obtain⟨h1,h2,hlen,hle⟩:=hr
 repeat' (first|refine ZN ?_|refine Z2 ?_ ?_|(intro h h';try simp[*,-h] at h')|((with_reducible apply Aa (f:=47));(iterate 5 exact Z5);(apply prog_w 2 (by omega));constructor;((conv=>lhs;simp -implicitDefEqProofs [*,-Int.natCast_add])<;>exact rfl);exact Zc;assumption;omega;rotate_left;(rintro _ hpp ⟨⟨a,rfl⟩,hpf⟩);rotate_right;(rintro _ hp2 ⟨⟨xv,xa,xf⟩,m2,rfl,hn2,⟨hb2,ha2,_,hle2⟩,hf2⟩;have hO2:=hf2.own (by omega);have hL2:=hf2.all (k:=1) (by omega);clear hf2;simp only[Sy.Pr.row] at*))|fail)
 ·exact⟨rfl,⟨xv,xa,xf⟩,m2,by simp[Sy.Pr.row],by omega,⟨by simp[*],by simp[*],hlen,hle2⟩,fun d i c hd h8 h9=>by simp[*]⟩
 ·exact⟨⟨a,rfl⟩,fun d i c hd hne=>hpf d i c (by omega) hne⟩
end Go.Proofs.YtpmoibjpjlhcgaaGreatDoor
