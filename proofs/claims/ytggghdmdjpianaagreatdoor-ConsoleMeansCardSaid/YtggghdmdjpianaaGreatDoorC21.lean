/- A part of the proof: Ue, Nq, Uf, Nr, Ug, Uh, Ui, Ka. -/
import Derived.Test.YtggghdmdjpianaaGreatDoorC20
import Derived.Test.YtggghdmdjpianaaGreatDoorC11
import Derived.Test.YtggghdmdjpianaaGreatDoorC16
import Derived.Lib.Hide
import Derived.Test.YtggghdmdjpianaaGreatDoorC15
import Derived.Test.YtggghdmdjpianaaGreatDoorC18
set_option linter.unusedSimpArgs false
set_option linter.unusedVariables false
set_option maxRecDepth 200000
set_option maxHeartbeats 8000000
namespace Go.Proofs.YtggghdmdjpianaaGreatDoor
section
open Go Go.Ab Go.Ab.Sy
variable {w:Bool}{T:List Tok}{q g n:Nat}
theorem DY (T:List Tok)(q g:Nat): ∀m n:Nat,T.length+1 - n<=m->
  (∀(D d:Nat) (hp1:Hp) (w:Bool) (hr:Rq T q g n w hp1),HB P0 Un (Lm bX) D d 187 [.ptr ⟨0,q,0⟩ g 0] hp1 (QE T q g n w (fB T n) D hp1) (fun _ _=>False))/\
  (∀(ls:Int) (h1:1<=ls) (h2:ls<=10),∀(D d:Nat) (hp1:Hp) (w:Bool) (hr:Rq T q g n w hp1),HB P0 Un (Lm bX) D d 121 [.ptr ⟨0,q,0⟩ g 0,iv ls] hp1 (QE T q g n w (Uu T ls.toNat n) D hp1) (fun _ _=>False))/\
  (∀(D d:Nat) (hp1:Hp) (w:Bool) (hr:Rq T q g n w hp1),HB P0 Un (Lm bX) D d 123 [.ptr ⟨0,q,0⟩ g 0] hp1 (QL T q g n w (eG T n) D hp1) (fun _ _=>False)):=by
 intro m
 induction m using Nat.strongRecOn with
 |_ m ih=>
  intro n hm;have ihE: ∀(D d:Nat) (hp1:Hp) {n2:Nat} {w:Bool} {ls:Int} (h1:1<=ls) (h2:ls<=10) (hr:Rq T q g n2 w hp1) (hn:n<n2),HB P0 Un (Lm bX) D d 121 [.ptr ⟨0,q,0⟩ g 0,iv ls] hp1 (QE T q g n2 w (Uu T ls.toNat n2) D hp1) (fun _ _=>False):=
   fun D d hp1 n2 w ls h1 h2 hr hn=>(ih (T.length+1 - n2) (by have:=hr.le;omega) n2 (D5 _)).2.1 ls h1 h2 D d hp1 w hr
  have hA: ∀(D d:Nat) (hp1:Hp) (w:Bool) (hr:Rq T q g n w hp1),HB P0 Un (Lm bX) D d 187 [.ptr ⟨0,q,0⟩ g 0] hp1 (QE T q g n w (fB T n) D hp1) (fun _ _=>False):=
   fun D d hp1 w hr=>atom_q D d hp1 ihE (fun D d hp1 n2 w hr hn=>(ih (T.length+1 - n2) (by have:=hr.le;omega) n2 (D5 _)).1 D d hp1 w hr) (fun D d hp1 n2 w hr hn=>(ih (T.length+1 - n2) (by have:=hr.le;omega) n2 (D5 _)).2.2 D d hp1 w hr) hr
  have hE: ∀(j:Nat) (ls:Int) (h1:1<=ls) (h2:ls<=10) (hj:(10 - ls).toNat<=j),∀(D d:Nat) (hp1:Hp) (w:Bool) (hr:Rq T q g n w hp1),HB P0 Un (Lm bX) D d 121 [.ptr ⟨0,q,0⟩ g 0,iv ls] hp1 (QE T q g n w (Uu T ls.toNat n) D hp1) (fun _ _=>False):=by
   intro j
   induction j with
   |zero=>
    intro ls h1 h2 hj D d hp1 w hr;exact DZ D d hp1 (fun h=>Zo) ihE (fun D d hp1 n2 w hr hn=>by
     by_cases h:n=n2
     ·subst h;exact hA D d hp1 w hr
     ·exact(ih (T.length+1 - n2) (by have:=hr.le;omega) n2 (D5 _)).1 D d hp1 w hr) h1 h2 hr
   |succ j ihj=>
    intro ls h1 h2 hj D d hp1 w hr;refine DZ D d hp1 (fun h D d hp1 hr=>?_) ihE (fun D d hp1 n2 w hr hn=>by
     by_cases h:n=n2
     ·subst h;exact hA D d hp1 w hr
     ·exact(ih (T.length+1 - n2) (by have:=hr.le;omega) n2 (D5 _)).1 D d hp1 w hr) h1 h2 hr
    have e:(ls+1).toNat=ls.toNat+1:=Zo;have:=ihj (ls+1) Zo Zo Zo D d hp1 w hr;rw[e] at this;exact this
  exact⟨hA,fun ls h1 h2=>hE _ ls h1 h2 (D5 _),fun D d hp1 w hr=>args_q D d hp1 (fun D d hp1 n2 w ls h1 h2 hr hn=>by
    by_cases h:n=n2
    ·subst h;exact hE _ ls h1 h2 (D5 _) D d hp1 w hr
    ·exact ihE D d hp1 h1 h2 hr Zo) hr⟩
theorem Kz{ls:Int}(D d:Nat)(hp1:Hp)(h1:1<=ls)(h2:ls<=10)(hr:Rq T q g n w hp1):HB P0 Un (Lm bX) D d 121 [.ptr ⟨0,q,0⟩ g 0,iv ls] hp1 (QE T q g n w (Uu T ls.toNat n) D hp1) (fun _ _=>False):=
 (DY T q g _ n (D5 _)).2.1 ls h1 h2 D d hp1 w hr
theorem NN(D d:Nat)(hp1:Hp)(hr:Rq T q g n w hp1):HB P0 Un (Lm bX) D d 123 [.ptr ⟨0,q,0⟩ g 0] hp1 (QL T q g n w (eG T n) D hp1) (fun _ _=>False):=
 (DY T q g _ n (D5 _)).2.2 D d hp1 w hr
def QS (T:List Tok)(q g n:Nat)(w:Bool)(S:Option (Sy.St×Nat))(D:Nat)(hp1:Hp)(v:AV)(If:Hp):Prop:= ∃(x:Sy.St) (n2:Nat) (w2:Bool),v= .agg x.row/\Is w S (x,n2) w2/\n<=n2/\Rq T q g n2 w2 If/\Fr D q hp1 If
def QSL (T:List Tok)(q g n:Nat)(w:Bool)(S:Option (List Sy.St×Nat))(D:Nat)(hp1:Hp)(v:AV)(If:Hp):Prop:= ∃(x:List Sy.St) (n2:Nat) (w2:Bool),v= .sl false 5 (Ik x)/\Is w S (x,n2) w2/\n<=n2/\Rq T q g n2 w2 If/\Fr D q hp1 If
theorem cond_q(D d:Nat)(hp1:Hp)(hr:Rq T q g n w hp1):HB P0 Un (Lm bX) D d 120 [.ptr ⟨0,q,0⟩ g 0] hp1 (fun v If=> ∃(x:Sy.Ex) (n2:Nat) (w2:Bool),v= .sl false 5 [x.row]/\Is w (fF T n) (x,n2) w2/\n<=n2/\Rq T q g n2 w2 If/\Fr D q hp1 If) (fun _ _=>False):=by
 refine hZ (k1:=D+1) (PR:=fun _ _=>False) Tryz.func120 rfl ?_;obtain⟨h1,Ij,aI⟩:=hr
 repeat' (first|refine ZN ?_|refine Z2 ?_ ?_|(intro h h';try simp[*,-h] at h')|((with_reducible apply Ap (f:=24));exact Zv;apply Gf (D+1);decide;exact ZE;(rintro _ If ⟨n2,w2,rfl,hm,aO,⟨Ul,_,Ub⟩,Ic⟩;have U1:=Ic.own Zo;have aB:=Ic.all (k:=D) Zo;clear Ic))|((with_reducible apply Ap (f:=121));exact Zv;apply Kz (D+1);decide;decide;exact ZE;(rintro _ If ⟨⟨xk,xo,xn,xs,xl⟩,n2,w2,rfl,hx,aO,⟨Ul,_,Ub⟩,Ic⟩;have U1:=Ic.own Zo;have aB:=Ic.all (k:=D) Zo;clear Ic;simp only[Ag] at*;(try simp only[qX] at hx)))|fail)
 exact⟨.mk xk xo xn xs xl,n2,w2,Zm,by unfold fF;(repeat' (first|assumption|(refine Is.pos (by assumption) ?_)|(refine Is.neg (by first|assumption|exact .inr (by assumption)|exact .inr (Bk (by assumption) Zd)) ?_)|(refine Is.mapE (by assumption) ?_)|(refine Is.mapE (Is.bind (by assumption) (by assumption)) ?_)|(refine Is.bind (by assumption) ?_)|(with_reducible exact Is.ok rfl)|(refine Is.ok (S:=some _) ?_;rfl)|rfl)),Zo,⟨Zm,Ij,Zo⟩,fun d i c hd Ir=>by have Uc:d≠D+1:=Zo;simp[*]⟩
theorem body_q(D d:Nat)(hp1:Hp)(ihS: ∀(D d:Nat) (hp1:Hp) {n2:Nat} {w:Bool} (hr:Rq T q g n2 w hp1) (hn:n<=n2),HB P0 Un (Lm bX) D d 67 [.ptr ⟨0,q,0⟩ g 0] hp1 (QS T q g n2 w (fG T n2) D hp1) (fun _ _=>False))(hr:Rq T q g n w hp1):HB P0 Un (Lm bX) D d 122 [.ptr ⟨0,q,0⟩ g 0] hp1 (QSL T q g n w (gY T n) D hp1) (fun _ _=>False):=by
 refine hZ (k1:=D+1) (PR:=fun _ _=>False) Tryz.func122 rfl ?_;obtain⟨h1,Ij,aI⟩:=hr
 repeat' (first|refine ZN ?_|refine Z2 ?_ ?_|(intro h h';try simp[*,-h] at h')|((with_reducible apply Ap (f:=24));exact Zv;apply Gf (D+1);decide;exact ZE;(rintro _ If ⟨n2,w2,rfl,hm,aO,⟨Ul,_,Ub⟩,Ic⟩;have U1:=Ic.own Zo;have aB:=Ic.all (k:=D) Zo;clear Ic))|fail)
 refine Ac (n:=T.length+1) (fun s0 m s=> ∃(n3 g3:Nat) (w3:Bool) (l:List Sy.St),(w3=false->T.length+1 - n3<=m/\l.length<=n3)/\n<=n3/\sH w3 (cP T l n3) w (gY T n)/\s.fr 0=s0.fr 0/\s.fr 3= .own ⟨D+1,3,0⟩ g3 l.length/\s.hp ⟨D+1,3,0⟩= .arr g3 5 105 (Ik l) false/\Rq T q g n3 w3 s.hp/\Fr D q hp1 s.hp) ⟨n2,_,w2,[],fun _=>⟨Zo,Zi⟩,aO,fun z w4 h2=>Is.cast (Jy T n).symm (Is.bind hm h2),Zi,by simp;rfl,Zm,⟨Zm,Ij,Ub⟩,fun d i c hd Ir=>by have Uc:d≠D+1:=Zo;simp[*]⟩ ?_;clear h1 Ul U1 aB hm;rintro m ⟨fr,hp⟩ ⟨n3,g3,w3,l,tQ,pI,oI,f0,f3,hl,⟨hb,_,jY⟩,Uf⟩;simp at f3;simp at f0 hl Uf;simp only at hb;have HF:=Lib.hid Uf;have HK:=Lib.hid oI;clear Uf oI;have a3:=Sv l
 cases w3 with
 |true=>
  clear tQ
  repeat' first|refine ZN ?_|refine Z2 ?_ ?_|intro h h';try simp[*,-h] at h'
  have Uf:=HF.out;exact⟨l,n3,true,Zm,HK.out _ _ Is.bad,pI,⟨Zm,Ij,jY⟩,fun d i c hd Ir=>by have Uc:d≠D+1:=Zo;simp[*];exact Uf d i c hd Ir⟩
 |false=>
  obtain⟨tQ,wH⟩:=tQ rfl;have a1:(l.length+1)*96<=140737488355328:=Zo;have a2:l.length<=9223372036854775806:=Zo
  repeat' (first|refine ZN ?_|refine Z2 ?_ ?_|(intro h h';try simp[*,-h] at h')|((with_reducible apply Ap (f:=22));exact Zv;apply oC (D+1);decide;exact ZE;(rintro _ If (⟨rfl,hw,hk,aO,⟨Ul,_,Ub⟩,Ic⟩|⟨rfl,hk,⟨Ul,_,_⟩,Ic⟩)<;>(have U1:=Ic.own Zo;have aB:=Ic.all (k:=D) Zo;clear Ic)))|((with_reducible apply Fh (f:=22));(iterate 5 exact Z5);apply oC (D+1);decide;exact ZE;(rintro _ If (⟨rfl,hw,hk,aO,⟨Ul,_,Ub⟩,Ic⟩|⟨rfl,hk,⟨Ul,_,_⟩,Ic⟩)<;>(have U1:=Ic.own Zo;have aB:=Ic.all (k:=D) Zo;clear Ic)))|((with_reducible apply Ap (f:=67));exact Zv;apply ihS (D+1);exact ZE;omega;(rintro _ If ⟨⟨sk,sn,se,sth,sel⟩,n2,w2,rfl,dN,aO,⟨Ul,_,Ub⟩,Ic⟩;have U1:=Ic.own Zo;have aB:=Ic.all (k:=D) Zo;clear Ic;simp only[Bo] at*))|fail)
  ·have Uf:=HF.out
   exact⟨l,n3+1,false,Zm,HK.out _ _ (Ql hk),Zo,⟨Zm,Ij,Zo⟩,fun d i c hd Ir=>by have Uc:d≠D+1:=Zo;simp[*];exact Uf d i c hd Ir⟩
  ·have Uf:=HF.out
   exact⟨T.length - n3,Zo,n2,g3+1,w2,l++[.mk sk sn se sth sel],fun e=>by have:=Nu (Is.get dN e).2;exact⟨Zo,by simp;omega⟩,Zo,fun z w4 h2=>HK.out z w4 (F3a (hk.resolve_left Zi) dN z w4 h2),Zm,Zm,Zm,⟨Zm,Ij,Ub⟩,fun d i c hd Ir=>by have Uc:d≠D+1:=Zo;simp[*];exact Uf d i c hd Ir⟩
theorem stmt_q(D d:Nat)(hp1:Hp)(ihB: ∀(D d:Nat) (hp1:Hp) {n2:Nat} {w:Bool} (hr:Rq T q g n2 w hp1) (hn:n<n2),HB P0 Un (Lm bX) D d 122 [.ptr ⟨0,q,0⟩ g 0] hp1 (QSL T q g n2 w (gY T n2) D hp1) (fun _ _=>False))(hr:Rq T q g n w hp1):HB P0 Un (Lm bX) D d 67 [.ptr ⟨0,q,0⟩ g 0] hp1 (QS T q g n w (fG T n) D hp1) (fun _ _=>False):=by
 refine hZ (k1:=D+1) (PR:=fun _ _=>False) Tryz.func67 rfl ?_;obtain⟨h1,Ij,aI⟩:=hr
 repeat' (first|((apply Mt (c:=3) (idx:=[0,1,2]) (d:=65));kernel_rfl;kernel_rfl;simp only[T9,nT,Nh,X4,Rt,T7,X1];(repeat' (first|exact dL.nil|((with_reducible apply Ay);exact Zc)));exact rfl;exact Zc;exact Kl;decide;exact Zc;apply Kz (D+1);decide;decide;exact ZE;rotate_left;exact ZF;(rintro _ If uK ⟨⟨xk,xo,xn,xs,xl⟩,n2,w2,rfl,hx,aO,⟨Ul,_,Ub⟩,Ic⟩;have U1:=Ic.own Zo;have aB:=Ic.all (k:=D) Zo;clear Ic;simp only[Ag] at*;(try simp only[qX] at hx));refine Fi Zf ?_;(repeat (first|((with_reducible apply gP);exact Zc)|((with_reducible apply gQ);exact Zc)));(with_reducible apply A7);apply Be (ps:=[(0,2),(1,2),(0,3),(1,3),(0,4),(1,4)]);kernel_rfl;(iterate 2 refine Zk ?_);refine ZA ?_;refine ZA ?_;(iterate 2 refine Zs ?_);exact Zz)|((apply Df (c:=3) (idx:=[0,1,2]) (d:=83));kernel_rfl;kernel_rfl;simp only[T9,nT,Nh,X4,Rt,T7,X1];(repeat' (first|exact dL.nil|((with_reducible apply Ay);exact Zc)));exact rfl;exact Zc;exact Kl;decide;exact Zc;apply Kz (D+1);decide;decide;exact ZE;rotate_left;exact ZF;(rintro _ If uK ⟨⟨xk,xo,xn,xs,xl⟩,n2,w2,rfl,hx,aO,⟨Ul,_,Ub⟩,Ic⟩;have U1:=Ic.own Zo;have aB:=Ic.all (k:=D) Zo;clear Ic;simp only[Ag] at*;(try simp only[qX] at hx));refine Cb Zf ?_;(repeat (first|((with_reducible apply gP);exact Zc)|((with_reducible apply gQ);exact Zc)));(with_reducible apply A7);apply Be (ps:=[(0,2),(1,2),(0,3),(1,3),(0,4),(1,4)]);kernel_rfl;(iterate 2 refine Zk ?_);refine ZA ?_;refine ZA ?_;(iterate 2 refine Zs ?_);exact Zz)|((apply Mt (c:=3) (idx:=[0,1,2]) (d:=94));kernel_rfl;kernel_rfl;simp only[T9,nT,Nh,X4,Rt,T7,X1];(repeat' (first|exact dL.nil|((with_reducible apply Ay);exact Zc)));exact rfl;exact Zc;exact Kl;decide;exact Zc;apply Kz (D+1);decide;decide;exact ZE;rotate_left;exact ZF;(rintro _ If uK ⟨⟨yk,yo,yn,ys,yl⟩,n2,w2,rfl,hy,aO,⟨Ul,_,Ub⟩,Ic⟩;have U1:=Ic.own Zo;have aB:=Ic.all (k:=D) Zo;clear Ic;simp only[Ag] at*;(try simp only[qX] at hy));refine Fi Zf ?_;(repeat (first|((with_reducible apply gP);exact Zc)|((with_reducible apply gQ);exact Zc)));(with_reducible apply A7);apply Be (ps:=[(0,2),(1,2),(0,3),(1,3),(0,4),(1,4)]);kernel_rfl;(iterate 2 refine Zk ?_);refine ZA ?_;refine ZA ?_;(iterate 2 refine Zs ?_);exact Zz)|(refine Z1 ?_)|(refine Z2 ?_ ?_)|(intro h h';try simp[*,-h] at h')|((with_reducible apply Ap (f:=22));exact Zv;apply oC (D+1);decide;exact ZE;(rintro _ If (⟨rfl,hw,hk,aO,⟨Ul,_,Ub⟩,Ic⟩|⟨rfl,hk,⟨Ul,_,_⟩,Ic⟩)<;>(have U1:=Ic.own Zo;have aB:=Ic.all (k:=D) Zo;clear Ic)))|((with_reducible apply Ap (f:=25));exact Zv;apply F8 (D+1);decide;exact ZE;(rintro _ If ⟨⟨tk2,tt2,tn2,ta2⟩,n2,w2,rfl,ht,aO,⟨Ul,_,Ub⟩,Ic⟩;have U1:=Ic.own Zo;have aB:=Ic.all (k:=D) Zo;clear Ic;simp only[Tok.row_mk]))|((with_reducible apply Ap (f:=24));exact Zv;apply Gf (D+1);decide;exact ZE;(rintro _ If ⟨n2,w2,rfl,hm,aO,⟨Ul,_,Ub⟩,Ic⟩;have U1:=Ic.own Zo;have aB:=Ic.all (k:=D) Zo;clear Ic))|((with_reducible apply Ap (f:=121));exact Zv;apply Kz (D+1);decide;decide;exact ZE;(rintro _ If ⟨⟨xk,xo,xn,xs,xl⟩,n2,w2,rfl,hx,aO,⟨Ul,_,Ub⟩,Ic⟩;have U1:=Ic.own Zo;have aB:=Ic.all (k:=D) Zo;clear Ic;simp only[Ag] at*;(try simp only[qX] at hx)))|((with_reducible apply Ap (f:=123));exact Zv;apply NN (D+1);exact ZE;(rintro _ If ⟨xl,n2,w2,rfl,hx,aO,⟨Ul,_,Ub⟩,Ic⟩;have U1:=Ic.own Zo;have aB:=Ic.all (k:=D) Zo;clear Ic))|((with_reducible apply Ap (f:=120));exact Zv;apply cond_q (D+1);exact ZE;(rintro _ If ⟨rx,n2,w2,rfl,tP,aO,⟨Ul,_,Ub⟩,Ic⟩;have U1:=Ic.own Zo;have aB:=Ic.all (k:=D) Zo;clear Ic))|((fail_if_success (have xM:=bl));((with_reducible apply Ap (f:=122));exact Zv;apply ihB (D+1);exact ZE;omega;(rintro _ If ⟨bl,n2,w2,rfl,lI,aO,⟨Ul,_,Ub⟩,Ic⟩;have U1:=Ic.own Zo;have aB:=Ic.all (k:=D) Zo;clear Ic)))|((with_reducible apply Ap (f:=122));exact Zv;apply ihB (D+1);exact ZE;omega;(rintro _ If ⟨bl2,n2,w2,rfl,hbo2,aO,⟨Ul,_,Ub⟩,Ic⟩;have U1:=Ic.own Zo;have aB:=Ic.all (k:=D) Zo;clear Ic))|fail)
 all_goals (try subst_vars)
 ·exact⟨.mk 3 gD [rx] [] [],n2,w2,Zm,by(refine Is.cast (A3 T n).symm ?_);(repeat' (first|assumption|(refine Is.pos (by assumption) ?_)|(refine Is.neg (by first|assumption|exact .inr (by assumption)|exact .inr (Bk (by assumption) Zd)) ?_)|(refine Is.mapE (by assumption) ?_)|(refine Is.mapE (Is.bind (by assumption) (by assumption)) ?_)|(refine Is.bind (by assumption) ?_)|(with_reducible exact Is.ok rfl)|(refine Is.ok (S:=some _) ?_;rfl)|rfl)),Zo,⟨Zm,Ij,Zo⟩,fun d i c hd Ir=>by have Uc:d≠D+1:=Zo;simp[*]⟩
 ·exact⟨.mk 7 gD [] [] [],n+1+1,false,Zm,by(refine Is.cast (A3 T n).symm ?_);(repeat' (first|assumption|(refine Is.pos (by assumption) ?_)|(refine Is.neg (by first|assumption|exact .inr (by assumption)|exact .inr (Bk (by assumption) Zd)) ?_)|(refine Is.mapE (by assumption) ?_)|(refine Is.mapE (Is.bind (by assumption) (by assumption)) ?_)|(refine Is.bind (by assumption) ?_)|(with_reducible exact Is.ok rfl)|(refine Is.ok (S:=some _) ?_;rfl)|rfl)),Zo,⟨Zm,Ij,Zo⟩,fun d i c hd Ir=>by have Uc:d≠D+1:=Zo;simp[*]⟩
 ·exact⟨.mk 7 gD [.mk xk xo xn xs xl] [] [],n2,w2,Zm,by(refine Is.cast (A3 T n).symm ?_);(repeat' (first|assumption|(refine Is.pos (by assumption) ?_)|(refine Is.neg (by first|assumption|exact .inr (by assumption)|exact .inr (Bk (by assumption) Zd)) ?_)|(refine Is.mapE (by assumption) ?_)|(refine Is.mapE (Is.bind (by assumption) (by assumption)) ?_)|(refine Is.bind (by assumption) ?_)|(with_reducible exact Is.ok rfl)|(refine Is.ok (S:=some _) ?_;rfl)|rfl)),Zo,⟨Zm,Ij,Zo⟩,fun d i c hd Ir=>by have Uc:d≠D+1:=Zo;simp[*]⟩
 ·exact⟨.mk 4 gD [rx] bl bl2,n2,w2,Zm,by(refine Is.cast (A3 T n).symm ?_);(repeat' (first|assumption|(refine Is.pos (by assumption) ?_)|(refine Is.neg (by first|assumption|exact .inr (by assumption)|exact .inr (Bk (by assumption) Zd)) ?_)|(refine Is.mapE (by assumption) ?_)|(refine Is.mapE (Is.bind (by assumption) (by assumption)) ?_)|(refine Is.bind (by assumption) ?_)|(with_reducible exact Is.ok rfl)|(refine Is.ok (S:=some _) ?_;rfl)|rfl)),Zo,⟨Zm,Ij,Zo⟩,fun d i c hd Ir=>by have Uc:d≠D+1:=Zo;simp[*]⟩
 ·exact⟨.mk 4 gD [rx] bl [],n2,w2,Zm,by(refine Is.cast (A3 T n).symm ?_);(repeat' (first|assumption|(refine Is.pos (by assumption) ?_)|(refine Is.neg (by first|assumption|exact .inr (by assumption)|exact .inr (Bk (by assumption) Zd)) ?_)|(refine Is.mapE (by assumption) ?_)|(refine Is.mapE (Is.bind (by assumption) (by assumption)) ?_)|(refine Is.bind (by assumption) ?_)|(with_reducible exact Is.ok rfl)|(refine Is.ok (S:=some _) ?_;rfl)|rfl)),Zo,⟨Zm,Ij,Zo⟩,fun d i c hd Ir=>by have Uc:d≠D+1:=Zo;simp[*]⟩
 ·exact⟨.mk 5 gD [rx] bl [],n2,w2,Zm,by(refine Is.cast (A3 T n).symm ?_);(repeat' (first|assumption|(refine Is.pos (by assumption) ?_)|(refine Is.neg (by first|assumption|exact .inr (by assumption)|exact .inr (Bk (by assumption) Zd)) ?_)|(refine Is.mapE (by assumption) ?_)|(refine Is.mapE (Is.bind (by assumption) (by assumption)) ?_)|(refine Is.bind (by assumption) ?_)|(with_reducible exact Is.ok rfl)|(refine Is.ok (S:=some _) ?_;rfl)|rfl)),Zo,⟨Zm,Ij,Zo⟩,fun d i c hd Ir=>by have Uc:d≠D+1:=Zo;simp[*]⟩
 ·exact⟨.mk 6 tt2 xl [] [],n2,w2,Zm,by(refine Is.cast (A3 T n).symm ?_);(repeat' (first|assumption|(refine Is.cast (Ot T n).symm (Is.bind (by assumption) ?_))|(exact Pl (by assumption) (by assumption) (by assumption))|(exact Lc (by assumption) (by assumption) (by assumption) (by assumption) (by assumption) (by assumption))|(exact S5 (by assumption) (by assumption) (by assumption) (by assumption) (by assumption))|(refine Is.pos (by assumption) ?_)|(refine Is.neg (by first|assumption|exact .inr (by assumption)|exact .inr (Bk (by assumption) Zd)) ?_)|(refine Is.mapE (by assumption) ?_)|(refine Is.mapE (Is.bind (by assumption) (by assumption)) ?_)|(refine Is.bind (by assumption) ?_)|(with_reducible exact Is.ok rfl)|(refine Is.ok (S:=some _) ?_;rfl)|rfl)),Zo,⟨Zm,Ij,Zo⟩,fun d i c hd Ir=>by have Uc:d≠D+1:=Zo;simp[*]⟩
 ·exact⟨.mk 2 tt2 [.mk xk xo xn xs xl,.mk yk yo yn ys yl] [] [],n2,w2,Zm,by(refine Is.cast (A3 T n).symm ?_);(repeat' (first|assumption|(refine Is.cast (Ot T n).symm (Is.bind (by assumption) ?_))|(exact Pl (by assumption) (by assumption) (by assumption))|(exact Lc (by assumption) (by assumption) (by assumption) (by assumption) (by assumption) (by assumption))|(exact S5 (by assumption) (by assumption) (by assumption) (by assumption) (by assumption))|(refine Is.pos (by assumption) ?_)|(refine Is.neg (by first|assumption|exact .inr (by assumption)|exact .inr (Bk (by assumption) Zd)) ?_)|(refine Is.mapE (by assumption) ?_)|(refine Is.mapE (Is.bind (by assumption) (by assumption)) ?_)|(refine Is.bind (by assumption) ?_)|(with_reducible exact Is.ok rfl)|(refine Is.ok (S:=some _) ?_;rfl)|rfl)),Zo,⟨Zm,Ij,Zo⟩,fun d i c hd Ir=>by have Uc:d≠D+1:=Zo;simp[*]⟩
 ·exact⟨.mk 1 tt2 [.mk xk xo xn xs xl] [] [],n2,w2,Zm,by(refine Is.cast (A3 T n).symm ?_);(repeat' (first|assumption|(refine Is.cast (Ot T n).symm (Is.bind (by assumption) ?_))|(exact Pl (by assumption) (by assumption) (by assumption))|(exact Lc (by assumption) (by assumption) (by assumption) (by assumption) (by assumption) (by assumption))|(exact S5 (by assumption) (by assumption) (by assumption) (by assumption) (by assumption))|(refine Is.pos (by assumption) ?_)|(refine Is.neg (by first|assumption|exact .inr (by assumption)|exact .inr (Bk (by assumption) Zd)) ?_)|(refine Is.mapE (by assumption) ?_)|(refine Is.mapE (Is.bind (by assumption) (by assumption)) ?_)|(refine Is.bind (by assumption) ?_)|(with_reducible exact Is.ok rfl)|(refine Is.ok (S:=some _) ?_;rfl)|rfl)),Zo,⟨Zm,Ij,Zo⟩,fun d i c hd Ir=>by have Uc:d≠D+1:=Zo;simp[*]⟩
end
end Go.Proofs.YtggghdmdjpianaaGreatDoor
namespace Go.Ab.Sy
section
def jT (T:List Tok)(nm:Tx)(ps:List Tx)(wd:Bool)(ls:List Tx)(n:Nat):Option (Fu×Nat):=(kV T ls n).bind fun r=>(cP T [] r.2).map fun s=>((⟨nm,ps,r.1,wd,s.1⟩:Fu),s.2)
def mN (T:List Tok)(nm:Tx)(ps:List Tx)(wd:Bool)(ls:List Tx)(bl:List St)(n:Nat):Option (Fu×Nat):=(cP T bl n).map fun s=>((⟨nm,ps,ls,wd,s.1⟩:Fu),s.2)
section
variable {T:List Tok}{nm:Tx}{ps ls m:List Tx}{wd w w1 w2 w3 w4:Bool}{n n1 n2 n3 n4 n5:Nat}{bl:List St}{x:St}{t:Tok}
theorem Dsa (hk:Ig T n=Uo):Is false (dQ T n) ([],n+1) false:=Is.cast (Og T n).symm (Is.pos hk (Is.ok rfl))
theorem V1 (hk:w=true\/ ¬Ig T n=Uo)(h:Is w (eA T n) (ps,n1) w1)(hm:Is w1 (I6 T Uo n1) n2 w2):Is w (dQ T n) (ps,n2) w2:=Is.cast (Og T n).symm (Is.neg hk (Is.bind h (Is.mapE hm rfl)))
theorem Jla (ht:Is w (bW T 1 n) (t,n1) w1)(hm:Is w1 (I6 T Up n1) n2 w2)(hp:Is w2 (dQ T n2) (ps,n3) false)(hk:Ig T n3=bN)(hb:Is false (I6 T aH (n3+1)) n4 w4):sH w4 (jT T t.text ps true [] n4) w (kK T n):=fun z w5 h=>by
 refine Is.bind ht (Is.bind hm (Is.bind hp ?_));show Is false ((I6 T aH (if Ig T n3=bN then n3+1 else n3)).bind _) z w5;rw[Ka hk];refine Is.bind hb ?_;simp only[hk,decide_true];exact h
theorem Joa (ht:Is w (bW T 1 n) (t,n1) w1)(hm:Is w1 (I6 T Up n1) n2 w2)(hp:Is w2 (dQ T n2) (ps,n3) w3)(hk:w3=true\/ ¬Ig T n3=bN)(hb:Is w3 (I6 T aH n3) n4 w4):sH w4 (jT T t.text ps false [] n4) w (kK T n):=fun z w5 h=>by
 refine Is.bind ht (Is.bind hm (Is.bind hp ?_))
 cases hw:w3 with
 |true=>exact Is.wrong rfl (h.1 (hb.1 hw))
 |false=>
  have hk': ¬Ig T n3=bN:=hk.resolve_left (by simp[hw]);rw[hw] at hb;show Is false ((I6 T aH (if Ig T n3=bN then n3+1 else n3)).bind _) z w5;rw[Jx hk'];refine Is.bind hb ?_;simp only[hk',decide_false];exact h
theorem II (hc:Ig T n=dP)(h:Is false (eA T (n+1)) (m,n3) w3)(h3:Is w3 (I6 T aJ n3) n4 w4):sH w4 (jT T nm ps wd (ls++m) n4) false (jT T nm ps wd ls n):=fun z w5 h2=>by
 unfold jT at*;rw[Ca T ls n,Ka hc];simp only[Acl];exact Is.bind h (Is.bind h3 h2)
theorem Fza (hc:w=true\/ ¬Ig T n=dP):sH w (mN T nm ps wd ls [] n) w (jT T nm ps wd ls n):=fun z w5 h2=>Is.bind (Aca hc) h2
theorem JB (hc: ¬Ig T n=eH)(h:Is false (fG T n) (x,n3) w3):sH w3 (mN T nm ps wd ls (bl++[x]) n3) false (mN T nm ps wd ls bl n):=fun z w4 h2=>by
 unfold mN at*;rw[C8 T bl n,Jx hc];simp only[Ad3];exact Is.bind h h2
theorem Vq (hc:Ig T n=eH):Is false (mN T nm ps wd ls bl n) (⟨nm,ps,ls,wd,bl⟩,n+1) false:=Is.mapE (Ql hc) rfl
end
end
end Go.Ab.Sy
namespace Go.Proofs.YtggghdmdjpianaaGreatDoor
section
open Go Go.Ab Go.Ab.Sy
variable {w:Bool}{T:List Tok}{q g n:Nat}
theorem stmtsQ (T:List Tok)(q g:Nat): ∀m n:Nat,T.length+1 - n<=m->(∀(D d:Nat) (hp1:Hp) (w:Bool) (hr:Rq T q g n w hp1),HB P0 Un (Lm bX) D d 122 [.ptr ⟨0,q,0⟩ g 0] hp1 (QSL T q g n w (gY T n) D hp1) (fun _ _=>False))/\(∀(D d:Nat) (hp1:Hp) (w:Bool) (hr:Rq T q g n w hp1),HB P0 Un (Lm bX) D d 67 [.ptr ⟨0,q,0⟩ g 0] hp1 (QS T q g n w (fG T n) D hp1) (fun _ _=>False)):=by
 intro m
 induction m using Nat.strongRecOn with
 |_ m ih=>
  intro n hm;have hS: ∀(D d:Nat) (hp1:Hp) (w:Bool) (hr:Rq T q g n w hp1),HB P0 Un (Lm bX) D d 67 [.ptr ⟨0,q,0⟩ g 0] hp1 (QS T q g n w (fG T n) D hp1) (fun _ _=>False):=fun D d hp1 w hr=>stmt_q D d hp1 (fun D d hp1 n2 w hr hn=>(ih (T.length+1 - n2) (by have:=hr.le;omega) n2 (D5 _)).1 D d hp1 w hr) hr
  exact⟨fun D d hp1 w hr=>body_q D d hp1 (fun D d hp1 n2 w hr hn=>by
    by_cases h:n=n2
    ·subst h;exact hS D d hp1 w hr
    ·exact(ih (T.length+1 - n2) (by have:=hr.le;omega) n2 (D5 _)).2 D d hp1 w hr) hr,hS⟩
theorem IM(D d:Nat)(hp1:Hp)(hr:Rq T q g n w hp1):HB P0 Un (Lm bX) D d 67 [.ptr ⟨0,q,0⟩ g 0] hp1 (QS T q g n w (fG T n) D hp1) (fun _ _=>False):=(stmtsQ T q g _ n (D5 _)).2 D d hp1 w hr
def QF (T:List Tok)(q g n:Nat)(w:Bool)(S:Option (Sy.Fu×Nat))(D:Nat)(hp1:Hp)(v:AV)(If:Hp):Prop:= ∃(x:Sy.Fu) (n2:Nat) (w2:Bool),v= .agg x.row/\Is w S (x,n2) w2/\n<=n2/\Rq T q g n2 w2 If/\Fr D q hp1 If
theorem LJ(D d:Nat)(hp1:Hp)(hr:Rq T q g n w hp1):HB P0 Un (Lm bX) D d 22 [.ptr ⟨0,q,0⟩ g 0,tv ⟨#[119,111,114,100]⟩] hp1 (fun v If=> ∃(b:Bool) (n2:Nat),v=bv b/\((b=true/\w=false/\Ig T n=bN/\n2=n+1)\/(b=false/\(w=true\/ ¬Ig T n=bN)/\n2=n))/\n<=n2/\Rq T q g n2 w If/\Fr D q hp1 If) (fun _ _=>False):=by
 refine(oC (s:=⟨#[119,111,114,100]⟩) D d hp1 Zd hr).mono ?_ (fun _ _ h=>h);rintro v If (⟨rfl,hw,hk,hn,tP,hf⟩|⟨rfl,hk,tP,hf⟩)
 ·exact⟨true,n+1,rfl,.inl ⟨rfl,hw,hk,rfl⟩,Zo,by rw[hw];exact tP,hf⟩
 ·exact⟨false,n,rfl,.inr ⟨rfl,hk,rfl⟩,D5 _,tP,hf⟩
theorem DT{t:Tok}{ps:List Tx}{b w1 w2 w3 w4:Bool}{n1 n2 n3 n4 n5:Nat}(ht:Is w (bW T 1 n) (t,n1) w1)(hm:Is w1 (I6 T Up n1) n2 w2)(hp:Is w2 (dQ T n2) (ps,n3) w3)(hk:(b=true/\w3=false/\Ig T n3=bN/\n4=n3+1)\/(b=false/\(w3=true\/ ¬Ig T n3=bN)/\n4=n3))(hb:Is w3 (I6 T aH n4) n5 w4):sH w4 (jT T t.text ps b [] n5) w (kK T n):=by
 rcases hk with⟨rfl,rfl,hk,rfl⟩|⟨rfl,hk,rfl⟩
 ·exact Jla ht hm hp hk hb
 ·exact Joa ht hm hp hk hb
theorem fun_q(D d:Nat)(hp1:Hp)(hr:Rq T q g n w hp1):HB P0 Un (Lm bX) D d 26 [.ptr ⟨0,q,0⟩ g 0] hp1 (QF T q g n w (kK T n) D hp1) (fun _ _=>False):=by
 refine hZ (k1:=D+1) (PR:=fun _ _=>False) Tryz.func26 rfl ?_;obtain⟨h1,Ij,aI⟩:=hr
 repeat' (first|refine ZN ?_|refine Z2 ?_ ?_|(intro h h';try simp[*,-h] at h')|((with_reducible apply Ap (f:=22));exact Zv;apply LJ (D+1);exact ZE;(rintro _ If ⟨wb,n2,rfl,hwd,aO,⟨Ul,_,Ub⟩,Ic⟩;have U1:=Ic.own Zo;have aB:=Ic.all (k:=D) Zo;clear Ic))|((with_reducible apply Ap (f:=22));exact Zv;apply oC (D+1);decide;exact ZE;(rintro _ If (⟨rfl,hw,hk,aO,⟨Ul,_,Ub⟩,Ic⟩|⟨rfl,hk,⟨Ul,_,_⟩,Ic⟩)<;>(have U1:=Ic.own Zo;have aB:=Ic.all (k:=D) Zo;clear Ic)))|((with_reducible apply Ap (f:=25));exact Zv;apply F8 (D+1);decide;exact ZE;(rintro _ If ⟨⟨tk2,tt2,tn2,ta2⟩,n2,w2,rfl,ht,aO,⟨Ul,_,Ub⟩,Ic⟩;have U1:=Ic.own Zo;have aB:=Ic.all (k:=D) Zo;clear Ic;simp only[Tok.row_mk]))|((with_reducible apply Ap (f:=24));exact Zv;apply Gf (D+1);decide;exact ZE;(rintro _ If ⟨n2,w2,rfl,hm,aO,⟨Ul,_,Ub⟩,Ic⟩;have U1:=Ic.own Zo;have aB:=Ic.all (k:=D) Zo;clear Ic))|((with_reducible apply Ap (f:=23));exact Zv;apply Tk (D+1);exact ZE;(rintro _ If ⟨nl2,n2,w2,rfl,pO,aO,kM,⟨Ul,_,Ub⟩,Ic⟩;have U1:=Ic.own Zo;have aB:=Ic.all (k:=D) Zo;clear Ic))|fail)
 all_goals (try subst_vars)
 all_goals refine Ac (n:=T.length+1) (fun s0 m s=> ∃(n3 g2 g5:Nat) (w3:Bool) (ls ps:List Tx) (c1:AV) (wd:Bool) (nm:Tx),(w3=false->T.length+1 - n3<=m/\ls.length<=n3*2097152)/\n<=n3/\sH w3 (jT T nm ps wd ls n3) w (kK T n)/\s.fr 0= .ptr ⟨0,q,0⟩ g 0/\s.fr 2= .ptr ⟨D+1,2,0⟩ ((hp1 ⟨D+1,2,0⟩).gen+1) 0/\s.fr 3= .ptr ⟨D+1,3,0⟩ ((hp1 ⟨D+1,3,0⟩).gen+1) 0/\
   s.hp ⟨D+1,3,0⟩= .box ((hp1 ⟨D+1,3,0⟩).gen+1) [tv nm,c1,.own ⟨D+1,3,3⟩ g2 ls.length,bv wd,.own ⟨D+1,3,5⟩ g5 0] false/\s.hp ⟨D+1,3,3⟩= .arr g2 1 9 (Ib ls) false/\s.hp ⟨D+1,3,5⟩= .arr g5 5 105 [] false/\
   (c1= .sl false 1 (Ib ps)\/(ps=[]/\ ∃g',c1= .own ⟨D+1,3,2⟩ g' 0/\s.hp ⟨D+1,3,2⟩= .arr g' 1 9 [] false))/\
   s.hp ⟨D+1,2,0⟩= .box ((hp1 ⟨D+1,2,0⟩).gen+1) [tv ⟨⟨[]⟩⟩,.own ⟨D+1,2,2⟩ ((hp1 ⟨D+1,2,2⟩).gen+1) 0,.own ⟨D+1,2,3⟩ ((hp1 ⟨D+1,2,3⟩).gen+1) 0,bv false,.own ⟨D+1,2,5⟩ ((hp1 ⟨D+1,2,5⟩).gen+1) 0] false/\Rq T q g n3 w3 s.hp/\Fr D q hp1 s.hp) ?_ ?_
 ·exact⟨n2,(hp1 ⟨D+1,3,3⟩).gen+1+1,(hp1 ⟨D+1,3,5⟩).gen+1+1,w2,[],[],.own ⟨D+1,3,2⟩ ((hp1 ⟨D+1,3,2⟩).gen+1+1) 0,wb,tt2,fun _=>⟨Zo,Zi⟩,Zo,DT (by assumption) (by assumption) (Dsa (by assumption)) (by assumption) (by assumption),Zm,Zm,Zm,by simp[*];done,Zm,Zm,.inr ⟨rfl,_,rfl,Zm⟩,Zm,⟨by simp[*];done,Ij,Zo⟩,fun d i c hd Ir=>by have Uc:d≠D+1:=Zo;simp[*]⟩
 rotate_left
 ·exact⟨n2,(hp1 ⟨D+1,3,3⟩).gen+1+1,(hp1 ⟨D+1,3,5⟩).gen+1+1,w2,[],nl2,.sl false 1 (Ib nl2),wb,tt2,fun _=>⟨Zo,Zi⟩,Zo,DT (by assumption) (by assumption) (V1 (by assumption) (by assumption) (by assumption)) (by assumption) (by assumption),Zm,Zm,Zm,by simp[*];done,Zm,Zm,.inl rfl,Zm,⟨by simp[*];done,Ij,Zo⟩,fun d i c hd Ir=>by have Uc:d≠D+1:=Zo;simp[*]⟩
 all_goals clear h1 Ul U1 aB
 all_goals rintro m ⟨fr,hp⟩ ⟨n3,g2,g5,w3,ls,ps,c1,wd,nm,tQ,pI,oI,f0,f2,f3,b3,a3,a5,AN,b2,⟨hb,_,jY⟩,Uf⟩
 all_goals simp at f0 f2 f3 b3 a3 a5 AN b2 Uf
 all_goals simp only at hb
 all_goals have HF:=Lib.hid Uf
 all_goals have HK:=Lib.hid oI
 all_goals have HM:=Lib.hid tQ
 all_goals clear Uf oI tQ
 all_goals have t3:=D8 ls
 all_goals have HC1:=Lib.hid AN
 all_goals clear AN
 all_goals
  repeat' (first|((apply Df (c:=3) (idx:=[0,1,2]) (d:=28));kernel_rfl;kernel_rfl;simp only[T9,nT,Nh,X4,Rt,T7,X1];(repeat' (first|exact dL.nil|((with_reducible apply Ay);exact Zc)));exact rfl;exact Zc;exact Bva;decide;exact Zc;apply Tk (D+1);exact ZE;rotate_left;exact ZF;(rintro _ If uK ⟨nl3,n2,w2,rfl,pO,aO,kM,⟨Ul,_,Ub⟩,Ic⟩;have U1:=Ic.own Zo;have aB:=Ic.all (k:=D) Zo;clear Ic;obtain⟨hm9,wH⟩:=HM.out hw;have b1:(ls.length+nl3.length)*16<=140737488355328:=Zo;have b2:ls.length+nl3.length<=9223372036854775807:=Zo);refine Cb Zf ?_;(repeat (first|((with_reducible apply gP);exact Zc)|((with_reducible apply gQ);exact Zc)));(with_reducible apply A7);apply Be (ps:=[(0,2),(1,2),(0,3),(1,3)]);kernel_rfl;(iterate 2 refine Zk ?_);refine ZA ?_;refine ZA ?_;exact Zz)|(refine Z1 ?_)|(refine Z2 ?_ ?_)|(intro h h';try simp[*,-h] at h')|((with_reducible apply Ap (f:=22));exact Zv;apply oC (D+1);decide;exact ZE;(rintro _ If (⟨rfl,hw,hk,aO,⟨Ul,_,Ub⟩,Ic⟩|⟨rfl,hk,⟨Ul,_,_⟩,Ic⟩)<;>(have U1:=Ic.own Zo;have aB:=Ic.all (k:=D) Zo;clear Ic)))|((with_reducible apply Ap (f:=24));exact Zv;apply Gf (D+1);decide;exact ZE;(rintro _ If ⟨n2,w2,rfl,hm,aO,⟨Ul,_,Ub⟩,Ic⟩;have U1:=Ic.own Zo;have aB:=Ic.all (k:=D) Zo;clear Ic))|fail)
 all_goals (try subst hw)
 all_goals first
  |(exact⟨T.length - n3,Zo,n2,g2+1,g5,w2,ls++nl3,ps,c1,wd,nm,fun _=>⟨Zo,by simp;omega⟩,Zo,fun z w5 h2=>HK.out z w5 (II hk pO hm z w5 h2),Zm,Zm,Zm,by simp[*];done,Zm,Zm,HC1.out.imp id (fun⟨a,g',b,c⟩=>⟨a,g',b,Zm⟩),Zm,⟨by simp[*];done,Ij,Zo⟩,fun d i c hd Ir=>by have Uc:d≠D+1:=Zo;simp[*];exact HF.out d i c hd Ir⟩)
  |(refine Ac (n:=T.length+1) (fun s0 m s=> ∃(n3 g2 g5:Nat) (w3:Bool) (ls ps:List Tx) (c1:AV) (wd:Bool) (nm:Tx) (bl:List Sy.St),(w3=false->T.length+1 - n3<=m/\bl.length<=n3)/\n<=n3/\sH w3 (mN T nm ps wd ls bl n3) w (kK T n)/\s.fr 0= .ptr ⟨0,q,0⟩ g 0/\s.fr 2= .ptr ⟨D+1,2,0⟩ ((hp1 ⟨D+1,2,0⟩).gen+1) 0/\s.fr 3= .ptr ⟨D+1,3,0⟩ ((hp1 ⟨D+1,3,0⟩).gen+1) 0/\
   s.hp ⟨D+1,3,0⟩= .box ((hp1 ⟨D+1,3,0⟩).gen+1) [tv nm,c1,.own ⟨D+1,3,3⟩ g2 ls.length,bv wd,.own ⟨D+1,3,5⟩ g5 bl.length] false/\s.hp ⟨D+1,3,3⟩= .arr g2 1 9 (Ib ls) false/\s.hp ⟨D+1,3,5⟩= .arr g5 5 105 (Ik bl) false/\
   (c1= .sl false 1 (Ib ps)\/(ps=[]/\ ∃g',c1= .own ⟨D+1,3,2⟩ g' 0/\s.hp ⟨D+1,3,2⟩= .arr g' 1 9 [] false))/\
   s.hp ⟨D+1,2,0⟩= .box ((hp1 ⟨D+1,2,0⟩).gen+1) [tv ⟨⟨[]⟩⟩,.own ⟨D+1,2,2⟩ ((hp1 ⟨D+1,2,2⟩).gen+1) 0,.own ⟨D+1,2,3⟩ ((hp1 ⟨D+1,2,3⟩).gen+1) 0,bv false,.own ⟨D+1,2,5⟩ ((hp1 ⟨D+1,2,5⟩).gen+1) 0] false/\Rq T q g n3 w3 s.hp/\Fr D q hp1 s.hp) ⟨n3,g2,g5,w3,ls,ps,c1,wd,nm,[],fun _=>⟨Zo,Zi⟩,pI,fun z w5 h2=>HK.out z w5 (Fza hk z w5 h2),Zm,Zm,Zm,by simp[*];done,Zm,Zm,HC1.out.imp id (fun⟨a,g',b,c⟩=>⟨a,g',b,Zm⟩),Zm,⟨by simp[*];done,Ij,Zo⟩,fun d i c hd Ir=>by have Uc:d≠D+1:=Zo;simp[*];exact HF.out d i c hd Ir⟩ ?_)
 all_goals clear hb Ul U1 aB b3 a3 a5 b2 f0 f2 f3 HF HK HM t3 hk HC1
 all_goals rintro m ⟨fr,hp⟩ ⟨n3,g2,g5,w3,ls,ps,c1,wd,nm,bl,tQ,pI,oI,f0,f2,f3,b3,a3,a5,AN,b2,⟨hb,_,jY⟩,Uf⟩
 all_goals simp at f0 f2 f3 b3 a3 a5 AN b2 Uf
 all_goals simp only at hb
 all_goals have HF:=Lib.hid Uf
 all_goals have HK:=Lib.hid oI
 all_goals have HM:=Lib.hid tQ
 all_goals clear Uf oI tQ
 all_goals have t3:=D8 ls
 all_goals have t4:=Sv bl
 all_goals have HC1:=Lib.hid AN
 all_goals clear AN
 all_goals
  cases w3
  ·obtain⟨hm9,wH⟩:=HM.out rfl
   have a1:(bl.length+1)*96<=140737488355328:=Zo;have a3':bl.length<=9223372036854775806:=Zo;clear HM
   repeat' (first|((apply Mt (c:=3) (idx:=[0,1,2]) (d:=46));kernel_rfl;kernel_rfl;simp only[T9,nT,Nh,X4,Rt,T7,X1];(repeat' (first|exact dL.nil|((with_reducible apply Ay);exact Zc)));exact rfl;exact Zc;exact JW;decide;exact Zc;apply IM (D+1);exact ZE;rotate_left;exact ZF;(rintro _ If uK ⟨⟨sk,sn,se,sth,sel⟩,n2,w2,rfl,dN,aO,⟨Ul,_,Ub⟩,Ic⟩;have U1:=Ic.own Zo;have aB:=Ic.all (k:=D) Zo;clear Ic;simp only[Bo] at*);refine Fi Zf ?_;(repeat (first|((with_reducible apply gP);exact Zc)|((with_reducible apply gQ);exact Zc)));(with_reducible apply A7);apply Be (ps:=[(0,2),(1,2),(0,3),(1,3),(0,4),(1,4)]);kernel_rfl;(iterate 2 refine Zk ?_);refine ZA ?_;refine ZA ?_;(iterate 2 refine Zs ?_);exact Zz)|(refine Z1 ?_)|(refine Z2 ?_ ?_)|(intro h h';try simp[*,-h] at h')|((with_reducible apply Ap (f:=22));exact Zv;apply oC (D+1);decide;exact ZE;(rintro _ If (⟨rfl,hw,hk,aO,⟨Ul,_,Ub⟩,Ic⟩|⟨rfl,hk,⟨Ul,_,_⟩,Ic⟩)<;>(have U1:=Ic.own Zo;have aB:=Ic.all (k:=D) Zo;clear Ic)))|((with_reducible apply Fh (f:=22));(iterate 5 exact Z5);apply oC (D+1);decide;exact ZE;(rintro _ If (⟨rfl,hw,hk,aO,⟨Ul,_,Ub⟩,Ic⟩|⟨rfl,hk,⟨Ul,_,_⟩,Ic⟩)<;>(have U1:=Ic.own Zo;have aB:=Ic.all (k:=D) Zo;clear Ic)))|fail)
   ·rcases HC1.out with rfl|⟨rfl,g',rfl,a2⟩
    ·
     repeat' first|refine ZN ?_|refine Z2 ?_ ?_|intro h h';try simp[*,-h] at h'
     exact⟨⟨nm,ps,ls,wd,bl⟩,n3+1,false,by simp[Sy.Fu.row, *],HK.out _ _ (Vq hk),Zo,⟨Zm,Ij,Zo⟩,fun d i c hd Ir=>by have Uc:d≠D+1:=Zo;simp[*];exact HF.out d i c hd Ir⟩
    ·
     repeat' first|refine ZN ?_|refine Z2 ?_ ?_|intro h h';try simp[*,-h] at h'
     exact⟨⟨nm,[],ls,wd,bl⟩,n3+1,false,by simp[Sy.Fu.row, *],HK.out _ _ (Vq hk),Zo,⟨Zm,Ij,Zo⟩,fun d i c hd Ir=>by have Uc:d≠D+1:=Zo;simp[*];exact HF.out d i c hd Ir⟩
   ·refine⟨T.length - n3,Zo,n2,g2,g5+1,w2,ls,ps,c1,wd,nm,bl++[.mk sk sn se sth sel],?_,?_,?_,?_,?_,?_,?_,?_,?_,?_,?_,?_,?_⟩
    ·exact fun e=>by have:=Nu (Is.get dN e).2;exact⟨Zo,by simp;omega⟩
    ·omega
    ·exact fun z w5 h2=>HK.out z w5 (JB (hk.resolve_left Zi) dN z w5 h2)
    ·simp[*]
    ·simp[*]
    ·simp[*]
    ·simp[*];done
    ·simp[*]
    ·simp[*]
    ·exact HC1.out.imp id (fun⟨a,g',b,c⟩=>⟨a,g',b,Zm⟩)
    ·simp[*]
    ·exact⟨by simp[*];done,Ij,Zo⟩
    ·exact fun d i c hd Ir=>by have Uc:d≠D+1:=Zo;simp[*];exact HF.out d i c hd Ir
  ·clear HM
   repeat' first|refine ZN ?_|refine Z2 ?_ ?_|intro h h';try simp[*,-h] at h'
   rcases HC1.out with rfl|⟨rfl,g',rfl,a2⟩
   ·
    repeat' first|refine ZN ?_|refine Z2 ?_ ?_|intro h h';try simp[*,-h] at h'
    exact⟨⟨nm,ps,ls,wd,bl⟩,n3,true,by simp[Sy.Fu.row, *],HK.out _ _ Is.bad,Zo,⟨Zm,Ij,Zo⟩,fun d i c hd Ir=>by have Uc:d≠D+1:=Zo;simp[*];exact HF.out d i c hd Ir⟩
   ·
    repeat' first|refine ZN ?_|refine Z2 ?_ ?_|intro h h';try simp[*,-h] at h'
    exact⟨⟨nm,[],ls,wd,bl⟩,n3,true,by simp[Sy.Fu.row, *],HK.out _ _ Is.bad,Zo,⟨Zm,Ij,Zo⟩,fun d i c hd Ir=>by have Uc:d≠D+1:=Zo;simp[*];exact HF.out d i c hd Ir⟩
end
end Go.Proofs.YtggghdmdjpianaaGreatDoor
namespace Go.Ab.Sy
section
def jE (T:List Tok)(v:List Tx)(a:List (Tx×Int))(n:Nat):Option Pr:=(nE T v a n).bind fun p=>(gJ T [] p.2).map fun l=>⟨p.1.1,p.1.2,l⟩
def DQ (T:List Tok)(l:List Fu)(n:Nat):Option (List Fu):=(kK T n).bind fun p=>if p.2<T.length then gJ T (l++[p.1]) p.2 else some (l++[p.1])
def oB (T:List Tok)(v:List Tx)(a:List (Tx×Int))(l:List Fu)(n:Nat):Option Pr:=(DQ T l n).map fun l=>⟨v,a,l⟩
theorem Cda (T:List Tok)(l:List Fu)(n:Nat):gJ T l n=(I6 T cR n).bind (DQ T l):=O9 T l n
theorem Bpa (T:List Tok):iY T=jE T [] [] 0:=Jq T
section
variable {T:List Tok}{m v:List Tx}{a:List (Tx×Int)}{w w1 w2 w3 w4 w5 w6 w7:Bool}{n n1 n2 n3 n4 n5 n6 n7:Nat}{x:Fu}{fs:List Fu}{t u:Tok}
theorem Jda (hc:Ig T n=dP)(h:Is false (eA T (n+1)) (m,n3) w3)(h3:Is w3 (I6 T aJ n3) n4 w4):sH w4 (jE T (v++m) a n4) false (jE T v a n):=fun z w5 h2=>by
 unfold jE at*;rw[Ck T v a n,Ka hc];simp only[Acl];exact Is.bind h (Is.bind h3 h2)
theorem W9 (hc:Ig T n=aT)(h1:Is false (bW T 1 (n+1)) (t,n1) w1)(h2:Is w1 (I6 T fO n1) n2 w2)(h3:Is w2 (bW T 2 n2) (u,n3) w3)(h4:Is w3 (I6 T bU n3) n4 w4)(h5:Is w4 (I6 T aJ n4) n5 w5):sH w5 (jE T v (a++[(t.text,IntKind.i64.wrap u.num)]) n5) false (jE T v a n):=fun z w6 h=>by
 unfold jE at*;rw[Ck T v a n,Jx (Bk hc Zd),Ka hc];simp only[Acl];exact Is.bind h1 (Is.bind h2 (Is.bind h3 (Is.bind h4 (Is.bind h5 h))))
theorem W8 (xF:w=true\/ ¬Ig T n=dP)(rU:w=true\/ ¬Ig T n=aT)(hm:Is w (I6 T cR n) n3 w3):sH w3 (oB T v a [] n3) w (jE T v a n):=fun z w4 h=>by
 unfold jE oB at*;rw[Ck T v a n]
 cases hw:w with
 |true=>exact Is.wrong rfl (h.1 (hm.1 hw))
 |false=>
  subst hw;rw[Jx (xF.resolve_left Zi),Jx (rU.resolve_left Zi)];show Is false ((gJ T [] n).map _) z w4;rw[Cda];simp only[Ad3];exact Is.bind hm h
theorem MM (hf:Is false (kK T n) (x,n3) false)(Ii:n3<T.length)(hm:Is false (I6 T cR n3) n4 w4):sH w4 (oB T v a (fs++[x]) n4) false (oB T v a fs n):=fun z w5 h=>by
 unfold oB at*;rw[show DQ T fs n=(kK T n).bind fun p=>if p.2<T.length then gJ T (fs++[p.1]) p.2 else some (fs++[p.1]) from rfl];simp only[Ad3];refine Is.bind hf ?_;show Is false (Option.map _ (if n3<T.length then gJ T (fs++[x]) n3 else some (fs++[x]))) z w5;rw[Ka Ii,Cda];simp only[Ad3];exact Is.bind hm h
theorem Xf (hf:Is false (kK T n) (x,n3) w3)(he:w3=true\/ ¬n3<T.length):Is false (oB T v a fs n) ⟨v,a,fs++[x]⟩ w3:=by
 unfold oB;refine Is.mapE (y:=fs++[x]) ?_ rfl;refine Is.bind hf ?_;exact Is.neg he (Is.ok rfl)
end
end
end Go.Ab.Sy
namespace Go.Proofs.YtggghdmdjpianaaGreatDoor
section
open Go Go.Ab Go.Ab.Sy
def QP (T:List Tok)(q g n:Nat)(w:Bool)(D:Nat)(hp1:Hp)(v:AV)(If:Hp):Prop:= ∃(x:Sy.Pr) (n2:Nat) (w2:Bool),v= .agg x.row/\Is w (jE T [] [] n) x w2/\(w2=false-> ¬n2<T.length)/\Rq T q g n2 w2 If/\Fr D q hp1 If
theorem prog_q {T:List Tok}{q g n:Nat}{w:Bool}(D d:Nat)(hp1:Hp)(hr:Rq T q g n w hp1):HB P0 Un (Lm bX) D d 12 [.ptr ⟨0,q,0⟩ g 0] hp1 (QP T q g n w D hp1) (fun _ _=>False):=by
 refine hZ (k1:=D+1) (PR:=fun _ _=>False) Tryz.func12 rfl ?_;obtain⟨h1,Ij,aI⟩:=hr
 repeat' first|refine ZN ?_|refine Z2 ?_ ?_|intro h h';try simp[*,-h] at h'
 refine Ac (n:=T.length+1) (fun s0 m s=> ∃(n3 gv ga gf:Nat) (w3:Bool) (vs:List Tx) (ar:List (Tx×Int)),(w3=false->T.length+1 - n3<=m/\vs.length<=n3*2097152/\ar.length<=n3)/\n<=n3/\sH w3 (jE T vs ar n3) w (jE T [] [] n)/\s.fr 0= .ptr ⟨0,q,0⟩ g 0/\s.fr 2= .ptr ⟨D+1,2,0⟩ ((hp1 ⟨D+1,2,0⟩).gen+1) 0/\s.fr 3= .ptr ⟨D+1,3,0⟩ ((hp1 ⟨D+1,3,0⟩).gen+1) 0/\s.hp ⟨D+1,3,0⟩= .box ((hp1 ⟨D+1,3,0⟩).gen+1) [.own ⟨D+1,3,1⟩ gv vs.length,.own ⟨D+1,3,2⟩ ga ar.length,.own ⟨D+1,3,3⟩ gf 0] false/\s.hp ⟨D+1,3,1⟩= .arr gv 1 9 (Ib vs) false/\s.hp ⟨D+1,3,2⟩= .arr ga 2 82 (Ih ar) false/\s.hp ⟨D+1,3,3⟩= .arr gf 5 85 [] false/\s.hp ⟨D+1,2,0⟩= .box ((hp1 ⟨D+1,2,0⟩).gen+1) [.own ⟨D+1,2,1⟩ ((hp1 ⟨D+1,2,1⟩).gen+1) 0,.own ⟨D+1,2,2⟩ ((hp1 ⟨D+1,2,2⟩).gen+1) 0,.own ⟨D+1,2,3⟩ ((hp1 ⟨D+1,2,3⟩).gen+1) 0] false/\Rq T q g n3 w3 s.hp/\Fr D q hp1 s.hp) ⟨n,(hp1 ⟨D+1,3,1⟩).gen+1,(hp1 ⟨D+1,3,2⟩).gen+1,(hp1 ⟨D+1,3,3⟩).gen+1,w,[],[],?_⟩ ?_
 ·refine⟨fun _=>⟨Zo,Zi,Zi⟩,D5 _,fun z w4 h=>h,?_⟩
  exact⟨Zi,Zi,Zi,by simp;done,Zi,by simp[Ih],Zi,Zi,⟨Zm,Ij,aI⟩,fun d i c hd Ir=>by have Uc:d≠D+1:=Zo;simp[*]⟩
 clear h1;rintro m ⟨fr,hp⟩ ⟨n3,gv,ga,gf,w3,vs,ar,tQ,pI,oI,f0,f2,f3,b3,a1,a2,a3,b2,⟨hb,_,jY⟩,Uf⟩;simp at f0 f2 f3 b3 a1 a2 a3 b2 Uf;simp only at hb;have HF:=Lib.hid Uf;have HK:=Lib.hid oI;have HM:=Lib.hid tQ;clear Uf oI tQ;have t1:=D8 vs;have t2:=Nb ar;have t4:=Pt ar;have t6:=Nc ar
 cases w3
 all_goals first
  |(obtain⟨hm9,wH,hl1⟩:=HM.out rfl;have x1:(ar.length+1)*24<=140737488355328:=Zo;have x2:ar.length<=9223372036854775806:=Zo;clear hm9 wH hl1)
  |skip
 all_goals
  repeat' (first|((apply Df (c:=3) (idx:=[0,1,2]) (d:=16));kernel_rfl;kernel_rfl;simp only[T9,nT,Nh,X4,Rt,T7,X1];(repeat' (first|exact dL.nil|((with_reducible apply Ay);exact Zc)));exact rfl;exact Zc;exact Bva;decide;exact Zc;apply Tk (D+1);exact ZE;rotate_left;exact ZF;(rintro _ If uK ⟨nl3,n2,w2,rfl,pO,aO,kM,⟨Ul,_,Ub⟩,Ic⟩;have U1:=Ic.own Zo;have aB:=Ic.all (k:=D) Zo;clear Ic;obtain⟨hm9,wH,hl1⟩:=HM.out rfl;have b1:(vs.length+nl3.length)*16<=140737488355328:=Zo;have b2':vs.length+nl3.length<=9223372036854775807:=Zo);refine Cb Zf ?_;(repeat (first|((with_reducible apply gP);exact Zc)|((with_reducible apply gQ);exact Zc)));(with_reducible apply A7);apply Be (ps:=[(0,2),(1,2),(0,3),(1,3)]);kernel_rfl;(iterate 2 refine Zk ?_);refine ZA ?_;refine ZA ?_;exact Zz)|(refine Z1 ?_)|(refine Z2 ?_ ?_)|(intro h h';try simp[*,-h] at h')|((with_reducible apply Ap (f:=22));exact Zv;apply oC (D+1);decide;exact ZE;(rintro _ If (⟨rfl,hw,hk,aO,⟨Ul,_,Ub⟩,Ic⟩|⟨rfl,hk,⟨Ul,_,_⟩,Ic⟩)<;>(have U1:=Ic.own Zo;have aB:=Ic.all (k:=D) Zo;clear Ic)))|((with_reducible apply Ap (f:=24));exact Zv;apply Gf (D+1);decide;exact ZE;(rintro _ If ⟨n2,w2,rfl,hm,aO,⟨Ul,_,Ub⟩,Ic⟩;have U1:=Ic.own Zo;have aB:=Ic.all (k:=D) Zo;clear Ic))|((fail_if_success (have xM:=tt1));((with_reducible apply Ap (f:=25));exact Zv;apply F8 (D+1);decide;exact ZE;(rintro _ If ⟨⟨tk1,tt1,tn1,ta1⟩,n2,w2,rfl,ht1,aO,⟨Ul,_,Ub⟩,Ic⟩;have U1:=Ic.own Zo;have aB:=Ic.all (k:=D) Zo;clear Ic;simp only[Tok.row_mk])))|((with_reducible apply Ap (f:=25));exact Zv;apply F8 (D+1);decide;exact ZE;(rintro _ If ⟨⟨tk2,tt2,tn2,ta2⟩,n2,w2,rfl,ht,aO,⟨Ul,_,Ub⟩,Ic⟩;have U1:=Ic.own Zo;have aB:=Ic.all (k:=D) Zo;clear Ic;simp only[Tok.row_mk]))|fail)
 ·refine⟨T.length - n3,Zo,n2,gv+1,ga,gf,w2,vs++nl3,ar,?_,?_,?_,?_,?_,?_,?_,?_,?_,?_,?_,?_,?_⟩
  ·exact fun _=>⟨Zo,by simp;omega,Zo⟩
  ·omega
  ·exact fun z w5 h2=>HK.out z w5 (Jda hk pO hm z w5 h2)
  ·simp[*]
  ·simp[*]
  ·simp[*]
  ·simp[*];done
  ·simp[*]
  ·simp[*]
  ·simp[*]
  ·simp[*]
  ·exact⟨by simp[*];done,Ij,Zo⟩
  ·exact fun d i c hd Ir=>by have Uc:d≠D+1:=Zo;simp[*];exact HF.out d i c hd Ir
 ·obtain⟨hm9,wH,hl1⟩:=HM.out rfl
  have hn9:n3+1<=n2:=Zo;refine⟨T.length - n3,Zo,n2,gv,ga+1,gf,w2,vs,ar++[(tt1,IntKind.i64.wrap tn2)],?_,?_,?_,?_,?_,?_,?_,?_,?_,?_,?_,?_,?_⟩
  ·exact fun _=>⟨Zo,Ve wH (xY _ Zo),by rw[X3];exact Ve (Nat.add_le_add_right hl1 1) hn9⟩
  ·omega
  ·exact fun z w5 h2=>HK.out z w5 (W9 (t:=⟨tk1,tt1,tn1,ta1⟩) (u:=⟨tk2,tt2,tn2,ta2⟩) hk (by assumption) (by assumption) (by assumption) (by assumption) (by assumption) z w5 h2)
  ·simp[*]
  ·simp[*]
  ·simp[*]
  ·simp[*];done
  ·simp[*]
  ·simp[*]
  ·simp[*]
  ·simp[*]
  ·exact⟨by simp[*];done,Ij,Zo⟩
  ·exact fun d i c hd Ir=>by have Uc:d≠D+1:=Zo;simp[*];exact HF.out d i c hd Ir
 all_goals have HN:=Lib.hid (show sH w2 (oB T vs ar [] n2) w (jE T [] [] n) from fun z w5 h2=>HK.out z w5 (by first|exact W8 (by assumption) (by assumption) (by assumption) z w5 h2|exact W8 (.inl rfl) (.inl rfl) (by assumption) z w5 h2))
 all_goals
  refine Ac (n:=T.length+1) (fun s0 m s=> ∃(n3 gv ga gf:Nat) (w3:Bool) (vs:List Tx) (ar:List (Tx×Int)) (fs:List Sy.Fu),(w3=false->T.length+1 - n3<=m/\fs.length<=n3)/\n<=n3/\sH w3 (oB T vs ar fs n3) w (jE T [] [] n)/\s.fr 0= .ptr ⟨0,q,0⟩ g 0/\s.fr 2= .ptr ⟨D+1,2,0⟩ ((hp1 ⟨D+1,2,0⟩).gen+1) 0/\s.fr 3= .ptr ⟨D+1,3,0⟩ ((hp1 ⟨D+1,3,0⟩).gen+1) 0/\s.hp ⟨D+1,3,0⟩= .box ((hp1 ⟨D+1,3,0⟩).gen+1) [.own ⟨D+1,3,1⟩ gv vs.length,.own ⟨D+1,3,2⟩ ga ar.length,.own ⟨D+1,3,3⟩ gf fs.length] false/\s.hp ⟨D+1,3,1⟩= .arr gv 1 9 (Ib vs) false/\s.hp ⟨D+1,3,2⟩= .arr ga 2 82 (Ih ar) false/\s.hp ⟨D+1,3,3⟩= .arr gf 5 85 (fs.map Sy.Fu.row) false/\s.hp ⟨D+1,2,0⟩= .box ((hp1 ⟨D+1,2,0⟩).gen+1) [.own ⟨D+1,2,1⟩ ((hp1 ⟨D+1,2,1⟩).gen+1) 0,.own ⟨D+1,2,2⟩ ((hp1 ⟨D+1,2,2⟩).gen+1) 0,.own ⟨D+1,2,3⟩ ((hp1 ⟨D+1,2,3⟩).gen+1) 0] false/\Rq T q g n3 w3 s.hp/\Fr D q hp1 s.hp) ?_ ?_
  ·refine⟨n2,gv,ga,gf,w2,vs,ar,[],?_,?_,?_,?_,?_,?_,?_,?_,?_,?_,?_,?_,?_⟩
   ·exact fun _=>⟨Zo,Zi⟩
   ·omega
   ·exact HN.out
   ·simp[*]
   ·simp[*]
   ·simp[*]
   ·simp[*];done
   ·simp[*]
   ·simp[*]
   ·simp[*]
   ·simp[*]
   ·exact⟨by simp[*];done,Ij,Zo⟩
   ·exact fun d i c hd Ir=>by have Uc:d≠D+1:=Zo;simp[*];exact HF.out d i c hd Ir
 all_goals clear HK HM HN HF hb b3 a1 a2 a3 b2 f0 f2 f3 t1 t2 t4 t6
 all_goals rintro m ⟨fr,hp⟩ ⟨n3,gv,ga,gf,w3,vs,ar,fs,tQ,pI,oI,f0,f2,f3,b3,a1,a2,a3,b2,⟨hb,_,jY⟩,Uf⟩
 all_goals simp at f0 f2 f3 b3 a1 a2 a3 b2 Uf
 all_goals simp only at hb
 all_goals have HF:=Lib.hid Uf
 all_goals have HK:=Lib.hid oI
 all_goals have HM:=Lib.hid tQ
 all_goals clear Uf oI tQ
 all_goals have t1:=D8 vs
 all_goals have t2:=Nb ar
 all_goals have t4:=Pt ar
 all_goals have t6:=Nc ar
 all_goals have t3:=M7 fs
 all_goals
  cases w3
  ·obtain⟨hm9,wH⟩:=HM.out rfl
   have x3:(fs.length+1)*96<=140737488355328:=Zo;have x4:fs.length<=9223372036854775806:=Zo;clear HM
   repeat' (first|((apply Df (c:=3) (idx:=[0,1,2]) (d:=55));kernel_rfl;kernel_rfl;simp only[T9,nT,Nh,X4,Rt,T7,X1];(repeat' (first|exact dL.nil|((with_reducible apply Ay);exact Zc)));exact rfl;exact Zc;exact KC;decide;exact Zc;apply fun_q (D+1);exact ZE;rotate_left;exact ZF;(rintro _ If uK ⟨⟨fn,fp,fl,fw,fb⟩,n2,w2,rfl,nD,aO,⟨Ul,_,Ub⟩,Ic⟩;have U1:=Ic.own Zo;have aB:=Ic.all (k:=D) Zo;clear Ic;simp only[A8] at*);refine Cb Zf ?_;(repeat (first|((with_reducible apply gP);exact Zc)|((with_reducible apply gQ);exact Zc)));(with_reducible apply A7);apply Be (ps:=[(0,2),(1,2),(0,3),(1,3),(0,4),(1,4)]);kernel_rfl;(iterate 2 refine Zk ?_);refine ZA ?_;refine ZA ?_;(iterate 2 refine Zs ?_);exact Zz)|(refine Z1 ?_)|(refine Z2 ?_ ?_)|(intro h h';try simp[*,-h] at h')|((with_reducible apply Ap (f:=24));exact Zv;apply Gf (D+1);decide;exact ZE;(rintro _ If ⟨n2,w2,rfl,hm,aO,⟨Ul,_,Ub⟩,Ic⟩;have U1:=Ic.own Zo;have aB:=Ic.all (k:=D) Zo;clear Ic))|fail)
   all_goals (try subst_vars)
   ·exact⟨⟨vs,ar,fs++[⟨fn,fp,fl,fw,fb⟩]⟩,n2,false,by have t9:=M7 (fs++[⟨fn,fp,fl,fw,fb⟩]);simp at t9;simp[Sy.Pr.row,t9],HK.out _ _ (Xf nD (.inr Zo)),fun _=>Zo,⟨Zm,Ij,Ub⟩,fun d i c hd Ir=>by have Uc:d≠D+1:=Zo;simp[*];exact HF.out d i c hd Ir⟩
   ·have hq:=Ts (Is.get nD rfl).2
    refine⟨T.length - n3,Zo,n2,gv,ga,gf+1,w2,vs,ar,fs++[⟨fn,fp,fl,fw,fb⟩],?_,?_,?_,?_,?_,?_,?_,?_,?_,?_,?_,?_,?_⟩
    ·exact fun e=>⟨Zo,by simp;omega⟩
    ·omega
    ·exact fun z w5 h2=>HK.out z w5 (MM nD Zo hm z w5 h2)
    ·simp[*]
    ·simp[*]
    ·simp[*]
    ·simp[*];done
    ·simp[*]
    ·simp[*]
    ·simp[*]
    ·simp[*]
    ·exact⟨by simp[*];done,Ij,Zo⟩
    ·exact fun d i c hd Ir=>by have Uc:d≠D+1:=Zo;simp[*];exact HF.out d i c hd Ir
   ·exact⟨⟨vs,ar,fs++[⟨fn,fp,fl,fw,fb⟩]⟩,n2,true,by have t9:=M7 (fs++[⟨fn,fp,fl,fw,fb⟩]);simp at t9;simp[Sy.Pr.row,t9],HK.out _ _ (Xf nD (.inl rfl)),(fun e=>(by cases e)),⟨Zm,Ij,Ub⟩,fun d i c hd Ir=>by have Uc:d≠D+1:=Zo;simp[*];exact HF.out d i c hd Ir⟩
  ·clear HM
   repeat' first|refine ZN ?_|refine Z2 ?_ ?_|intro h h';try simp[*,-h] at h'
   exact⟨⟨vs,ar,fs⟩,n3,true,by simp[Sy.Pr.row],HK.out _ _ Is.bad,(fun e=>(by cases e)),⟨Zm,Ij,jY⟩,fun d i c hd Ir=>by have Uc:d≠D+1:=Zo;simp[*];exact HF.out d i c hd Ir⟩
end
section
open Go Go.Ab Go.Ab.Sy
variable {T:List Tok}
theorem JN{q g n:Nat}{w:Bool}{s:ByteArray}(D d:Nat)(hp1:Hp)(hr:Rq T q g n w hp1):HB P0 Un (Lm bX) D d 13 [.ptr ⟨0,q,0⟩ g 0,tv s] hp1 (fun v If=> ∃a:Int,v=iv a/\Rq T q g n w If/\Fr D q hp1 If) (fun _ _=>False):=by
 refine hB (k1:=D+1) (PR:=fun _ _=>False) Tryz.func13 rfl ?_;obtain⟨h1,Ij,aI⟩:=hr;by_cases hn:n<T.length
 ·have e1:(n:Int)<T.length:=Zo
  have e3:T[n]?=some T[n]:=Bs hn;generalize hq:T[n]=t at*;obtain⟨tk,tt,tn,ta⟩:=t
  repeat' first|refine ZN ?_|refine Z2 ?_ ?_|intro h h';try simp[*,-h] at h'
  all_goals exact⟨_,rfl,⟨Zm,Ij,aI⟩,fun d i c hd Ir=>by have Uc:d≠D+1:=Zo;simp[*]⟩
 ·have e1: ¬(n:Int)<T.length:=Zo
  repeat' first|refine ZN ?_|refine Z2 ?_ ?_|intro h h';try simp[*,-h] at h'
  all_goals exact⟨_,rfl,⟨Zm,Ij,aI⟩,fun d i c hd Ir=>by have Uc:d≠D+1:=Zo;simp[*]⟩
theorem Jr(hl:T.length<=1048576){x:Sy.Pr}(h:iY T=some x):x.size<=T.length:=by
 rw[show iY T=lR T 0 from Jq T] at h;have hr:Rd T 0 25 1 1 0 (fun y=>if y=⟨1,25,0⟩ then .box 1 [.own ⟨1,25,1⟩ 1 T.length,iv ((0:Nat):Int),iv 0] false else if y=⟨1,25,1⟩ then .arr 1 4 75 (T.map Tok.row) false else .no 0):=⟨Zi,Zi,hl,Zo⟩;rcases BL (T:=T) (e:=0) (q:=25) (n:=0) (gx:=1) (gy:=1) 2 Zo 0 _ hr with⟨v,hp',_,x',n2,_,hx,_,hs,tP,_⟩|⟨_,_,_,_,_,hn⟩
 ·rw[h] at hx
  cases hx
  have:=tP.le;omega
 ·rw[h] at hn;cases hn
theorem Boa (T:List Tok):(T.map mQ).map vE=T.map Tok.row:=by
 rw[List.map_map];exact GJ fun t _=>rfl
theorem ProgQe (s:ByteArray)(hs:s.size<4611686018427387904)(e:Int)(he:e=2\/e=3)(hT:gW s= .error e): ∃rs,(Lm bX).dat 7 [tv s]=some rs/\ ∃a:Int,rs=[.agg [.vec 1 [],.vec 2 [],.vec 5 []],iv a,iv e]:=by
 refine fR (R:=fun rs=> ∃a:Int,rs=[.agg [.vec 1 [],.vec 2 [],.vec 5 []],iv a,iv e]) Tryz.func7 rfl ?_;rcases he with rfl|rfl
 all_goals
 repeat' (first|refine ZN ?_|refine Z2 ?_ ?_|(intro h h';try simp[*,-h] at h')|((with_reducible apply Ap (f:=11));exact Zv;apply LexH s hs 0;(rintro _ uR ⟨⟨a,rfl⟩,hf9⟩;have hL9: ∀i c,uR ⟨0,i,c⟩=_:=(fun i c=>hf9 0 i c (D5 _));clear hf9;(try simp only[KU,hT,Boa] at*)))|fail)
 all_goals exact⟨_,rfl⟩
end
section
open Go Go.Ab Go.Ab.Sy
def LexIs (s:ByteArray)(T:List Tok):Prop:=gW s= .ok (T.map mQ)
theorem Gqa {T:List Tok}{vs:List Tx}{ar:List (Tx×Int)}{fs:List Fu}{w2:Bool}(hl:T.length<=1048576)(h:Is false (jE T [] [] 0) ⟨vs,ar,fs⟩ w2):
  (w2=false/\iY T=some ⟨vs,ar,fs⟩/\(Lm bX).dat 14 [.agg [.sl false 1 (Ib vs),.sl false 2 (Ih ar),.sl false 5 (fs.map Sy.Fu.row)]]=some [bv true]/\rP U5 ⟨vs,ar,fs⟩=true)
  \/(w2=false/\iY T=some ⟨vs,ar,fs⟩/\(Lm bX).dat 14 [.agg [.sl false 1 (Ib vs),.sl false 2 (Ih ar),.sl false 5 (fs.map Sy.Fu.row)]]=some [bv false]/\rP U5 ⟨vs,ar,fs⟩=false)
  \/(w2=true/\iY T=none):=by
 rw[Bpa];rcases h.2 rfl with⟨h1,h2⟩|⟨h1,h2⟩
 ·have hs:=Jr hl ((Bpa T).trans h2)
  simp only[Sy.Pr.size] at hs;have rq:=Qr (X:=bX) (fun _ _=>rfl) vs ar fs Zo Zo (fun f hf=>by have:=Do hf;omega);rw[BK U5 nbU_0] at rq
  cases hq:rP U5 ⟨vs,ar,fs⟩ with
  |true=>rw[hq] at rq;exact .inl ⟨h1,h2,rq,rfl⟩
  |false=>rw[hq] at rq;exact .inr (.inl ⟨h1,h2,rq,rfl⟩)
 ·exact .inr (.inr ⟨h1,h2⟩)
theorem ProgQ (s:ByteArray)(hs:s.size<4611686018427387904)(T:List Tok)(hT:gW s= .ok (T.map mQ)): ∃rs,(Lm bX).dat 7 [tv s]=some rs/\P4 s rs:=by
 have hX: ∀f a,bX.dat f a=none:=fun _ _=>rfl
 refine fR (R:=fun rs=>P4 s rs) Tryz.func7 rfl ?_;have Ij:=Wy hT;have CT:T.length<=1048576:=Zo;have HT:LexIs s T:=hT
 repeat' (first|refine ZN ?_|refine Z2 ?_ ?_|(intro h h';try simp[*,-h] at h')|((with_reducible apply Ap (f:=11));exact Zv;apply LexH s hs 0;(rintro _ uR ⟨⟨a,rfl⟩,hf9⟩;have hL9: ∀i c,uR ⟨0,i,c⟩=_:=(fun i c=>hf9 0 i c (D5 _));clear hf9;(try simp only[KU,hT,Boa] at*)))|((with_reducible apply Ap (f:=12));exact Zv;apply prog_q (T:=T) (n:=0) (w:=false) 0;constructor;exact Zc;assumption;omega;(rintro _ If ⟨⟨xv,xa,xf⟩,n2,w2,rfl,hPo,hPn,⟨Ul,_,Ub⟩,Ic⟩;have aB: ∀i c,(⟨0,i,c⟩:Nm)≠⟨0,23,0⟩->If ⟨0,i,c⟩=_:=(fun i c Ir=>Ic 0 i c (D5 _) Ir);clear Ic;simp only[Sy.Pr.row] at*;(rcases Gqa CT hPo with⟨rfl,uR,rq,hq9⟩|⟨rfl,uR,rq,hq9⟩|⟨rfl,uR⟩)<;>clear hPo))|((with_reducible apply Ap (f:=13));exact Zv;apply JN (T:=T) 0;exact ZE;(rintro _ zK ⟨pa,rfl,⟨hb3,_,_⟩,wJ⟩;have hL3: ∀i c,(⟨0,i,c⟩:Nm)≠⟨0,23,0⟩->zK ⟨0,i,c⟩=_:=(fun i c Ir=>wJ 0 i c (D5 _) Ir);clear wJ))|fail)
 all_goals first
  |exact⟨0,.inr ⟨⟨xv,xa,xf⟩,⟨T,HT,uR⟩,Ve (Jr CT uR) Ij,.inr ⟨hq9,rfl⟩⟩⟩
  |exact⟨0,.inr ⟨⟨xv,xa,xf⟩,⟨T,HT,uR⟩,Ve (Jr CT uR) Ij,.inl ⟨hq9,rfl⟩⟩⟩
  |exact⟨pa,.inl ⟨3,.inr ⟨rfl,T,HT,uR⟩,rfl⟩⟩
  |(exfalso;omega)
theorem NW (s:ByteArray)(hs:s.size<4611686018427387904): ∃rs,(Lm bX).dat 7 [tv s]=some rs/\P4 s rs:=by
 cases hx:gW s with
 |error e=>
  obtain⟨rs,h,a,hr⟩:=ProgQe s hs e (O0 hx) hx;exact⟨rs,h,a,.inl ⟨e,.inl hx,hr⟩⟩
 |ok l=>
  obtain⟨T,rfl⟩:=Rg hx;exact ProgQ s hs T hx
end
section
open Go Go.Ab Go.Ab.Sy
variable {a:List AV}{f:Nat}
def hpC :List Nat:=[34,45,42,44,37,80,82,95,87,129]
def EC :cD:={eq:=fun _=>false,hp:=fun f=>hpC.contains f,yl:=fun _=>false,ws:=70,cl:=true}
@[simp] theorem EC_off :EC.off=0:=rfl
@[simp] theorem EC_bx (t:Nat):EC.bx t=false:=rfl
@[simp] theorem EC_eq (t:Nat):EC.eq t=false:=rfl
@[simp] theorem EC_cl :EC.cl=true:=rfl
@[simp] theorem EC_ws :EC.ws=70:=rfl
@[simp] theorem EC_frz (f:Nat):EC.frz f=false:=rfl
@[simp] theorem EC_inl (f:Nat):EC.inl f=false:=rfl
def dK :ByteArray:=⟨#[102,117,110,99,32,109,97,105,110,40,41,32,123,32,112,117,116,40,54,53,41,59,32,125]⟩
def wA :ByteArray:=⟨#[65]⟩
def ImgA (img:ByteArray):Prop:= ∃n:Int,eN P0 94 [tv img,tv dK,iv 1000000] [.agg [iv 1,tv wA,iv n],iv 0]
def RdC (f:Nat)(a r:List AV):Prop:=
 (f=97/\ ∃s,a=[tv s]/\P4 s r)\/(f=98/\ ∃p:Sy.Pr,a=[.agg p.row]/\r=[iv (fE iZ p)])\/
 (f=99/\ ∃(c o:Int) (t:ByteArray) (n:Nat),n<=50/\r=[.agg [iv c,tv t,iv n]])\/
 (f=91/\a=[tv dK]/\ ∃(img:ByteArray) (n:Int),ImgA img/\r=[tv img,iv n,iv 0])\/(f=94/\ ∃n:Int,r=[.agg [iv 1,tv wA,iv n],iv 0])
noncomputable def XC :aS:=pA P0 RdC (fun _ _ _ _ _ _=>False)
theorem XC_ok :Av P0 XC:=Bia _ _ _
theorem Ah(h: ¬(f=97\/f=98\/f=99\/f=91\/f=94)):XC.dat f a=none:=Ji fun r hr=>by
 rcases hr with hr|hr|hr|hr|hr
 ·exact h (.inl hr.1)
 ·exact h (.inr (.inl hr.1))
 ·exact h (.inr (.inr (.inl hr.1)))
 ·exact h (.inr (.inr (.inr (.inl hr.1))))
 ·exact h (.inr (.inr (.inr (.inr hr.1))))
theorem D6 (k d f:Nat)(a:List AV)(hp:Hp):XC.hpc k d f a hp=none:=Jh fun _ _ h=>h
noncomputable abbrev LC :aS:=eP P0 EC XC
theorem Dh :dS P0 EC:=⟨fun t h=>by simp at h,fun _=>rfl⟩
theorem jV :Av P0 LC:=Fl An Dh XC_ok
theorem K8{r:List AV}(h:eN P0 f a r)(hr:RdC f a r): ∃r',LC.dat f a=some r'/\RdC f a r':=by
 obtain⟨r',h1,h2⟩:=Gaa (Rh:=fun _ _ _ _ _ _=>False) h hr;exact⟨r',Aw h1,h2⟩
@[simp] theorem hC_34 :EC.hp 34=true:=rfl
@[simp] theorem hC_45 :EC.hp 45=true:=rfl
@[simp] theorem hC_42 :EC.hp 42=true:=rfl
@[simp] theorem hC_44 :EC.hp 44=true:=rfl
@[simp] theorem hC_37 :EC.hp 37=true:=rfl
@[simp] theorem hC_80 :EC.hp 80=true:=rfl
@[simp] theorem hC_82 :EC.hp 82=true:=rfl
@[simp] theorem hC_95 :EC.hp 95=true:=rfl
@[simp] theorem hC_87 :EC.hp 87=true:=rfl
@[simp] theorem hC_129 :EC.hp 129=true:=rfl
@[simp] theorem hC_9 :EC.hp 9=false:=rfl
@[simp] theorem hC_17 :EC.hp 17=false:=rfl
@[simp] theorem hC_18 :EC.hp 18=false:=rfl
@[simp] theorem hC_54 :EC.hp 54=false:=rfl
@[simp] theorem hC_116 :EC.hp 116=false:=rfl
@[simp] theorem hC_55 :EC.hp 55=false:=rfl
@[simp] theorem hC_57 :EC.hp 57=false:=rfl
@[simp] theorem hC_56 :EC.hp 56=false:=rfl
@[simp] theorem hC_117 :EC.hp 117=false:=rfl
@[simp] theorem hC_96 :EC.hp 96=false:=rfl
@[simp] theorem hC_100 :EC.hp 100=false:=rfl
@[simp] theorem hC_163 :EC.hp 163=false:=rfl
@[simp] theorem hC_238 :EC.hp 238=false:=rfl
@[simp] theorem hC_321 :EC.hp 321=false:=rfl
@[simp] theorem hC_119 :EC.hp 119=false:=rfl
@[simp] theorem hC_128 :EC.hp 128=false:=rfl
@[simp] theorem hC_97 :EC.hp 97=false:=rfl
@[simp] theorem hC_98 :EC.hp 98=false:=rfl
@[simp] theorem hC_99 :EC.hp 99=false:=rfl
@[simp] theorem hC_91 :EC.hp 91=false:=rfl
@[simp] theorem hC_94 :EC.hp 94=false:=rfl
@[simp] theorem hC_6 :EC.hp 6=false:=rfl
theorem Fy :LC.dat 116 [tv ⟨#[115]⟩]=some [bv true]:=Al (n:=60) Tryz.func116 (Ah Zd) Zf
theorem Ku :LC.dat 116 [tv ⟨#[111]⟩]=some [bv true]:=Al (n:=60) Tryz.func116 (Ah Zd) Zf
theorem W4 :LC.dat 116 [tv ⟨#[99]⟩]=some [bv true]:=Al (n:=60) Tryz.func116 (Ah Zd) Zf
theorem Gta :LC.dat 117 [tv ⟨#[53,48]⟩]=some [uv 50,iv 0]:=Al (n:=60) Tryz.func117 (Ah Zd) Zf
theorem JP :LC.dat 117 [tv ⟨#[49,48,48,48,48,48,48]⟩]=some [uv 1000000,iv 0]:=Al (n:=60) Tryz.func117 (Ah Zd) Zf
theorem JO (s:ByteArray)(hs:s.size<9223372036854775807): ∃rs,LC.dat 117 [tv s]=some rs/\ ∃v e:Int,rs=[uv v,iv e]:=by
 refine fR (R:=fun rs=> ∃v e:Int,rs=[uv v,iv e]) Tryz.func117 (Ah Zd) ?_;by_cases h1:1<s.size
 ·have e0:(1:Int)<s.size:=Zo
  have hz:0<s.data.size:=(by have:s.data.size=s.size:=rfl;omega);obtain⟨b0,hb0⟩: ∃b0:UInt8,s.data[0]?=some b0:=⟨_,FK hz⟩
  repeat' first|refine ZN ?_|refine Z2 ?_ ?_|intro h h';try simp[*,-h] at h'
  all_goals try exact⟨_,_,rfl⟩
  refine Ac (n:=s.size) (fun s0 m z=> ∃i:Nat,s.size - i<=m/\i<=s.size/\z.fr 0=tv s/\z.fr 4=iv i) ⟨0,Zo,Zo,Zi,Zi⟩ ?_;rintro m ⟨fr,hp⟩ ⟨i,hm,hi,f0,f4⟩;simp at f0 f4;by_cases Ii:i<s.size
  ·have e1:(i:Int)<s.size:=Zo
   have w1:=Iw (k:=i) Zo
   repeat' first|refine ZN ?_|refine Z2 ?_ ?_|intro h h';try simp[*,-h] at h'
   all_goals first
    |exact⟨_,_,rfl⟩
    |exact⟨s.size - (i+1),Zo,i+1,Zo,Zo,Zm,Zm⟩
  have e1: ¬(i:Int)<s.size:=Zo
  repeat' first|refine ZN ?_|refine Z2 ?_ ?_|intro h h';try simp[*,-h] at h'
  all_goals try exact⟨_,_,rfl⟩
  refine Ac (n:=s.size) (fun s0 m z=> ∃(i:Nat) (a:Int),s.size - i<=m/\i<=s.size/\z.fr 0=tv s/\z.fr 5= .sc (.int .u64 a)/\z.fr 6=iv i) ⟨0,0,Zo,Zo,Zm,Zi,Zi⟩ ?_;rintro m2 ⟨fr2,If⟩ ⟨i2,a2,sS,hi2,f02,f52,f62⟩;simp at f02 f52 f62;by_cases hlt2:i2<s.size
  ·have e2:(i2:Int)<s.size:=Zo
   have w2:=Iw (k:=i2) Zo
   repeat' first|refine ZN ?_|refine Z2 ?_ ?_|intro h h';try simp[*,-h] at h'
   all_goals exact⟨s.size - (i2+1),Zo,i2+1,_,Zo,Zo,Zm,by simp[*];rfl,Zm⟩
  have e2: ¬(i2:Int)<s.size:=Zo
  repeat' first|refine ZN ?_|refine Z2 ?_ ?_|intro h h';try simp[*,-h] at h'
  all_goals exact⟨_,_,rfl⟩
 ·have e0: ¬(1:Int)<s.size:=Zo
  repeat' first|refine ZN ?_|refine Z2 ?_ ?_|intro h h';try simp[*,-h] at h'
  all_goals try exact⟨_,_,rfl⟩
  refine Ac (n:=s.size) (fun s0 m z=> ∃i:Nat,s.size - i<=m/\i<=s.size/\z.fr 0=tv s/\z.fr 4=iv i) ⟨0,Zo,Zo,Zi,Zi⟩ ?_;rintro m ⟨fr,hp⟩ ⟨i,hm,hi,f0,f4⟩;simp at f0 f4;by_cases Ii:i<s.size
  ·have e1:(i:Int)<s.size:=Zo
   have w1:=Iw (k:=i) Zo
   repeat' first|refine ZN ?_|refine Z2 ?_ ?_|intro h h';try simp[*,-h] at h'
   all_goals first
    |exact⟨_,_,rfl⟩
    |exact⟨s.size - (i+1),Zo,i+1,Zo,Zo,Zm,Zm⟩
  have e1: ¬(i:Int)<s.size:=Zo
  repeat' first|refine ZN ?_|refine Z2 ?_ ?_|intro h h';try simp[*,-h] at h'
  all_goals try exact⟨_,_,rfl⟩
  refine Ac (n:=s.size) (fun s0 m z=> ∃(i:Nat) (a:Int),s.size - i<=m/\i<=s.size/\z.fr 0=tv s/\z.fr 5= .sc (.int .u64 a)/\z.fr 6=iv i) ⟨0,0,Zo,Zo,Zm,Zi,Zi⟩ ?_;rintro m2 ⟨fr2,If⟩ ⟨i2,a2,sS,hi2,f02,f52,f62⟩;simp at f02 f52 f62;by_cases hlt2:i2<s.size
  ·have e2:(i2:Int)<s.size:=Zo
   have w2:=Iw (k:=i2) Zo
   repeat' first|refine ZN ?_|refine Z2 ?_ ?_|intro h h';try simp[*,-h] at h'
   all_goals exact⟨s.size - (i2+1),Zo,i2+1,_,Zo,Zo,Zm,by simp[*];rfl,Zm⟩
  have e2: ¬(i2:Int)<s.size:=Zo
  repeat' first|refine ZN ?_|refine Z2 ?_ ?_|intro h h';try simp[*,-h] at h'
  all_goals exact⟨_,_,rfl⟩
end
end Go.Proofs.YtggghdmdjpianaaGreatDoor
