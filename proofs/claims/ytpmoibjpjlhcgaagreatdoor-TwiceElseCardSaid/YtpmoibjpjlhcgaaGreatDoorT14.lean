/- A part of the proof: So, Sp, Sq, Sr, Su, Sv, Sw, Sx, La, Lb, Lc. -/
import Derived.Test.YtpmoibjpjlhcgaaGreatDoorT13
set_option linter.unusedSimpArgs false
set_option linter.unusedVariables false
set_option maxRecDepth 200000
set_option maxHeartbeats 8000000
namespace Go.Proofs.YtpmoibjpjlhcgaaGreatDoor
section
open Go Go.Ab Go.Ab.Sy
theorem G7a {m:List (Tx×Fu)}{g gm:Nat}{ag:Bool}{ks:List Value}{rs:List (List AV)}(hm:TM m ag ks rs)(ek eo en:Int)(ex:Tx)(l:List Sy.Ex)(ih: ∀k,TC g gm ag ks rs k 252 [.ptr ⟨0,10012,0⟩ g 0,.sl false 5 (exRows l),iv 1] (bv (tyAll m l 1)))(k:Nat):TC g gm ag ks rs k 249 [.ptr ⟨0,10012,0⟩ g 0,.agg [iz ek,iz eo,uz en,tz ex.val,.sl false 5 (exRows l)]] (iv (if Dr m ex=true/\tyAll m l 1=true then 1 else 0)):=by
 refine TC.of fun d hp1 b1 m1=>?_
 refine Af (k1:=k+1) (PR:=fun _ _=>False) rfl Tryz.func249 (Aj Zd) rfl Ys rfl rvs_249 ?_
 have tcA:=ih (k+1)
 obtain⟨G1,a1,c1⟩:=tcA.rules
 clear ih tcA
 unfold Dr
 generalize tyAll m l 1=ta at*
 cases hl:Sy.look m ex with
 |some t=>
  obtain⟨j,k1,k2,rfl⟩:=hm.some hl
  obtain⟨r1,r2,r3,r4,r5⟩:=t
  simp only[A3] at k2
  simp only
  repeat' (first|refine ZN ?_|refine Z2 ?_ ?_|(intro h h';try simp[*,-h] at h'))
  all_goals refine⟨?_,fun d' i c hd=>by have hd2:d'≠k+1:=Zo;have hd3:d'<=k+1:=Zo;simp[*]⟩
  all_goals (first|(simp[*];done)|(simp_all;done))
 |none=>
  have k1:=hm.none hl
  simp only
  repeat' (first|refine ZN ?_|refine Z2 ?_ ?_|(intro h h';try simp[*,-h] at h'))
  all_goals refine⟨?_,fun d' i c hd=>by have hd2:d'≠k+1:=Zo;have hd3:d'<=k+1:=Zo;simp[*]⟩
  all_goals (first|(simp[*];done)|(simp_all;done))
theorem Wt (ek eo en:Int)(ex:Tx)(l:List Sy.Ex):(Lm X47).dat 246 [.agg [iz ek,iz eo,uz en,tz ex.val,.sl false 5 (exRows l)]]=some [iv 1]:=by
 refine fnW (P:=P0) (E:=E47) (X:=X47) Tryz.func246 (An _ _) rfl Yv rfl H2a rvs_246 ?_
 exact ZS
theorem tyE_mk (m:List (Tx×Fu))(k o n:Int)(s:Tx)(l:List Sy.Ex):tyE m (.mk k o n s l)=if k=1\/k=2\/k=5 then 1 else if k=3 then(if tyAll m l 1 then 1 else 0) else if k=4 then(if Dr m s=true/\tyAll m l 1=true then 1 else 0)
   else if k=6 then(if tyAll m l 1 then(if o=14\/o=15 then 2 else 1) else 0) else if k=7\/k=8\/k=9 then(if tyAll m l 2 then 2 else 0) else 0:=by rw[tyE]
theorem G6a {m:List (Tx×Fu)}{g gm:Nat}{ag:Bool}{ks:List Value}{rs:List (List AV)}(hm:TM m ag ks rs)(N:Nat)(ihL: ∀l:List Sy.Ex,exSize l<=N-> ∀(t:Int) (k:Nat),TC g gm ag ks rs k 252 [.ptr ⟨0,10012,0⟩ g 0,.sl false 5 (exRows l),iv t] (bv (tyAll m l t)))(e:Sy.Ex)(he:e.size<=N+1)(k:Nat):TC g gm ag ks rs k 293 [.ptr ⟨0,10012,0⟩ g 0,.agg e.row] (iv (tyE m e)):=by
 refine TC.of fun d hp1 b1 m1=>?_
 refine Af (k1:=k+1) (PR:=fun _ _=>False) rfl Tryz.func293 (Aj Zd) rfl Yg rfl rvs_293 ?_
 obtain⟨ek,eo,en,ex,l⟩:=e
 simp only[A2] at he
 rw[Az,tyE_mk]
 have t1:=ihL l Zo 1
 have t2:=ihL l Zo 2
 clear ihL
 obtain(rfl|rfl|rfl|rfl|rfl|rfl|rfl|rfl|rfl|hk):ek=1\/ek=2\/ek=3\/ek=4\/ek=5\/ek=6\/ek=7\/ek=8\/ek=9\/(ek<1\/9<ek):=Zo
 ·have hw:=Wt 1 eo en ex l
  clear t1 t2
  repeat' (first|refine ZN ?_|refine Z2 ?_ ?_|(intro h h';try simp[*,-h] at h'))
  exact⟨Zi,fun d' i c hd=>by have hd2:d'≠k+1:=Zo;have hd3:d'<=k+1:=Zo;simp[*]⟩
 ·have hw:=Wt 2 eo en ex l
  clear t1 t2
  repeat' (first|refine ZN ?_|refine Z2 ?_ ?_|(intro h h';try simp[*,-h] at h'))
  exact⟨Zi,fun d' i c hd=>by have hd2:d'≠k+1:=Zo;have hd3:d'<=k+1:=Zo;simp[*]⟩
 ·have tcA:=Dha 3 eo en ex l t1 (k+1)
  obtain⟨G1,a1,c1⟩:=tcA.rules
  clear t1 t2 tcA
  repeat' (first|refine ZN ?_|refine Z2 ?_ ?_|(intro h h';try simp[*,-h] at h'))
  exact⟨Zi,fun d' i c hd=>by have hd2:d'≠k+1:=Zo;have hd3:d'<=k+1:=Zo;simp[*]⟩
 ·have tcA:=G7a hm 4 eo en ex l t1 (k+1)
  obtain⟨G1,a1,c1⟩:=tcA.rules
  clear t1 t2 tcA
  repeat' (first|refine ZN ?_|refine Z2 ?_ ?_|(intro h h';try simp[*,-h] at h'))
  exact⟨Zi,fun d' i c hd=>by have hd2:d'≠k+1:=Zo;have hd3:d'<=k+1:=Zo;simp[*]⟩
 ·have hw:=Wt 5 eo en ex l
  clear t1 t2
  repeat' (first|refine ZN ?_|refine Z2 ?_ ?_|(intro h h';try simp[*,-h] at h'))
  exact⟨Zi,fun d' i c hd=>by have hd2:d'≠k+1:=Zo;have hd3:d'<=k+1:=Zo;simp[*]⟩
 ·have tcA:=tyOp_w 6 eo en ex l t1 (k+1)
  obtain⟨G1,a1,c1⟩:=tcA.rules
  clear t1 t2 tcA
  repeat' (first|refine ZN ?_|refine Z2 ?_ ?_|(intro h h';try simp[*,-h] at h'))
  exact⟨Zi,fun d' i c hd=>by have hd2:d'≠k+1:=Zo;have hd3:d'<=k+1:=Zo;simp[*]⟩
 ·have tcA:=Nn 7 eo en ex l t2 (k+1)
  obtain⟨G1,a1,c1⟩:=tcA.rules
  clear t1 t2 tcA
  repeat' (first|refine ZN ?_|refine Z2 ?_ ?_|(intro h h';try simp[*,-h] at h'))
  exact⟨Zi,fun d' i c hd=>by have hd2:d'≠k+1:=Zo;have hd3:d'<=k+1:=Zo;simp[*]⟩
 ·have tcA:=Nn 8 eo en ex l t2 (k+1)
  obtain⟨G1,a1,c1⟩:=tcA.rules
  clear t1 t2 tcA
  repeat' (first|refine ZN ?_|refine Z2 ?_ ?_|(intro h h';try simp[*,-h] at h'))
  exact⟨Zi,fun d' i c hd=>by have hd2:d'≠k+1:=Zo;have hd3:d'<=k+1:=Zo;simp[*]⟩
 ·have tcA:=Nn 9 eo en ex l t2 (k+1)
  obtain⟨G1,a1,c1⟩:=tcA.rules
  clear t1 t2 tcA
  repeat' (first|refine ZN ?_|refine Z2 ?_ ?_|(intro h h';try simp[*,-h] at h'))
  exact⟨Zi,fun d' i c hd=>by have hd2:d'≠k+1:=Zo;have hd3:d'<=k+1:=Zo;simp[*]⟩
 ·clear t1 t2
  have z:ek≠1/\ek≠2/\ek≠3/\ek≠4/\ek≠5/\ek≠6/\ek≠7/\ek≠8/\ek≠9:=Zo
  obtain⟨z1,z2,z3,z4,z5,z6,z7,z8,z9⟩:=z
  rcases hk with hk|hk
  ·repeat' (first|refine ZN ?_|refine Z2 ?_ ?_|(intro h h';try simp[*,-h] at h'))
   exact⟨Zm,fun d' i c hd=>by have hd2:d'≠k+1:=Zo;have hd3:d'<=k+1:=Zo;simp[*]⟩
  ·have hk1: ¬ek<1:=Zo
   repeat' (first|refine ZN ?_|refine Z2 ?_ ?_|(intro h h';try simp[*,-h] at h'))
   exact⟨Zm,fun d' i c hd=>by have hd2:d'≠k+1:=Zo;have hd3:d'<=k+1:=Zo;simp[*]⟩
theorem Bza {m:List (Tx×Fu)}{g gm:Nat}{ag:Bool}{ks:List Value}{rs:List (List AV)}(hm:TM m ag ks rs): ∀N,N<=1048576-> ∀l:List Sy.Ex,exSize l<=N-> ∀(t:Int) (k:Nat),TC g gm ag ks rs k 252 [.ptr ⟨0,10012,0⟩ g 0,.sl false 5 (exRows l),iv t] (bv (tyAll m l t))
 |0,h,l,hl,t,k=>Bya 0 h (fun e he=>by have:=e.size_pos;omega) l hl t k
 |N+1,h,l,hl,t,k=>Bya (N+1) h (fun e he k=>G6a hm N (fun l hl t k=>Bza hm N Zo l hl t k) e he k) l hl t k
theorem Fk {m:List (Tx×Fu)}{g gm:Nat}{ag:Bool}{ks:List Value}{rs:List (List AV)}(hm:TM m ag ks rs)(l:List Sy.Ex)(hl:exSize l<=1048576)(t:Int)(k:Nat):TC g gm ag ks rs k 252 [.ptr ⟨0,10012,0⟩ g 0,.sl false 5 (exRows l),iv t] (bv (tyAll m l t)):=Bza hm 1048576 (Nat.le_refl _) l hl t k
theorem knE_mk (m:List (Tx×Fu))(k o n:Int)(s:Tx)(l:List Sy.Ex):knE m (.mk k o n s l)=((decide (k≠4)||(Sy.look m s).isSome)&&knEs m l):=by rw[knE]
theorem knS_mk (m:List (Tx×Fu))(k:Int)(s:Tx)(e:List Sy.Ex)(t f:List Sy.St):knS m (.mk k s e t f)=((decide (k≠6)||(Sy.look m s).isSome)&&knEs m e&&knSs m t&&knSs m f):=by rw[knS]
theorem tyS_mk (m:List (Tx×Fu))(w:Bool)(k:Int)(s:Tx)(e:List Sy.Ex)(t f:List Sy.St):tyS m w (.mk k s e t f)=((decide (k≠6)|| !Dr m s)&&(decide (k≠7)||(e.length==0||w))&&tyAll m e (if k=4\/k=5 then 2 else 1)&&tySs m w t&&tySs m w f):=by rw[tyS]
theorem M9 (m:List (Tx×Fu)):knEs m []=true:=by rw[knEs]
theorem Na (m:List (Tx×Fu))(e:Sy.Ex)(l:List Sy.Ex):knEs m (e::l)=(knE m e&&knEs m l):=by rw[knEs]
theorem knSs_nl (m:List (Tx×Fu)):knSs m []=true:=by rw[knSs]
theorem knSs_cn (m:List (Tx×Fu))(e:Sy.St)(l:List Sy.St):knSs m (e::l)=(knS m e&&knSs m l):=by rw[knSs]
theorem tySs_nl (m:List (Tx×Fu))(w:Bool):tySs m w []=true:=by rw[tySs]
theorem tySs_cn (m:List (Tx×Fu))(w:Bool)(e:Sy.St)(l:List Sy.St):tySs m w (e::l)=(tyS m w e&&tySs m w l):=by rw[tySs]
theorem known_s {m:List (Tx×Fu)}{g gm:Nat}{ag:Bool}{ks:List Value}{rs:List (List AV)}(hm:TM m ag ks rs)(N:Nat)(hN:N<=1048576)(ih: ∀e:Sy.Ex,e.size<=N-> ∀k,TC g gm ag ks rs k 251 [.ptr ⟨0,10012,0⟩ g 0,.agg e.row] (bv (knE m e)))(e:Sy.Ex)(he:e.size<=N+1)(k:Nat):TC g gm ag ks rs k 251 [.ptr ⟨0,10012,0⟩ g 0,.agg e.row] (bv (knE m e)):=by
 refine TC.of fun d hp1 b1 m1=>?_
 refine Af (k1:=k+1) (PR:=fun _ _=>False) rfl Tryz.func251 (Aj Zd) rfl Yq rfl rvs_251 ?_
 obtain⟨ek,eo,en,ex,l⟩:=e
 simp only[A2] at he
 have hlen:l.length<=1048576:=by have:=Bv l;omega
 rw[Az,knE_mk]
 by_cases h4:ek=4
 ·subst h4
  cases hl:Sy.look m ex with
  |some t=>
   obtain⟨j,k1,k2,hag⟩:=hm.some hl
   obtain⟨r1,r2,r3,r4,r5⟩:=t
   simp only[A3] at k2
   repeat' (first|((with_reducible apply A6);(refine Dx [(0,10),(1,10),(2,10),(3,10),(4,10),(5,10),(6,10),(7,10),(8,10),(9,10),(9,11)] ?_);(iterate 11 refine Zs ?_);(exact Zz))|(refine Z1 ?_)|(refine Z2 ?_ ?_)|(intro h h';try simp[*,-h] at h'))
   refine Ag (n:=l.length) (fun s0 m' z=> ∃j:Nat,l.length - j<=m'/\j<=l.length/\z.fr 0= .ptr ⟨0,10012,0⟩ g 0/\z.fr 25= .sl false 5 (exRows l)/\z.fr 26=iv l.length/\z.fr 27=iv j/\z.hp ⟨0,10012,0⟩= .box g [.mp ⟨0,10010,0⟩ gm,.sc .nilFunc,.fn 246 [],.fn 246 [],.fn 1000248 [.ptr ⟨0,10012,0⟩ g 0],.fn 1000249 [.ptr ⟨0,10012,0⟩ g 0],.fn 246 [],.fn 1000250 [.ptr ⟨0,10012,0⟩ g 0],.fn 1000247 [.ptr ⟨0,10012,0⟩ g 0],.fn 1000247 [.ptr ⟨0,10012,0⟩ g 0],.fn 1000247 [.ptr ⟨0,10012,0⟩ g 0]] false/\z.hp ⟨0,10010,0⟩= .map gm ag ks rs false/\(∀d' i c,d'<=k->z.hp ⟨d',i,c⟩=hp1 ⟨d',i,c⟩)/\knEs m l=knEs m (l.drop j)) ⟨0,Zo,Zo,Zm,Zm,Zm,Zm,Zm,Zm,fun d' i c hd=>by have hd2:d'≠k+1:=Zo;have hd3:d'<=k+1:=Zo;simp[*],Zi⟩ ?_
   rintro m' ⟨fr,hp⟩ ⟨j,hm',hj,f0,fl,fn,fi,b2,m2,HK,hd⟩
   simp only at f0 fl fn fi b2 m2 HK
   clear b1 m1
   by_cases hlt:j<l.length
   ·have e1:(j:Int)<l.length:=Zo
    have hg:l[j]?=some l[j]:=List.getElem?_eq_getElem hlt
    have hwi:IntKind.i64.wrap ((j:Int)+1)=(j:Int)+1:=wrapN Zo
    rw[List.drop_eq_getElem_cons hlt,Na] at hd
    generalize l[j]=e at*
    have hgt:=Hc hg
    have hst:=B6 hg
    have tcE:=ih e Zo (k+1)
    generalize knE m e=te at*
    obtain⟨xk,xo,xn,xx,xkids⟩:=e
    simp only[Az] at hgt tcE
    obtain⟨G1,a1,c1⟩:=tcE.rules
    have HD:=Lib.hid hd
    have HK:=Lib.hid HK
    clear hg hlt hd tcE
    repeat' (first|refine ZN ?_|refine Z2 ?_ ?_|(intro h h';try simp[*,-h] at h'))
    all_goals have hd:=HD.out
    all_goals have HK:=HK.out
    ·exact⟨by rw[hd];simp[*],fun d' i c hd=>by have hd2:d'≠k+1:=Zo;have hd3:d'<=k+1:=Zo;simp[*]⟩
    ·exact⟨l.length - (j+1),Zo,j+1,Zo,Zo,Zm,Zm,Zm,Zm,Zm,Zm,fun d' i c hd=>by have hd2:d'≠k+1:=Zo;have hd3:d'<=k+1:=Zo;simp[*],by rw[hd];simp[*]⟩
   ·have e1: ¬(j:Int)<l.length:=Zo
    have hd2:knEs m l=true:=by rw[hd,List.drop_eq_nil_of_le Zo,M9]
    clear hd
    repeat' (first|refine ZN ?_|refine Z2 ?_ ?_|(intro h h';try simp[*,-h] at h'))
    exact⟨by rw[hd2];simp[*],HK⟩
  |none=>
   have k1:=hm.none hl
   repeat' (first|((with_reducible apply A6);(refine Dx [(0,10),(1,10),(2,10),(3,10),(4,10),(5,10),(6,10),(7,10),(8,10),(9,10),(9,11)] ?_);(iterate 11 refine Zs ?_);(exact Zz))|(refine Z1 ?_)|(refine Z2 ?_ ?_)|(intro h h';try simp[*,-h] at h'))
   exact⟨Zi,fun d' i c hd=>by have hd2:d'≠k+1:=Zo;have hd3:d'<=k+1:=Zo;simp[*]⟩
 ·repeat' (first|refine ZN ?_|refine Z2 ?_ ?_|(intro h h';try simp[*,-h] at h'))
  refine Ag (n:=l.length) (fun s0 m' z=> ∃j:Nat,l.length - j<=m'/\j<=l.length/\z.fr 0= .ptr ⟨0,10012,0⟩ g 0/\z.fr 25= .sl false 5 (exRows l)/\z.fr 26=iv l.length/\z.fr 27=iv j/\z.hp ⟨0,10012,0⟩= .box g [.mp ⟨0,10010,0⟩ gm,.sc .nilFunc,.fn 246 [],.fn 246 [],.fn 1000248 [.ptr ⟨0,10012,0⟩ g 0],.fn 1000249 [.ptr ⟨0,10012,0⟩ g 0],.fn 246 [],.fn 1000250 [.ptr ⟨0,10012,0⟩ g 0],.fn 1000247 [.ptr ⟨0,10012,0⟩ g 0],.fn 1000247 [.ptr ⟨0,10012,0⟩ g 0],.fn 1000247 [.ptr ⟨0,10012,0⟩ g 0]] false/\z.hp ⟨0,10010,0⟩= .map gm ag ks rs false/\(∀d' i c,d'<=k->z.hp ⟨d',i,c⟩=hp1 ⟨d',i,c⟩)/\knEs m l=knEs m (l.drop j)) ⟨0,Zo,Zo,Zm,Zm,Zm,Zm,Zm,Zm,fun d' i c hd=>by have hd2:d'≠k+1:=Zo;have hd3:d'<=k+1:=Zo;simp[*],Zi⟩ ?_
  rintro m' ⟨fr,hp⟩ ⟨j,hm',hj,f0,fl,fn,fi,b2,m2,HK,hd⟩
  simp only at f0 fl fn fi b2 m2 HK
  clear b1 m1
  by_cases hlt:j<l.length
  ·have e1:(j:Int)<l.length:=Zo
   have hg:l[j]?=some l[j]:=List.getElem?_eq_getElem hlt
   have hwi:IntKind.i64.wrap ((j:Int)+1)=(j:Int)+1:=wrapN Zo
   rw[List.drop_eq_getElem_cons hlt,Na] at hd
   generalize l[j]=e at*
   have hgt:=Hc hg
   have hst:=B6 hg
   have tcE:=ih e Zo (k+1)
   generalize knE m e=te at*
   obtain⟨xk,xo,xn,xx,xkids⟩:=e
   simp only[Az] at hgt tcE
   obtain⟨G1,a1,c1⟩:=tcE.rules
   have HD:=Lib.hid hd
   have HK:=Lib.hid HK
   clear hg hlt hd tcE
   repeat' (first|refine ZN ?_|refine Z2 ?_ ?_|(intro h h';try simp[*,-h] at h'))
   all_goals have hd:=HD.out
   all_goals have HK:=HK.out
   ·exact⟨by rw[hd];simp[*],fun d' i c hd=>by have hd2:d'≠k+1:=Zo;have hd3:d'<=k+1:=Zo;simp[*]⟩
   ·exact⟨l.length - (j+1),Zo,j+1,Zo,Zo,Zm,Zm,Zm,Zm,Zm,Zm,fun d' i c hd=>by have hd2:d'≠k+1:=Zo;have hd3:d'<=k+1:=Zo;simp[*],by rw[hd];simp[*]⟩
  ·have e1: ¬(j:Int)<l.length:=Zo
   have hd2:knEs m l=true:=by rw[hd,List.drop_eq_nil_of_le Zo,M9]
   clear hd
   repeat' (first|refine ZN ?_|refine Z2 ?_ ?_|(intro h h';try simp[*,-h] at h'))
   exact⟨by rw[hd2];simp[*],HK⟩
theorem Coa {m:List (Tx×Fu)}{g gm:Nat}{ag:Bool}{ks:List Value}{rs:List (List AV)}(hm:TM m ag ks rs): ∀N,N<=1048576-> ∀e:Sy.Ex,e.size<=N-> ∀k:Nat,TC g gm ag ks rs k 251 [.ptr ⟨0,10012,0⟩ g 0,.agg e.row] (bv (knE m e))
 |0,h,e,he,k=>by have:=e.size_pos;omega
 |N+1,h,e,he,k=>known_s hm N Zo (fun e he k=>Coa hm N Zo e he k) e he k
theorem Cna {m:List (Tx×Fu)}{g gm:Nat}{ag:Bool}{ks:List Value}{rs:List (List AV)}(hm:TM m ag ks rs)(e:Sy.Ex)(he:e.size<=1048576)(k:Nat):TC g gm ag ks rs k 251 [.ptr ⟨0,10012,0⟩ g 0,.agg e.row] (bv (knE m e)):=Coa hm 1048576 (Nat.le_refl _) e he k
theorem Pj {m:List (Tx×Fu)}{g gm:Nat}{ag:Bool}{ks:List Value}{rs:List (List AV)}(hm:TM m ag ks rs)(N:Nat)(hN:N<=1048576)(ih: ∀l:List Sy.St,stSize l<N-> ∀k,TC g gm ag ks rs k 172 [.ptr ⟨0,10012,0⟩ g 0,.sl false 5 (stRows l)] (bv (knSs m l)))(l:List Sy.St)(hl:stSize l<=N)(k:Nat):TC g gm ag ks rs k 172 [.ptr ⟨0,10012,0⟩ g 0,.sl false 5 (stRows l)] (bv (knSs m l)):=by
 refine TC.of fun d hp1 b1 m1=>?_
 refine Af (k1:=k+1) (PR:=fun _ _=>False) rfl Tryz.func172 (Aj Zd) rfl Ama rfl rvs_172 ?_
 have hlen:l.length<=1048576:=by have:=Cl l;omega
 repeat' (first|refine ZN ?_|refine Z2 ?_ ?_|(intro h h';try simp[*,-h] at h'))
 refine Ag (n:=l.length) (fun s0 m' z=> ∃j:Nat,l.length - j<=m'/\j<=l.length/\z.fr 0= .ptr ⟨0,10012,0⟩ g 0/\z.fr 11= .sl false 5 (stRows l)/\z.fr 12=iv l.length/\z.fr 13=iv j/\z.hp ⟨0,10012,0⟩= .box g [.mp ⟨0,10010,0⟩ gm,.sc .nilFunc,.fn 246 [],.fn 246 [],.fn 1000248 [.ptr ⟨0,10012,0⟩ g 0],.fn 1000249 [.ptr ⟨0,10012,0⟩ g 0],.fn 246 [],.fn 1000250 [.ptr ⟨0,10012,0⟩ g 0],.fn 1000247 [.ptr ⟨0,10012,0⟩ g 0],.fn 1000247 [.ptr ⟨0,10012,0⟩ g 0],.fn 1000247 [.ptr ⟨0,10012,0⟩ g 0]] false/\z.hp ⟨0,10010,0⟩= .map gm ag ks rs false/\(∀d' i c,d'<=k->z.hp ⟨d',i,c⟩=hp1 ⟨d',i,c⟩)/\knSs m l=knSs m (l.drop j)) ⟨0,Zo,Zo,Zm,Zm,Zm,Zm,Zm,Zm,fun d' i c hd=>by have hd2:d'≠k+1:=Zo;have hd3:d'<=k+1:=Zo;simp[*],Zi⟩ ?_
 rintro m' ⟨fr,hp⟩ ⟨j,hm',hj,f0,fl,fn,fi,b2,m2,HK,hd⟩
 simp only at f0 fl fn fi b2 m2 HK
 clear b1 m1
 by_cases hlt:j<l.length
 ·have e1:(j:Int)<l.length:=Zo
  have hg:l[j]?=some l[j]:=List.getElem?_eq_getElem hlt
  have hwi:IntKind.i64.wrap ((j:Int)+1)=(j:Int)+1:=wrapN Zo
  rw[List.drop_eq_getElem_cons hlt,knSs_cn] at hd
  generalize l[j]=e at*
  have hgt:=Nv hg
  have hst:=Eb hg
  obtain⟨ek,ex,ee,eth,eel⟩:=e
  simp only[Db] at hgt
  simp only[Cp] at hst
  rw[knS_mk] at hd
  have hel:ee.length<=1048576:=by have:=Bv ee;omega
  by_cases h6:ek=6
  ·subst h6
   cases hlk:Sy.look m ex with
   |some t=>
    obtain⟨jj,k1,k2,hag⟩:=hm.some hlk
    obtain⟨r1,r2,r3,r4,r5⟩:=t
    simp only[A3] at k2
    rw[hlk] at hd
    have HD:=Lib.hid hd
    have HK:=Lib.hid HK
    clear hg hlt hd
    repeat' (first|((with_reducible apply A6);(refine Dx [(0,10),(1,10),(2,10),(3,10),(4,10),(5,10),(6,10),(7,10),(8,10),(9,10),(9,11)] ?_);(iterate 11 refine Zs ?_);(exact Zz))|(refine Z1 ?_)|(refine Z2 ?_ ?_)|(intro h h';try simp[*,-h] at h'))
    generalize hg6:(hp ⟨k+1,6,0⟩).gen+1=g6 at*
    clear hg6
    refine Ag (n:=ee.length) (fun s0 m'' z=> ∃i:Nat,ee.length - i<=m''/\i<=ee.length/\z.fr 0= .ptr ⟨0,10012,0⟩ g 0/\z.fr 6= .ptr ⟨k+1,6,0⟩ g6 0/\z.fr 11= .sl false 5 (stRows l)/\z.fr 12=iv l.length/\z.fr 13=iv j/\z.fr 33= .sl false 5 (exRows ee)/\z.fr 34=iv ee.length/\z.fr 35=iv i/\z.hp ⟨k+1,6,0⟩= .box g6 [iz 6,tz ex.val,.sl false 5 (exRows ee),.sl false 5 (stRows eth),.sl false 5 (stRows eel)] false/\z.hp ⟨0,10012,0⟩= .box g [.mp ⟨0,10010,0⟩ gm,.sc .nilFunc,.fn 246 [],.fn 246 [],.fn 1000248 [.ptr ⟨0,10012,0⟩ g 0],.fn 1000249 [.ptr ⟨0,10012,0⟩ g 0],.fn 246 [],.fn 1000250 [.ptr ⟨0,10012,0⟩ g 0],.fn 1000247 [.ptr ⟨0,10012,0⟩ g 0],.fn 1000247 [.ptr ⟨0,10012,0⟩ g 0],.fn 1000247 [.ptr ⟨0,10012,0⟩ g 0]] false/\z.hp ⟨0,10010,0⟩= .map gm ag ks rs false/\(∀d' i c,d'<=k->z.hp ⟨d',i,c⟩=hp1 ⟨d',i,c⟩)/\knEs m ee=knEs m (ee.drop i)) ⟨0,Zo,Zo,Zm,Zm,Zm,Zm,Zm,Zm,Zm,Zm,Zm,Zm,Zm,fun d' i c hd=>by have hd2:d'≠k+1:=Zo;simp[*];try exact HK.out d' i c hd,Zi⟩ ?_
    rintro m'' ⟨fr',hp'⟩ ⟨i,hmi,hi,f0',f6',f11',f12',f13',f33',f34',f35',b6',b2',m2',HK',hdi⟩
    simp only at f0' f6' f11' f12' f13' f33' f34' f35' b6' b2' m2' HK'
    clear f0 fl fn fi b2 m2 HK
    by_cases hlti:i<ee.length
    ·have e1i:(i:Int)<ee.length:=Zo
     have hgi:ee[i]?=some ee[i]:=List.getElem?_eq_getElem hlti
     have hwii:IntKind.i64.wrap ((i:Int)+1)=(i:Int)+1:=wrapN Zo
     rw[List.drop_eq_getElem_cons hlti,Na] at hdi
     generalize ee[i]=e at*
     have hgti:=Hc hgi
     have hsti:=B6 hgi
     have tcE:=Cna (g:=g) (gm:=gm) hm e Zo (k+1)
     generalize knE m e=te at*
     obtain⟨xk,xo,xn,xx,xkids⟩:=e
     simp only[Az] at hgti tcE
     obtain⟨G1,a1,c1⟩:=tcE.rules
     have HDi:=Lib.hid hdi
     have HKi:=Lib.hid HK'
     clear hgi hlti hdi tcE HK'
     repeat' (first|refine ZN ?_|refine Z2 ?_ ?_|(intro h h';try simp[*,-h] at h'))
     all_goals have hdi:=HDi.out
     all_goals have HK':=HKi.out
     ·have hd:=HD.out
      exact⟨by rw[hd,hdi];simp[*],fun d' i c hd=>by have hd2:d'≠k+1:=Zo;have hd3:d'<=k+1:=Zo;simp[*]⟩
     ·exact⟨ee.length - (i+1),Zo,i+1,Zo,Zo,Zm,Zm,Zm,Zm,Zm,Zm,Zm,Zm,Zm,Zm,Zm,fun d' i c hd=>by have hd2:d'≠k+1:=Zo;have hd3:d'<=k+1:=Zo;simp[*],by rw[hdi];simp[*]⟩
    ·have e1i: ¬(i:Int)<ee.length:=Zo
     have hd2:knEs m ee=true:=by rw[hdi,List.drop_eq_nil_of_le Zo,M9]
     have HKi:=Lib.hid HK'
     have HK2:=Lib.hid hd2
     clear hdi hd2 HK'
     have tcT:=ih eth Zo (k+1)
     have tcL:=ih eel Zo (k+1)
     generalize knSs m eth=bth at*
     generalize knSs m eel=bel at*
     obtain⟨G2,a2,c2⟩:=tcT.rules
     obtain⟨G3,a3,c3⟩:=tcL.rules
     clear tcT tcL
     repeat' (first|refine ZN ?_|refine Z2 ?_ ?_|(intro h h';try simp[*,-h] at h'))
     all_goals have hd:=HD.out
     all_goals have hd2:=HK2.out
     all_goals have HK':=HKi.out
     all_goals first
      |exact⟨l.length - (j+1),Zo,j+1,Zo,Zo,Zm,Zm,Zm,Zm,Zm,Zm,fun d' i c hd=>by have hd2:d'≠k+1:=Zo;have hd3:d'<=k+1:=Zo;simp[*],by rw[hd];simp[*]⟩
      |exact⟨by rw[hd];simp[*],fun d' i c hd=>by have hd2:d'≠k+1:=Zo;have hd3:d'<=k+1:=Zo;simp[*]⟩
      |(refine⟨l.length - (j+1),Zo,j+1,Zo,Zo,?_,?_,?_,?_,?_,?_,fun d' i c hd=>by have hd2:d'≠k+1:=Zo;have hd3:d'<=k+1:=Zo;simp[*],?_⟩<;>(first|(simp[*];done)|(rw[hd];simp[*];done)))
   |none=>
    have k1:=hm.none hlk
    rw[hlk] at hd
    have HD:=Lib.hid hd
    have HK:=Lib.hid HK
    clear hg hlt hd
    repeat' (first|((with_reducible apply A6);(refine Dx [(0,10),(1,10),(2,10),(3,10),(4,10),(5,10),(6,10),(7,10),(8,10),(9,10),(9,11)] ?_);(iterate 11 refine Zs ?_);(exact Zz))|(refine Z1 ?_)|(refine Z2 ?_ ?_)|(intro h h';try simp[*,-h] at h'))
    have hd:=HD.out
    have HK:=HK.out
    exact⟨by rw[hd];simp,fun d' i c hd=>by have hd2:d'≠k+1:=Zo;have hd3:d'<=k+1:=Zo;simp[*]⟩
  ·have HD:=Lib.hid hd
   have HK:=Lib.hid HK
   clear hg hlt hd
   repeat' (first|refine ZN ?_|refine Z2 ?_ ?_|(intro h h';try simp[*,-h] at h'))
   generalize hg6:(hp ⟨k+1,6,0⟩).gen+1=g6 at*
   clear hg6
   refine Ag (n:=ee.length) (fun s0 m'' z=> ∃i:Nat,ee.length - i<=m''/\i<=ee.length/\z.fr 0= .ptr ⟨0,10012,0⟩ g 0/\z.fr 6= .ptr ⟨k+1,6,0⟩ g6 0/\z.fr 11= .sl false 5 (stRows l)/\z.fr 12=iv l.length/\z.fr 13=iv j/\z.fr 33= .sl false 5 (exRows ee)/\z.fr 34=iv ee.length/\z.fr 35=iv i/\z.hp ⟨k+1,6,0⟩= .box g6 [iz ek,tz ex.val,.sl false 5 (exRows ee),.sl false 5 (stRows eth),.sl false 5 (stRows eel)] false/\z.hp ⟨0,10012,0⟩= .box g [.mp ⟨0,10010,0⟩ gm,.sc .nilFunc,.fn 246 [],.fn 246 [],.fn 1000248 [.ptr ⟨0,10012,0⟩ g 0],.fn 1000249 [.ptr ⟨0,10012,0⟩ g 0],.fn 246 [],.fn 1000250 [.ptr ⟨0,10012,0⟩ g 0],.fn 1000247 [.ptr ⟨0,10012,0⟩ g 0],.fn 1000247 [.ptr ⟨0,10012,0⟩ g 0],.fn 1000247 [.ptr ⟨0,10012,0⟩ g 0]] false/\z.hp ⟨0,10010,0⟩= .map gm ag ks rs false/\(∀d' i c,d'<=k->z.hp ⟨d',i,c⟩=hp1 ⟨d',i,c⟩)/\knEs m ee=knEs m (ee.drop i)) ⟨0,Zo,Zo,Zm,Zm,Zm,Zm,Zm,Zm,Zm,Zm,Zm,Zm,Zm,fun d' i c hd=>by have hd2:d'≠k+1:=Zo;simp[*];try exact HK.out d' i c hd,Zi⟩ ?_
   rintro m'' ⟨fr',hp'⟩ ⟨i,hmi,hi,f0',f6',f11',f12',f13',f33',f34',f35',b6',b2',m2',HK',hdi⟩
   simp only at f0' f6' f11' f12' f13' f33' f34' f35' b6' b2' m2' HK'
   clear f0 fl fn fi b2 m2 HK
   by_cases hlti:i<ee.length
   ·have e1i:(i:Int)<ee.length:=Zo
    have hgi:ee[i]?=some ee[i]:=List.getElem?_eq_getElem hlti
    have hwii:IntKind.i64.wrap ((i:Int)+1)=(i:Int)+1:=wrapN Zo
    rw[List.drop_eq_getElem_cons hlti,Na] at hdi
    generalize ee[i]=e at*
    have hgti:=Hc hgi
    have hsti:=B6 hgi
    have tcE:=Cna (g:=g) (gm:=gm) hm e Zo (k+1)
    generalize knE m e=te at*
    obtain⟨xk,xo,xn,xx,xkids⟩:=e
    simp only[Az] at hgti tcE
    obtain⟨G1,a1,c1⟩:=tcE.rules
    have HDi:=Lib.hid hdi
    have HKi:=Lib.hid HK'
    clear hgi hlti hdi tcE HK'
    repeat' (first|refine ZN ?_|refine Z2 ?_ ?_|(intro h h';try simp[*,-h] at h'))
    all_goals have hdi:=HDi.out
    all_goals have HK':=HKi.out
    ·have hd:=HD.out
     exact⟨by rw[hd,hdi];simp[*],fun d' i c hd=>by have hd2:d'≠k+1:=Zo;have hd3:d'<=k+1:=Zo;simp[*]⟩
    ·exact⟨ee.length - (i+1),Zo,i+1,Zo,Zo,Zm,Zm,Zm,Zm,Zm,Zm,Zm,Zm,Zm,Zm,Zm,fun d' i c hd=>by have hd2:d'≠k+1:=Zo;have hd3:d'<=k+1:=Zo;simp[*],by rw[hdi];simp[*]⟩
   ·have e1i: ¬(i:Int)<ee.length:=Zo
    have hd2:knEs m ee=true:=by rw[hdi,List.drop_eq_nil_of_le Zo,M9]
    have HKi:=Lib.hid HK'
    have HK2:=Lib.hid hd2
    clear hdi hd2 HK'
    have tcT:=ih eth Zo (k+1)
    have tcL:=ih eel Zo (k+1)
    generalize knSs m eth=bth at*
    generalize knSs m eel=bel at*
    obtain⟨G2,a2,c2⟩:=tcT.rules
    obtain⟨G3,a3,c3⟩:=tcL.rules
    clear tcT tcL
    repeat' (first|refine ZN ?_|refine Z2 ?_ ?_|(intro h h';try simp[*,-h] at h'))
    all_goals have hd:=HD.out
    all_goals have hd2:=HK2.out
    all_goals have HK':=HKi.out
    all_goals first
     |exact⟨l.length - (j+1),Zo,j+1,Zo,Zo,Zm,Zm,Zm,Zm,Zm,Zm,fun d' i c hd=>by have hd2:d'≠k+1:=Zo;have hd3:d'<=k+1:=Zo;simp[*],by rw[hd];simp[*]⟩
     |exact⟨by rw[hd];simp[*],fun d' i c hd=>by have hd2:d'≠k+1:=Zo;have hd3:d'<=k+1:=Zo;simp[*]⟩
     |(refine⟨l.length - (j+1),Zo,j+1,Zo,Zo,?_,?_,?_,?_,?_,?_,fun d' i c hd=>by have hd2:d'≠k+1:=Zo;have hd3:d'<=k+1:=Zo;simp[*],?_⟩<;>(first|(simp[*];done)|(rw[hd];simp[*];done)))
 ·have e1: ¬(j:Int)<l.length:=Zo
  have hd2:knSs m l=true:=by rw[hd,List.drop_eq_nil_of_le Zo,knSs_nl]
  clear hd
  repeat' (first|refine ZN ?_|refine Z2 ?_ ?_|(intro h h';try simp[*,-h] at h'))
  exact⟨by rw[hd2],HK⟩
theorem Pk {m:List (Tx×Fu)}{g gm:Nat}{ag:Bool}{ks:List Value}{rs:List (List AV)}(hm:TM m ag ks rs): ∀N,N<=1048576-> ∀l:List Sy.St,stSize l<=N-> ∀k:Nat,TC g gm ag ks rs k 172 [.ptr ⟨0,10012,0⟩ g 0,.sl false 5 (stRows l)] (bv (knSs m l))
 |0,h,l,hl,k=>Pj hm 0 h (fun l h'=>Zo) l hl k
 |N+1,h,l,hl,k=>Pj hm (N+1) h (fun l h' k=>Pk hm N Zo l Zo k) l hl k
theorem Bwa {m:List (Tx×Fu)}{g gm:Nat}{ag:Bool}{ks:List Value}{rs:List (List AV)}(hm:TM m ag ks rs)(l:List Sy.St)(hl:stSize l<=1048576)(k:Nat):TC g gm ag ks rs k 172 [.ptr ⟨0,10012,0⟩ g 0,.sl false 5 (stRows l)] (bv (knSs m l)):=Pk hm 1048576 (Nat.le_refl _) l hl k
theorem Ph {m:List (Tx×Fu)}{g gm:Nat}{ag:Bool}{ks:List Value}{rs:List (List AV)}(hm:TM m ag ks rs)(fnm:Tx)(fps fls:List Tx)(fw:Bool)(fb:List Sy.St)(N:Nat)(hN:N<=1048576)(ih: ∀l:List Sy.St,stSize l<N-> ∀k,TC g gm ag ks rs k 173 [.ptr ⟨0,10012,0⟩ g 0,.agg [tz fnm.val,.sl false 1 (txRows fps),.sl false 1 (txRows fls),bz fw,.sl false 5 (stRows fb)],.sl false 5 (stRows l)] (bv (tySs m fw l)))(l:List Sy.St)(hl:stSize l<=N)(k:Nat):TC g gm ag ks rs k 173 [.ptr ⟨0,10012,0⟩ g 0,.agg [tz fnm.val,.sl false 1 (txRows fps),.sl false 1 (txRows fls),bz fw,.sl false 5 (stRows fb)],.sl false 5 (stRows l)] (bv (tySs m fw l)):=by
 refine TC.of fun d hp1 b1 m1=>?_
 refine Af (k1:=k+1) (PR:=fun _ _=>False) rfl Tryz.func173 (Aj Zd) rfl Ala rfl rvs_173 ?_
 have hlen:l.length<=1048576:=by have:=Cl l;omega
 repeat' (first|refine Zp ?_|refine Zr ?_ ?_|(intro h h';try simp[*,-h] at h'))
 generalize hg4:(hp1 ⟨k+1,4,0⟩).gen+1=g4 at*
 clear hg4
 refine Ag (n:=l.length) (fun s0 m' z=> ∃j:Nat,l.length - j<=m'/\j<=l.length/\z.fr 0= .ptr ⟨0,10012,0⟩ g 0/\z.fr 10= .sl false 5 (stRows l)/\z.fr 11=iv l.length/\z.fr 12=iv j/\z.hp ⟨0,10012,0⟩= .box g [.mp ⟨0,10010,0⟩ gm,.sc .nilFunc,.fn 246 [],.fn 246 [],.fn 1000248 [.ptr ⟨0,10012,0⟩ g 0],.fn 1000249 [.ptr ⟨0,10012,0⟩ g 0],.fn 246 [],.fn 1000250 [.ptr ⟨0,10012,0⟩ g 0],.fn 1000247 [.ptr ⟨0,10012,0⟩ g 0],.fn 1000247 [.ptr ⟨0,10012,0⟩ g 0],.fn 1000247 [.ptr ⟨0,10012,0⟩ g 0]] false/\z.hp ⟨0,10010,0⟩= .map gm ag ks rs false/\(∀d' i c,d'<=k->z.hp ⟨d',i,c⟩=hp1 ⟨d',i,c⟩)/\tySs m fw l=tySs m fw (l.drop j)/\z.fr 4= .ptr ⟨k+1,4,0⟩ g4 0/\z.hp ⟨k+1,4,0⟩= .box g4 [tz fnm.val,.sl false 1 (txRows fps),.sl false 1 (txRows fls),bz fw,.sl false 5 (stRows fb)] false) ⟨0,Zo,Zo,Z8,Z8,Z8,Z8,Z8,Z8,fun d' i c hd=>by have hd2:d'≠k+1:=Zo;have hd3:d'<=k+1:=Zo;simp (maxDischargeDepth:=8) [*],Zi,Z8,Z8⟩ ?_
 rintro m' ⟨fr,hp⟩ ⟨j,hm',hj,f0,fl,fn,fi,b2,m2,HK,hd,f4,b4⟩
 simp only at f0 fl fn fi b2 m2 HK f4 b4
 clear b1 m1
 by_cases hlt:j<l.length
 ·have e1:(j:Int)<l.length:=Zo
  have hg:l[j]?=some l[j]:=List.getElem?_eq_getElem hlt
  have hwi:IntKind.i64.wrap ((j:Int)+1)=(j:Int)+1:=wrapN Zo
  rw[List.drop_eq_getElem_cons hlt,tySs_cn] at hd
  generalize l[j]=e at*
  have hgt:=Nv hg
  have hst:=Eb hg
  obtain⟨ek,ex,ee,eth,eel⟩:=e
  simp only[Db] at hgt
  simp only[Cp] at hst
  rw[tyS_mk] at hd
  have hel:ee.length<=1048576:=by have:=Bv ee;omega
  obtain(rfl|rfl|rfl|rfl|⟨n4,n5,n6,n7⟩):ek=4\/ek=5\/ek=6\/ek=7\/(ek≠4/\ek≠5/\ek≠6/\ek≠7):=Zo
  ·rw[if_pos (by simp:((4:Int)=4\/(4:Int)=5))] at hd
   have tcA:=Fk (g:=g) (gm:=gm) hm ee Zo 2 (k+1)
   have tcT:=ih eth Zo (k+1)
   have tcL:=ih eel Zo (k+1)
   have HD:=Lib.hid hd
   generalize tyAll m ee 2=ba at*
   generalize tySs m fw eth=bth at*
   generalize tySs m fw eel=bel at*
   clear hd
   have hd:=HD.out
   obtain⟨G1,a1,c1⟩:=tcA.rules
   obtain⟨G2,a2,c2⟩:=tcT.rules
   obtain⟨G3,a3,c3⟩:=tcL.rules
   clear tcA tcT tcL HD
   have HD:=Lib.hid hd
   have HK:=Lib.hid HK
   clear hd hg hlt
   repeat' (first|refine Zp ?_|refine Zr ?_ ?_|(intro h h';try simp[*,-h] at h'))
   all_goals have hd:=HD.out
   all_goals have HK:=HK.out
   all_goals first
    |exact⟨l.length - (j+1),Zo,j+1,Zo,Zo,Z8,Z8,Z8,Z8,Z8,Z8,fun d' i c hd=>by have hd2:d'≠k+1:=Zo;have hd3:d'<=k+1:=Zo;simp (maxDischargeDepth:=8) [*],by rw[hd];simp (maxDischargeDepth:=8) [*],Z8,Z8⟩
    |exact⟨by rw[hd];simp (maxDischargeDepth:=8) [*],fun d' i c hd=>by have hd2:d'≠k+1:=Zo;have hd3:d'<=k+1:=Zo;simp (maxDischargeDepth:=8) [*]⟩
  ·rw[if_pos (by simp:((5:Int)=4\/(5:Int)=5))] at hd
   have tcA:=Fk (g:=g) (gm:=gm) hm ee Zo 2 (k+1)
   have tcT:=ih eth Zo (k+1)
   have tcL:=ih eel Zo (k+1)
   have HD:=Lib.hid hd
   generalize tyAll m ee 2=ba at*
   generalize tySs m fw eth=bth at*
   generalize tySs m fw eel=bel at*
   clear hd
   have hd:=HD.out
   obtain⟨G1,a1,c1⟩:=tcA.rules
   obtain⟨G2,a2,c2⟩:=tcT.rules
   obtain⟨G3,a3,c3⟩:=tcL.rules
   clear tcA tcT tcL HD
   have HD:=Lib.hid hd
   have HK:=Lib.hid HK
   clear hd hg hlt
   repeat' (first|refine Zp ?_|refine Zr ?_ ?_|(intro h h';try simp[*,-h] at h'))
   all_goals have hd:=HD.out
   all_goals have HK:=HK.out
   all_goals first
    |exact⟨l.length - (j+1),Zo,j+1,Zo,Zo,Z8,Z8,Z8,Z8,Z8,Z8,fun d' i c hd=>by have hd2:d'≠k+1:=Zo;have hd3:d'<=k+1:=Zo;simp (maxDischargeDepth:=8) [*],by rw[hd];simp (maxDischargeDepth:=8) [*],Z8,Z8⟩
    |exact⟨by rw[hd];simp (maxDischargeDepth:=8) [*],fun d' i c hd=>by have hd2:d'≠k+1:=Zo;have hd3:d'<=k+1:=Zo;simp (maxDischargeDepth:=8) [*]⟩
  ·rw[if_neg (by simp: ¬((6:Int)=4\/(6:Int)=5))] at hd
   have tcA:=Fk (g:=g) (gm:=gm) hm ee Zo 1 (k+1)
   have tcT:=ih eth Zo (k+1)
   have tcL:=ih eel Zo (k+1)
   have HD:=Lib.hid hd
   generalize tyAll m ee 1=ba at*
   generalize tySs m fw eth=bth at*
   generalize tySs m fw eel=bel at*
   clear hd
   have hd:=HD.out
   obtain⟨G1,a1,c1⟩:=tcA.rules
   obtain⟨G2,a2,c2⟩:=tcT.rules
   obtain⟨G3,a3,c3⟩:=tcL.rules
   clear tcA tcT tcL HD
   have HD:=Lib.hid hd
   have HK:=Lib.hid HK
   clear hd hg hlt
   have hd:=HD.out
   unfold Dr at hd
   cases hlk:Sy.look m ex with
   |some t=>
    obtain⟨jj,k1,k2,hag⟩:=hm.some hlk
    obtain⟨r1,r2,r3,r4,r5⟩:=t
    simp only[A3] at k2
    rw[hlk] at hd
    simp only at hd
    have HD:=Lib.hid hd
    clear hd
    repeat' (first|refine Zp ?_|refine Zr ?_ ?_|(intro h h';try simp[*,-h] at h'))
    all_goals have hd:=HD.out
    all_goals have HK:=HK.out
    all_goals first
     |exact⟨l.length - (j+1),Zo,j+1,Zo,Zo,Z8,Z8,Z8,Z8,Z8,Z8,fun d' i c hd=>by have hd2:d'≠k+1:=Zo;have hd3:d'<=k+1:=Zo;simp (maxDischargeDepth:=8) [*],by rw[hd];simp (maxDischargeDepth:=8) [*],Z8,Z8⟩
     |exact⟨by rw[hd];simp (maxDischargeDepth:=8) [*],fun d' i c hd=>by have hd2:d'≠k+1:=Zo;have hd3:d'<=k+1:=Zo;simp (maxDischargeDepth:=8) [*]⟩
   |none=>
    have k1:=hm.none hlk
    rw[hlk] at hd
    simp only at hd
    have HD:=Lib.hid hd
    clear hd
    repeat' (first|refine Zp ?_|refine Zr ?_ ?_|(intro h h';try simp[*,-h] at h'))
    all_goals have hd:=HD.out
    all_goals have HK:=HK.out
    all_goals first
     |exact⟨l.length - (j+1),Zo,j+1,Zo,Zo,Z8,Z8,Z8,Z8,Z8,Z8,fun d' i c hd=>by have hd2:d'≠k+1:=Zo;have hd3:d'<=k+1:=Zo;simp (maxDischargeDepth:=8) [*],by rw[hd];simp (maxDischargeDepth:=8) [*],Z8,Z8⟩
     |exact⟨by rw[hd];simp (maxDischargeDepth:=8) [*],fun d' i c hd=>by have hd2:d'≠k+1:=Zo;have hd3:d'<=k+1:=Zo;simp (maxDischargeDepth:=8) [*]⟩
  ·rw[if_neg (by simp: ¬((7:Int)=4\/(7:Int)=5))] at hd
   cases hee:ee with
   |nil=>
    subst hee
    have tcA:=Fk (g:=g) (gm:=gm) hm [] Zo 1 (k+1)
    have tcT:=ih eth Zo (k+1)
    have tcL:=ih eel Zo (k+1)
    have HD:=Lib.hid hd
    generalize tyAll m [] 1=ba at*
    generalize tySs m fw eth=bth at*
    generalize tySs m fw eel=bel at*
    clear hd
    have hd:=HD.out
    obtain⟨G1,a1,c1⟩:=tcA.rules
    obtain⟨G2,a2,c2⟩:=tcT.rules
    obtain⟨G3,a3,c3⟩:=tcL.rules
    clear tcA tcT tcL HD
    have HD:=Lib.hid hd
    have HK:=Lib.hid HK
    clear hd hg hlt
    simp only[Xw] at a1
    repeat' (first|refine Zp ?_|refine Zr ?_ ?_|(intro h h';try simp[*,-h] at h'))
    all_goals have hd:=HD.out
    all_goals have HK:=HK.out
    all_goals first
     |exact⟨l.length - (j+1),Zo,j+1,Zo,Zo,Z8,Z8,Z8,Z8,Z8,Z8,fun d' i c hd=>by have hd2:d'≠k+1:=Zo;have hd3:d'<=k+1:=Zo;simp (maxDischargeDepth:=8) [*],by rw[hd];simp (maxDischargeDepth:=8) [*],Z8,Z8⟩
     |exact⟨by rw[hd];simp (maxDischargeDepth:=8) [*],fun d' i c hd=>by have hd2:d'≠k+1:=Zo;have hd3:d'<=k+1:=Zo;simp (maxDischargeDepth:=8) [*]⟩
   |cons e0 ee0=>
    have hne:(ee.length==0)=false:=by rw[hee];rfl
    have hpos:(0:Int)<ee.length:=by rw[hee];simp
    have hne2:ee≠[]:=by rw[hee];simp
    rw[<-hee] at*
    rw[hne] at hd
    clear hee
    obtain rfl|rfl:fw=false\/fw=true:=by cases fw<;>simp
    ·skip
     have tcA:=Fk (g:=g) (gm:=gm) hm ee Zo 1 (k+1)
     have tcT:=ih eth Zo (k+1)
     have tcL:=ih eel Zo (k+1)
     have HD:=Lib.hid hd
     generalize tyAll m ee 1=ba at*
     generalize tySs m false eth=bth at*
     generalize tySs m false eel=bel at*
     clear hd
     have hd:=HD.out
     obtain⟨G1,a1,c1⟩:=tcA.rules
     obtain⟨G2,a2,c2⟩:=tcT.rules
     obtain⟨G3,a3,c3⟩:=tcL.rules
     clear tcA tcT tcL HD
     have HD:=Lib.hid hd
     have HK:=Lib.hid HK
     clear hd hg hlt
     repeat' (first|refine Zp ?_|refine Zr ?_ ?_|(intro h h';try simp[*,-h] at h'))
     all_goals have hd:=HD.out
     all_goals have HK:=HK.out
     all_goals first
      |exact⟨l.length - (j+1),Zo,j+1,Zo,Zo,Z8,Z8,Z8,Z8,Z8,Z8,fun d' i c hd=>by have hd2:d'≠k+1:=Zo;have hd3:d'<=k+1:=Zo;simp (maxDischargeDepth:=8) [*],by rw[hd];simp (maxDischargeDepth:=8) [*],Z8,Z8⟩
      |exact⟨by rw[hd];simp (maxDischargeDepth:=8) [*],fun d' i c hd=>by have hd2:d'≠k+1:=Zo;have hd3:d'<=k+1:=Zo;simp (maxDischargeDepth:=8) [*]⟩
    ·skip
     have tcA:=Fk (g:=g) (gm:=gm) hm ee Zo 1 (k+1)
     have tcT:=ih eth Zo (k+1)
     have tcL:=ih eel Zo (k+1)
     have HD:=Lib.hid hd
     generalize tyAll m ee 1=ba at*
     generalize tySs m true eth=bth at*
     generalize tySs m true eel=bel at*
     clear hd
     have hd:=HD.out
     obtain⟨G1,a1,c1⟩:=tcA.rules
     obtain⟨G2,a2,c2⟩:=tcT.rules
     obtain⟨G3,a3,c3⟩:=tcL.rules
     clear tcA tcT tcL HD
     have HD:=Lib.hid hd
     have HK:=Lib.hid HK
     clear hd hg hlt
     repeat' (first|refine Zp ?_|refine Zr ?_ ?_|(intro h h';try simp[*,-h] at h'))
     all_goals have hd:=HD.out
     all_goals have HK:=HK.out
     all_goals first
      |exact⟨l.length - (j+1),Zo,j+1,Zo,Zo,Z8,Z8,Z8,Z8,Z8,Z8,fun d' i c hd=>by have hd2:d'≠k+1:=Zo;have hd3:d'<=k+1:=Zo;simp (maxDischargeDepth:=8) [*],by rw[hd];simp (maxDischargeDepth:=8) [*],Z8,Z8⟩
      |exact⟨by rw[hd];simp (maxDischargeDepth:=8) [*],fun d' i c hd=>by have hd2:d'≠k+1:=Zo;have hd3:d'<=k+1:=Zo;simp (maxDischargeDepth:=8) [*]⟩
  ·rw[if_neg (by simp[n4,n5]: ¬(ek=4\/ek=5))] at hd
   have tcA:=Fk (g:=g) (gm:=gm) hm ee Zo 1 (k+1)
   have tcT:=ih eth Zo (k+1)
   have tcL:=ih eel Zo (k+1)
   have HD:=Lib.hid hd
   generalize tyAll m ee 1=ba at*
   generalize tySs m fw eth=bth at*
   generalize tySs m fw eel=bel at*
   clear hd
   have hd:=HD.out
   obtain⟨G1,a1,c1⟩:=tcA.rules
   obtain⟨G2,a2,c2⟩:=tcT.rules
   obtain⟨G3,a3,c3⟩:=tcL.rules
   clear tcA tcT tcL HD
   have HD:=Lib.hid hd
   have HK:=Lib.hid HK
   clear hd hg hlt
   repeat' (first|refine Zp ?_|refine Zr ?_ ?_|(intro h h';try simp[*,-h] at h'))
   all_goals have hd:=HD.out
   all_goals have HK:=HK.out
   all_goals first
    |exact⟨l.length - (j+1),Zo,j+1,Zo,Zo,Z8,Z8,Z8,Z8,Z8,Z8,fun d' i c hd=>by have hd2:d'≠k+1:=Zo;have hd3:d'<=k+1:=Zo;simp (maxDischargeDepth:=8) [*],by rw[hd];simp (maxDischargeDepth:=8) [*],Z8,Z8⟩
    |exact⟨by rw[hd];simp (maxDischargeDepth:=8) [*],fun d' i c hd=>by have hd2:d'≠k+1:=Zo;have hd3:d'<=k+1:=Zo;simp (maxDischargeDepth:=8) [*]⟩
 ·have e1: ¬(j:Int)<l.length:=Zo
  have hd2:tySs m fw l=true:=by rw[hd,List.drop_eq_nil_of_le Zo,tySs_nl]
  clear hd
  repeat' (first|refine Zp ?_|refine Zr ?_ ?_|(intro h h';try simp[*,-h] at h'))
  exact⟨by rw[hd2],HK⟩
theorem Pi {m:List (Tx×Fu)}{g gm:Nat}{ag:Bool}{ks:List Value}{rs:List (List AV)}(hm:TM m ag ks rs)(fnm:Tx)(fps fls:List Tx)(fw:Bool)(fb:List Sy.St): ∀N,N<=1048576-> ∀l:List Sy.St,stSize l<=N-> ∀k:Nat,TC g gm ag ks rs k 173 [.ptr ⟨0,10012,0⟩ g 0,.agg [tz fnm.val,.sl false 1 (txRows fps),.sl false 1 (txRows fls),bz fw,.sl false 5 (stRows fb)],.sl false 5 (stRows l)] (bv (tySs m fw l))
 |0,h,l,hl,k=>Ph hm fnm fps fls fw fb 0 h (fun l h'=>Zo) l hl k
 |N+1,h,l,hl,k=>Ph hm fnm fps fls fw fb (N+1) h (fun l h' k=>Pi hm fnm fps fls fw fb N Zo l Zo k) l hl k
theorem Bva {m:List (Tx×Fu)}{g gm:Nat}{ag:Bool}{ks:List Value}{rs:List (List AV)}(hm:TM m ag ks rs)(fnm:Tx)(fps fls:List Tx)(fw:Bool)(fb:List Sy.St)(l:List Sy.St)(hl:stSize l<=1048576)(k:Nat):TC g gm ag ks rs k 173 [.ptr ⟨0,10012,0⟩ g 0,.agg [tz fnm.val,.sl false 1 (txRows fps),.sl false 1 (txRows fls),bz fw,.sl false 5 (stRows fb)],.sl false 5 (stRows l)] (bv (tySs m fw l)):=Pi hm fnm fps fls fw fb 1048576 (Nat.le_refl _) l hl k
theorem Hsa (vs:List Tx)(ar:List (Tx×Int))(fs:List Fu)(hs:fuSize fs<=1048576){hp1:Hp}:HB P0 E47 (Lm X47) 0 9 171 [.agg [.sl false 1 (txRows vs),.sl false 2 (arRows ar),.sl false 5 (fs.map Fu.row)]] hp1 (fun v hp2=> ∃g gm ag ks rs,v= .ptr ⟨0,10012,0⟩ g 0/\hp2 ⟨0,10012,0⟩= .box g [.mp ⟨0,10010,0⟩ gm,.sc .nilFunc,.fn 246 [],.fn 246 [],.fn 1000248 [.ptr ⟨0,10012,0⟩ g 0],.fn 1000249 [.ptr ⟨0,10012,0⟩ g 0],.fn 246 [],.fn 1000250 [.ptr ⟨0,10012,0⟩ g 0],.fn 1000247 [.ptr ⟨0,10012,0⟩ g 0],.fn 1000247 [.ptr ⟨0,10012,0⟩ g 0],.fn 1000247 [.ptr ⟨0,10012,0⟩ g 0]] false/\hp2 ⟨0,10010,0⟩= .map gm ag ks rs false/\TM (funM fs) ag ks rs/\ ∀d i c,i<10000->hp2 ⟨d,i,c⟩=hp1 ⟨d,i,c⟩) (fun _ _=>False):=by
 obtain⟨v,hp2,h1,g,gm,h2,h3,h4,h5⟩:=Dxa vs ar fs hs hp1
 exact .inl ⟨v,hp2,h1,g,gm,_,_,_,h2,h3,h4,⟨rfl,rfl,rfl⟩,h5⟩
theorem Pp (vs:List Tx)(ar:List (Tx×Int))(fs:List Fu)(hs:fuSize fs<=1048576):(Lm X47).dat 118 [.agg [.sl false 1 (txRows vs),.sl false 2 (arRows ar),.sl false 5 (fs.map Fu.row)]]=some [iv (typingS ⟨vs,ar,fs⟩)]:=by
 refine fnW (P:=P0) (E:=E47) (X:=X47) Tryz.func118 (An _ _) rfl Bea rfl Jsa rvs_118 ?_
 have hfl:=Bn fs
 repeat' (first|refine Zp ?_|refine Zr ?_ ?_|(intro h h';try simp[*,-h] at h')|((with_reducible apply S5 (f:=171));exact Z6;(exact Kia);decide;exact rfl;exact Z6;(apply Hsa vs ar fs hs);skip;rotate_left;(rintro _ _ h;exact h.elim);(rintro _ hp2 ⟨g,gm,ag,ks,rs,rfl,bx,mx,hm,hk⟩))|fail)
 have hts:typingS ⟨vs,ar,fs⟩=if fs.all (fun f:Fu=>knSs (funM fs) f.body)=false then 4 else if fs.all (fun f:Fu=>tySs (funM fs) f.word f.body)=false then 5 else 0:=rfl
 refine Ag (n:=fs.length) (fun s0 m' z=> ∃j:Nat,fs.length - j<=m'/\j<=fs.length/\z.fr 1= .ptr ⟨0,1,0⟩ 1 0/\z.fr 3= .ptr ⟨0,10012,0⟩ g 0/\z.fr 11= .sl false 5 (fs.map Fu.row)/\z.fr 12=iv fs.length/\z.fr 13=iv j/\z.hp ⟨0,1,0⟩= .box 1 [.sl false 1 (txRows vs),.sl false 2 (arRows ar),.sl false 5 (fs.map Fu.row)] false/\z.hp ⟨0,10012,0⟩= .box g [.mp ⟨0,10010,0⟩ gm,.sc .nilFunc,.fn 246 [],.fn 246 [],.fn 1000248 [.ptr ⟨0,10012,0⟩ g 0],.fn 1000249 [.ptr ⟨0,10012,0⟩ g 0],.fn 246 [],.fn 1000250 [.ptr ⟨0,10012,0⟩ g 0],.fn 1000247 [.ptr ⟨0,10012,0⟩ g 0],.fn 1000247 [.ptr ⟨0,10012,0⟩ g 0],.fn 1000247 [.ptr ⟨0,10012,0⟩ g 0]] false/\z.hp ⟨0,10010,0⟩= .map gm ag ks rs false/\fs.all (fun f:Fu=>knSs (funM fs) f.body)=(fs.drop j).all (fun f:Fu=>knSs (funM fs) f.body)) ⟨0,Zo,Zo,Z8,Z8,Z8,Z8,Z8,Z8,Z8,Z8,by rw[List.drop_zero]⟩ ?_
 rintro m' ⟨fr,hp⟩ ⟨j,hm',hj,f1,f3,fl,fn,fi,b1,b2,m2,hd⟩
 simp only at f1 f3 fl fn fi b1 b2 m2
 clear hk bx mx
 by_cases hlt:j<fs.length
 ·have e1:(j:Int)<fs.length:=Zo
  have hg:fs[j]?=some fs[j]:=List.getElem?_eq_getElem hlt
  have hwi:IntKind.i64.wrap ((j:Int)+1)=(j:Int)+1:=wrapN Zo
  rw[List.drop_eq_getElem_cons hlt,List.all_cons] at hd
  generalize fs[j]=t at*
  have hgt:=Fa hg
  have hst:=C8 hg
  obtain⟨t1,t2,t3,t4,t5⟩:=t
  simp only[A3] at hgt
  simp only[Bp] at hst
  have tcE:=Bwa (g:=g) (gm:=gm) hm t5 Zo 0
  simp only at hd
  generalize knSs (funM fs) t5=te at*
  obtain⟨G1,a1,c1⟩:=tcE.rules
  have HD:=Lib.hid hd
  clear hg hlt hd tcE
  repeat' (first|refine Zp ?_|refine Zr ?_ ?_|(intro h h';try simp[*,-h] at h'))
  all_goals have hd:=HD.out
  ·exact by rw[hts,hd];simp (maxDischargeDepth:=8) [*]
  ·exact⟨fs.length - (j+1),Zo,j+1,Zo,Zo,Z8,Z8,Z8,Z8,Z8,Z8,Z8,Z8,by rw[hd];simp (maxDischargeDepth:=8) [*]⟩
 have e1: ¬(j:Int)<fs.length:=Zo
 have hd1:fs.all (fun f:Fu=>knSs (funM fs) f.body)=true:=by rw[hd,List.drop_eq_nil_of_le Zo];rfl
 rw[hd1] at hts
 clear hd hd1
 repeat' (first|refine Zp ?_|refine Zr ?_ ?_|(intro h h';try simp[*,-h] at h'))
 clear e1
 have b1':=b1
 refine Ag (n:=fs.length) (fun s0 m' z=> ∃j:Nat,fs.length - j<=m'/\j<=fs.length/\z.fr 1= .ptr ⟨0,1,0⟩ 1 0/\z.fr 3= .ptr ⟨0,10012,0⟩ g 0/\z.fr 24= .sl false 5 (fs.map Fu.row)/\z.fr 25=iv fs.length/\z.fr 26=iv j/\z.hp ⟨0,1,0⟩= .box 1 [.sl false 1 (txRows vs),.sl false 2 (arRows ar),.sl false 5 (fs.map Fu.row)] false/\z.hp ⟨0,10012,0⟩= .box g [.mp ⟨0,10010,0⟩ gm,.sc .nilFunc,.fn 246 [],.fn 246 [],.fn 1000248 [.ptr ⟨0,10012,0⟩ g 0],.fn 1000249 [.ptr ⟨0,10012,0⟩ g 0],.fn 246 [],.fn 1000250 [.ptr ⟨0,10012,0⟩ g 0],.fn 1000247 [.ptr ⟨0,10012,0⟩ g 0],.fn 1000247 [.ptr ⟨0,10012,0⟩ g 0],.fn 1000247 [.ptr ⟨0,10012,0⟩ g 0]] false/\z.hp ⟨0,10010,0⟩= .map gm ag ks rs false/\fs.all (fun f:Fu=>tySs (funM fs) f.word f.body)=(fs.drop j).all (fun f:Fu=>tySs (funM fs) f.word f.body)) ⟨0,Zo,Zo,Z8,Z8,Z8,Z8,Z8,Z8,Z8,Z8,by rw[List.drop_zero]⟩ ?_
 rintro m' ⟨fr,hp⟩ ⟨j,hm',hj,f1,f3,fl,fn,fi,b1,b2,m2,hd⟩
 simp only at f1 f3 fl fn fi b1 b2 m2
 by_cases hlt:j<fs.length
 ·have e1:(j:Int)<fs.length:=Zo
  have hg:fs[j]?=some fs[j]:=List.getElem?_eq_getElem hlt
  have hwi:IntKind.i64.wrap ((j:Int)+1)=(j:Int)+1:=wrapN Zo
  rw[List.drop_eq_getElem_cons hlt,List.all_cons] at hd
  generalize fs[j]=t at*
  have hgt:=Fa hg
  have hst:=C8 hg
  obtain⟨t1,t2,t3,t4,t5⟩:=t
  simp only[A3] at hgt
  simp only[Bp] at hst
  have tcE:=Bva (g:=g) (gm:=gm) hm t1 t2 t3 t4 t5 t5 Zo 0
  simp only at hd
  generalize tySs (funM fs) t4 t5=te at*
  obtain⟨G1,a1,c1⟩:=tcE.rules
  have HD:=Lib.hid hd
  clear hg hlt hd tcE
  repeat' (first|refine Zp ?_|refine Zr ?_ ?_|(intro h h';try simp[*,-h] at h'))
  all_goals have hd:=HD.out
  ·exact by rw[hts,hd];simp (maxDischargeDepth:=8) [*]
  ·exact⟨fs.length - (j+1),Zo,j+1,Zo,Zo,Z8,Z8,Z8,Z8,Z8,Z8,Z8,Z8,by rw[hd];simp (maxDischargeDepth:=8) [*]⟩
 have e1: ¬(j:Int)<fs.length:=Zo
 have hd1:fs.all (fun f:Fu=>tySs (funM fs) f.word f.body)=true:=by rw[hd,List.drop_eq_nil_of_le Zo];rfl
 rw[hd1] at hts
 clear hd hd1
 repeat' (first|refine Zp ?_|refine Zr ?_ ?_|(intro h h';try simp[*,-h] at h'))
 rw[hts]
 simp
theorem C6a (vs:List Tx)(ar:List (Tx×Int))(fs:List Fu)(hs:vs.length+ar.length+fuSize fs<=1048576):(Lm X47).dat 82 [.agg [.sl false 1 (txRows vs),.sl false 2 (arRows ar),.sl false 5 (fs.map Fu.row)]]=some [iv (soundS nbT ⟨vs,ar,fs⟩)]:=by
 refine fnW (P:=P0) (E:=E47) (X:=X47) Tryz.func82 (An _ _) rfl Fqa rfl rtys_82 rvs_82 ?_
 have rw1:=C7a vs ar fs hs
 unfold soundS
 cases hr:rP nbT ⟨vs,ar,fs⟩ with
 |false=>
  rw[hr] at rw1
  repeat' (first|refine Zp ?_|refine Zr ?_ ?_|(intro h h';try simp[*,-h] at h'))
  simp
 |true=>
  rw[hr] at rw1
  have h1:1<=fs.length:=by
   rw[rP_mk] at hr
   simp only[Bool.and_eq_true,decide_eq_true_eq] at hr
   exact hr.1.1.1.1
  have sc:=Ry vs ar fs h1 hs
  have ty:=Pp vs ar fs Zo
  generalize scopeS ⟨vs,ar,fs⟩=a at*
  generalize typingS ⟨vs,ar,fs⟩=b at*
  clear hr
  by_cases ha:a=0
  ·subst ha
   repeat' (first|refine Zp ?_|refine Zr ?_ ?_|(intro h h';try simp[*,-h] at h'))
   simp
  ·repeat' (first|refine Zp ?_|refine Zr ?_ ?_|(intro h h';try simp[*,-h] at h'))
   simp[ha]
theorem V4 (o i:List (Tx×Th))(s:Tx):(Lm X47).dat 119 [.agg [mpD thR o,mpD thR i],tv s.val]=some [.agg [iv (coFind i o s).1,iv (coFind i o s).2]]:=by
 refine fnW (P:=P0) (E:=E47) (X:=X47) Tryz.func119 (An _ _) rfl Bda rfl Jra rvs_119 ?_
 unfold coFind mpD
 cases hi:Sy.look i s with
 |some t=>
  obtain⟨a,b⟩:=t
  obtain⟨j,h1,h2,_⟩:=Cr (r:=thR) hi 0
  have h3:=Ew hi
  simp only[thR,Nat.zero_add] at h1 h2
  exact ZS
 |none=>
  have h1:=Bh hi 0
  cases ho:Sy.look o s with
  |some t=>
   obtain⟨a,b⟩:=t
   obtain⟨j,h4,h2,_⟩:=Cr (r:=thR) ho 0
   have h3:=Ew ho
   simp only[thR,Nat.zero_add] at h4 h2
   exact ZS
  |none=>
   have h4:=Bh ho 0
   exact ZS
theorem Fda {fd:Tx->Th}{l:List Sy.Ex}{j:Nat}{e:Sy.Ex}(h:l[j]?=some e):coEs fd (l.take (j+1))=coEs fd (l.take j)++[coE fd e]:=by
 rw[List.take_add_one,h]
 simp[Su]
theorem E9a {fd:Tx->Th}{l:List Sy.St}{j:Nat}{e:Sy.St}(h:l[j]?=some e):coSs fd (l.take (j+1))=coSs fd (l.take j)++[coS fd e]:=by
 rw[List.take_add_one,h]
 simp[Ss]
theorem coE_mk (fd:Tx->Th)(k o n:Int)(s:Tx)(l:List Sy.Ex):coE fd (.mk k o n s l)= .mk k o n (fd s).1 (fd s).2 (coEs fd l):=by rw[coE]
theorem coS_mk (fd:Tx->Th)(k:Int)(s:Tx)(e:List Sy.Ex)(t f:List Sy.St):coS fd (.mk k s e t f)= .mk k (fd s).1 (fd s).2 (coEs fd e) (coSs fd t) (coSs fd f):=by rw[coS]
theorem Cd (k o n s z:Int)(l:List Cx):(Cx.mk k o n s z l).row=[iz k,iz o,uz n,iz s,iz z,.sl false 6 (cxRows l)]:=by rw[Cx.row]
theorem L1 (k s z:Int)(e:List Cx)(t f:List Cs):(Cs.mk k s z e t f).row=[iz k,iz s,iz z,.sl false 6 (cxRows e),.sl false 6 (csRows t),.sl false 6 (csRows f)]:=by rw[Cs.row]
theorem Cwa (l:List Cx):(cxRows l).take l.length=cxRows l:=by rw[List.take_of_length_le Zi]
theorem Cxa (l:List Cs):(csRows l).take l.length=csRows l:=by rw[List.take_of_length_le Zi]
theorem Qx (o n:List (Tx×Th))(N:Nat)(hN:N<=1048576)(ih: ∀l:List Sy.Ex,exSize l<N->(Lm X47).dat 120 [.agg [mpD thR o,mpD thR n],.sl false 5 (exRows l)]=some [.vec 6 (cxRows (coEs (coFind n o) l))])(l:List Sy.Ex)(hl:exSize l<=N):(Lm X47).dat 120 [.agg [mpD thR o,mpD thR n],.sl false 5 (exRows l)]=some [.vec 6 (cxRows (coEs (coFind n o) l))]:=by
 refine fnW (P:=P0) (E:=E47) (X:=X47) Tryz.func120 (An _ _) rfl Bca rfl Jqa rvs_120 ?_
 have hlen:l.length<=1048576:=by have:=Bv l;omega
 have ff:=fun s=>V4 o n s
 obtain⟨ob,ok,or_,ho⟩: ∃b k r,mpD thR o= .dmp b k r:=⟨_,_,_,rfl⟩
 obtain⟨nb,nk,nr,hn⟩: ∃b k r,mpD thR n= .dmp b k r:=⟨_,_,_,rfl⟩
 simp only[ho,hn] at ff ih⊢
 generalize hfd:coFind n o=fd at*
 repeat' (first|refine ZN ?_|refine Z2 ?_ ?_|(intro h h';try simp[*,-h] at h'))
 refine Ag (n:=l.length) (fun s0 m z=> ∃j g:Nat,l.length - j<=m/\j<=l.length/\z.fr 2= .ptr ⟨0,2,0⟩ 1 0/\z.hp ⟨0,2,0⟩= .box 1 [.dmp ob ok or_,.dmp nb nk nr] false/\z.fr 9= .sl false 5 (exRows l)/\z.fr 10=iv l.length/\z.fr 11=iv j/\z.fr 5= .own ⟨0,5,0⟩ g (coEs fd (l.take j)).length/\z.hp ⟨0,5,0⟩= .arr g 6 309 (cxRows (coEs fd (l.take j))) false) ⟨0,1,Zo,Zo,Zi,Zi,Zi,Zi,Zi,Zi,Zi⟩ ?_
 rintro m ⟨fr,hp⟩ ⟨j,g,hm,hj,f2,b2,fl,fn,fi,f5,a5⟩
 simp only at f2 b2 fl fn fi f5 a5
 by_cases hlt:j<l.length
 ·have e1:(j:Int)<l.length:=Zo
  have hg:l[j]?=some l[j]:=List.getElem?_eq_getElem hlt
  have hwi:IntKind.i64.wrap ((j:Int)+1)=(j:Int)+1:=wrapN Zo
  generalize l[j]=e at*
  have hgt:=Hc hg
  have hst:=B6 hg
  have htk:=Fda (fd:=fd) hg
  have hle:(coEs fd (l.take j)).length<=1048576:=by simp;omega
  generalize coEs fd (l.take j)=S at*
  obtain⟨ek,eo,en,ex,ekids⟩:=e
  simp only[Az] at hgt
  simp only[A2] at hst
  rw[coE_mk] at htk
  have x1:(S.length+1)*64<=140737488355328:=Zo
  have x2:S.length<=9223372036854775806:=Zo
  have x3:=Cwa S
  have fx:=ff ex
  have ik:=ih ekids Zo
  have x4:(cxRows (coEs fd ekids)).take ekids.length=cxRows (coEs fd ekids):=by rw[List.take_of_length_le Zi]
  generalize fd ex=t at*
  obtain⟨ta,tb⟩:=t
  simp only at fx
  have HT:=Lib.hid htk
  have IH:=Lib.hid ih
  have FF:=Lib.hid ff
  clear hg hlt htk ih ff ho hn
  repeat' (first|refine ZN ?_|refine Z2 ?_ ?_|(intro h h';try simp[*,-h] at h'))
  have htk:=HT.out
  exact⟨l.length - (j+1),Zo,j+1,g+1,Zo,Zo,Zm,Zm,Zm,Zm,Zm,by rw[htk];simp[*],by rw[htk];simp[*,Cd]⟩
 ·have e1: ¬(j:Int)<l.length:=Zo
  have hz:l.take j=l:=List.take_of_length_le Zo
  rw[hz] at f5 a5
  have x3:=Cwa (coEs fd l)
  have IH:=Lib.hid ih
  clear ih ho hn
  repeat' (first|refine ZN ?_|refine Z2 ?_ ?_|(intro h h';try simp[*,-h] at h'))
  simp[*]
theorem Qy (o n:List (Tx×Th)): ∀N,N<=1048576-> ∀l:List Sy.Ex,exSize l<=N->(Lm X47).dat 120 [.agg [mpD thR o,mpD thR n],.sl false 5 (exRows l)]=some [.vec 6 (cxRows (coEs (coFind n o) l))]
 |0,h,l,hl=>Qx o n 0 h (fun l h'=>Zo) l hl
 |N+1,h,l,hl=>Qx o n (N+1) h (fun l h'=>Qy o n N Zo l Zo) l hl
theorem Fca (o n:List (Tx×Th))(l:List Sy.Ex)(hl:exSize l<=1048576):(Lm X47).dat 120 [.agg [mpD thR o,mpD thR n],.sl false 5 (exRows l)]=some [.vec 6 (cxRows (coEs (coFind n o) l))]:=Qy o n 1048576 (Nat.le_refl _) l hl
theorem Qu (o n:List (Tx×Th))(N:Nat)(hN:N<=1048576)(ih: ∀l:List Sy.St,stSize l<N->(Lm X47).dat 84 [.agg [mpD thR o,mpD thR n],.sl false 5 (stRows l)]=some [.vec 6 (csRows (coSs (coFind n o) l))])(l:List Sy.St)(hl:stSize l<=N):(Lm X47).dat 84 [.agg [mpD thR o,mpD thR n],.sl false 5 (stRows l)]=some [.vec 6 (csRows (coSs (coFind n o) l))]:=by
 refine fnW (P:=P0) (E:=E47) (X:=X47) Tryz.func84 (An _ _) rfl Foa rfl rtys_84 rvs_84 ?_
 have hlen:l.length<=1048576:=by have:=Cl l;omega
 have ff:=fun s=>V4 o n s
 obtain⟨ob,ok,or_,ho⟩: ∃b k r,mpD thR o= .dmp b k r:=⟨_,_,_,rfl⟩
 obtain⟨nb,nk,nr,hn⟩: ∃b k r,mpD thR n= .dmp b k r:=⟨_,_,_,rfl⟩
 simp only[ho,hn] at ff ih⊢
 generalize hfd:coFind n o=fd at*
 repeat' (first|refine ZN ?_|refine Z2 ?_ ?_|(intro h h';try simp[*,-h] at h'))
 refine Ag (n:=l.length) (fun s0 m z=> ∃j g:Nat,l.length - j<=m/\j<=l.length/\z.fr 2= .ptr ⟨0,2,0⟩ 1 0/\z.hp ⟨0,2,0⟩= .box 1 [.dmp ob ok or_,.dmp nb nk nr] false/\z.fr 9= .sl false 5 (stRows l)/\z.fr 10=iv l.length/\z.fr 11=iv j/\z.fr 5= .own ⟨0,5,0⟩ g (coSs fd (l.take j)).length/\z.hp ⟨0,5,0⟩= .arr g 6 222 (csRows (coSs fd (l.take j))) false) ⟨0,1,Zo,Zo,Zi,Zi,Zi,Zi,Zi,Zi,Zi⟩ ?_
 rintro m ⟨fr,hp⟩ ⟨j,g,hm,hj,f2,b2,fl,fn,fi,f5,a5⟩
 simp only at f2 b2 fl fn fi f5 a5
 by_cases hlt:j<l.length
 ·have e1:(j:Int)<l.length:=Zo
  have hg:l[j]?=some l[j]:=List.getElem?_eq_getElem hlt
  have hwi:IntKind.i64.wrap ((j:Int)+1)=(j:Int)+1:=wrapN Zo
  generalize l[j]=e at*
  have hgt:=Nv hg
  have hst:=Eb hg
  have htk:=E9a (fd:=fd) hg
  have hle:(coSs fd (l.take j)).length<=1048576:=by simp;omega
  generalize coSs fd (l.take j)=S at*
  obtain⟨ek,ex,ee,eth,eel⟩:=e
  simp only[Db] at hgt
  simp only[Cp] at hst
  rw[coS_mk] at htk
  have x1:(S.length+1)*96<=140737488355328:=Zo
  have x2:S.length<=9223372036854775806:=Zo
  have x3:=Cxa S
  have fx:=ff ex
  have ie:=Fca o n ee Zo
  simp only[ho,hn] at ie
  rw[hfd] at ie
  have it:=ih eth Zo
  have il:=ih eel Zo
  have x4:(cxRows (coEs fd ee)).take ee.length=cxRows (coEs fd ee):=by rw[List.take_of_length_le Zi]
  have x5:(csRows (coSs fd eth)).take eth.length=csRows (coSs fd eth):=by rw[List.take_of_length_le Zi]
  have x6:(csRows (coSs fd eel)).take eel.length=csRows (coSs fd eel):=by rw[List.take_of_length_le Zi]
  generalize fd ex=t at*
  obtain⟨ta,tb⟩:=t
  simp only at fx
  have HT:=Lib.hid htk
  have IH:=Lib.hid ih
  have FF:=Lib.hid ff
  clear hg hlt htk ih ff ho hn
  repeat' (first|refine ZN ?_|refine Z2 ?_ ?_|(intro h h';try simp[*,-h] at h'))
  have htk:=HT.out
  exact⟨l.length - (j+1),Zo,j+1,g+1,Zo,Zo,Zm,Zm,Zm,Zm,Zm,by rw[htk];simp[*],by rw[htk];simp[*,L1]⟩
 ·have e1: ¬(j:Int)<l.length:=Zo
  have hz:l.take j=l:=List.take_of_length_le Zo
  rw[hz] at f5 a5
  have x3:=Cxa (coSs fd l)
  have IH:=Lib.hid ih
  clear ih ho hn
  repeat' (first|refine ZN ?_|refine Z2 ?_ ?_|(intro h h';try simp[*,-h] at h'))
  simp[*]
theorem Qv (o n:List (Tx×Th)): ∀N,N<=1048576-> ∀l:List Sy.St,stSize l<=N->(Lm X47).dat 84 [.agg [mpD thR o,mpD thR n],.sl false 5 (stRows l)]=some [.vec 6 (csRows (coSs (coFind n o) l))]
 |0,h,l,hl=>Qu o n 0 h (fun l h'=>Zo) l hl
 |N+1,h,l,hl=>Qu o n (N+1) h (fun l h'=>Qv o n N Zo l Zo) l hl
theorem E8a (o n:List (Tx×Th))(l:List Sy.St)(hl:stSize l<=1048576):(Lm X47).dat 84 [.agg [mpD thR o,mpD thR n],.sl false 5 (stRows l)]=some [.vec 6 (csRows (coSs (coFind n o) l))]:=Qv o n 1048576 (Nat.le_refl _) l hl
theorem Ei {T:Type}{m l:List (Tx×T)}{x:Tx×T}(h:((m++x::l).map (·.1)).Nodup):Sy.look m x.1=none:=by
 cases hl:Sy.look m x.1 with
 |none=>rfl
 |some t=>
  rw[List.map_append,List.nodup_append] at h
  exact(h.2.2 x.1 (List.mem_map.2 ⟨_,Ej hl,rfl⟩) x.1 Zi rfl).elim
theorem Ff {α β:Type}(f:Int->α->β): ∀(l:List α) (n i:Nat) {a:α},l[i]?=some a->num f n l=num f n (l.take i)++f ((n+i:Nat):Int) a::num f (n+i+1) (l.drop (i+1))
 |[],n,i,a,h=>by simp at h
 |x::l,n,0,a,h=>by
  simp only[List.getElem?_cons_zero,Option.some.injEq] at h
  subst h
  simp[num]
 |x::l,n,i+1,a,h=>by
  have:=Ff f l (n+1) i (a:=a) (by simpa using h)
  simp only[num,List.take_succ_cons,List.drop_succ_cons,List.cons_append]
  rw[this,show n+1+i=n+(i+1) from Zo]
theorem Ri : ∀(l:List (Tx×Int)) (w:Int) (i:Nat) {a:Tx×Int},l[i]?=some a->arL w l=arL w (l.take i)++(a.1,(w+arW (l.take i),a.2))::arL (w+arW (l.take i)+a.2) (l.drop (i+1))
 |[],w,i,a,h=>by simp at h
 |x::l,w,0,a,h=>by
  simp only[List.getElem?_cons_zero,Option.some.injEq] at h
  subst h
  simp[arL,arW]
 |x::l,w,i+1,a,h=>by
  have:=Ri l (w+x.2) i (a:=a) (by simpa using h)
  simp only[arL,arW,List.take_succ_cons,List.drop_succ_cons,List.cons_append]
  rw[this,Int.add_assoc w x.2]
theorem Wc : ∀(l:List (Tx×Int)) (w:Int) (i:Nat) {a:Tx×Int},l[i]?=some a->arL w (l.take (i+1))=arL w (l.take i)++[(a.1,(w+arW (l.take i),a.2))]
 |[],w,i,a,h=>by simp at h
 |x::l,w,0,a,h=>by
  simp only[List.getElem?_cons_zero,Option.some.injEq] at h
  subst h
  simp[arL,arW]
 |x::l,w,i+1,a,h=>by
  have:=Wc l (w+x.2) i (a:=a) (by simpa using h)
  simp only[arL,arW,List.take_succ_cons,List.cons_append]
  rw[this,Int.add_assoc w x.2]
theorem Wb : ∀(l:List (Tx×Int)) (i:Nat) {a:Tx×Int},l[i]?=some a->arW (l.take (i+1))=arW (l.take i)+a.2
 |[],i,a,h=>by simp at h
 |x::l,0,a,h=>by
  simp only[List.getElem?_cons_zero,Option.some.injEq] at h
  subst h
  simp[arW]
 |x::l,i+1,a,h=>by
  have:=Wb l i (a:=a) (by simpa using h)
  simp only[arW,List.take_succ_cons]
  omega
theorem Bra : ∀(l:List (Tx×Int)),(∀a∈l,1<=a.2/\a.2<=4096)->0<=arW l/\arW l<=4096*l.length
 |[],h=>by simp[arW]
 |x::l,h=>by
  have:=Bra l (fun a ha=>h a (List.mem_cons_of_mem _ ha))
  have:=h x (List.mem_cons_self ..)
  simp only[arW,List.length_cons]
  omega
theorem V2 (vs:List Tx)(ar:List (Tx×Int))(fs:List Fu)(hs:vs.length+ar.length+fuSize fs<=1048576)(har: ∀a∈ar,1<=a.2/\a.2<=4096)(hn:((coOutL ⟨vs,ar,fs⟩).map (·.1)).Nodup):(Lm X47).dat 83 [.agg [.sl false 1 (txRows vs),.sl false 2 (arRows ar),.sl false 5 (fs.map Fu.row)]]=some [mpD thR (coOutL ⟨vs,ar,fs⟩),iv (coOutW ⟨vs,ar,fs⟩)]:=by
 refine fnW (P:=P0) (E:=E47) (X:=X47) Tryz.func83 (An _ _) rfl Fpa rfl rtys_83 rvs_83 ?_
 unfold coOutL at hn⊢
 unfold coOutW
 simp only at hn⊢
 have hfl:=Bn fs
 repeat' (first|refine ZN ?_|refine Z2 ?_ ?_|(intro h h';try simp[*,-h] at h'))
 refine Ag (n:=vs.length) (fun s0 m z=> ∃i:Nat,vs.length - i<=m/\i<=vs.length/\z.fr 1= .ptr ⟨0,1,0⟩ 1 0/\z.hp ⟨0,1,0⟩= .box 1 [.sl false 1 (txRows vs),.sl false 2 (arRows ar),.sl false 5 (fs.map Fu.row)] false/\z.fr 4= .mp ⟨0,12,0⟩ 1/\z.fr 5=iv ((i:Int))/\z.fr 14= .sl false 1 (txRows vs)/\z.fr 15=iv vs.length/\z.fr 16=iv i/\z.hp ⟨0,12,0⟩=mpO thR 1 (num (fun i (s:Tx)=>(s,(i,(0:Int)))) 0 (vs.take i))) ⟨0,Zo,Zo,Zm,Zm,Zm,by simp[*,arW],Zm,by simp[*,arRows],Zi,(by first|(simp[*,num,arL];done)|(simp[*,num,arL];rfl))⟩ ?_
 rintro m ⟨fr,hp⟩ ⟨i,hm,hi,f1,b1,f4,f5,fl_,fn_,fi_,hq⟩
 simp only at f1 b1 f4 f5 fl_ fn_ fi_ hq
 by_cases hlt:i<vs.length
 ·have e1:(i:Int)<vs.length:=Zo
  have hg:vs[i]?=some vs[i]:=List.getElem?_eq_getElem hlt
  have hwi:IntKind.i64.wrap ((i:Int)+1)=(i:Int)+1:=wrapN Zo
  generalize vs[i]=t at*
  have hgt:=Ld hg
  have hpl:vs.length<=1048576:=Zo
  have hsp:=Ff (fun i (s:Tx)=>(s,(i,(0:Int)))) vs 0 i hg
  have hnt:=Cu (fun i (s:Tx)=>(s,(i,(0:Int)))) 0 vs i hg
  rw[hsp,List.append_assoc,List.append_assoc,List.cons_append] at hn
  have hlk:=Ei hn
  simp only at hlk
  have k1:=Bh hlk 0
  have hmk:=Bm (num (fun i (s:Tx)=>(s,(i,(0:Int)))) 0 (vs.take i))
  have hsn:=Df thR 1 (num (fun i (s:Tx)=>(s,(i,(0:Int)))) 0 (vs.take i)) (t,(((0+i:Nat):Int),(0:Int)))
  unfold mpO at hq
  obtain⟨ks,hks⟩: ∃ks,mKeys (num (fun i (s:Tx)=>(s,(i,(0:Int)))) 0 (vs.take i))=ks:=⟨_,rfl⟩
  obtain⟨ag,hag⟩: ∃ag,(!(num (fun i (s:Tx)=>(s,(i,(0:Int)))) 0 (vs.take i)).isEmpty)=ag:=⟨_,rfl⟩
  obtain⟨rs,hrs⟩: ∃rs,mRows thR (num (fun i (s:Tx)=>(s,(i,(0:Int)))) 0 (vs.take i))=rs:=⟨_,rfl⟩
  rw[hks] at hmk k1 hq hsn
  rw[hag] at hmk hq
  rw[hrs] at hq hsn
  clear hks hag hrs hlk hn hsp
  have HS:=Lib.hid hsn
  have HT:=Lib.hid hnt
  clear hsn hnt hg hlt
  repeat' (first|refine ZN ?_|refine Z2 ?_ ?_|(intro h h';try simp[*,-h] at h'))
  have hsn:=HS.out
  have hnt:=HT.out
  exact⟨vs.length - (i+1),Zo,i+1,Zo,Zo,Zm,Zm,Zm,Zm,Zm,Zm,Zm,by rw[hnt,hsn];simp[*,thR]⟩
 have e1: ¬(i:Int)<vs.length:=Zo
 have hz:vs.take i=vs:=List.take_of_length_le Zo
 rw[hz] at hq
 have hi2:i=vs.length:=Zo
 subst hi2
 clear hz
 repeat' (first|refine ZN ?_|refine Z2 ?_ ?_|(intro h h';try simp[*,-h] at h'))
 refine Ag (n:=ar.length) (fun s0 m z=> ∃i:Nat,ar.length - i<=m/\i<=ar.length/\z.fr 1= .ptr ⟨0,1,0⟩ 1 0/\z.hp ⟨0,1,0⟩= .box 1 [.sl false 1 (txRows vs),.sl false 2 (arRows ar),.sl false 5 (fs.map Fu.row)] false/\z.fr 4= .mp ⟨0,12,0⟩ 1/\z.fr 5=iv ((vs.length:Int)+arW (ar.take i))/\z.fr 28= .sl false 2 (arRows ar)/\z.fr 29=iv ar.length/\z.fr 30=iv i/\z.hp ⟨0,12,0⟩=mpO thR 1 (num (fun i (s:Tx)=>(s,(i,(0:Int)))) 0 vs++arL vs.length (ar.take i))) ⟨0,Zo,Zo,Zm,Zm,Zm,by simp[*,arW],Zm,by simp[*,arRows],Zi,(by first|(simp[*,num,arL];done)|(simp[*,num,arL];rfl))⟩ ?_
 rintro m ⟨fr,hp⟩ ⟨i,hm,hi,f1,b1,f4,f5,fl_,fn_,fi_,hq⟩
 simp only at f1 b1 f4 f5 fl_ fn_ fi_ hq
 by_cases hlt:i<ar.length
 ·have e1:(i:Int)<ar.length:=Zo
  have hg:ar[i]?=some ar[i]:=List.getElem?_eq_getElem hlt
  have hwi:IntKind.i64.wrap ((i:Int)+1)=(i:Int)+1:=wrapN Zo
  generalize ar[i]=t at*
  have hgt:=Bqa hg
  have hpl:ar.length<=1048576:=Zo
  have hsp:=Ri ar vs.length i hg
  have hnt:=Wc ar vs.length i hg
  have hwt:=Wb ar i hg
  have hb1:=Bra (ar.take i) (fun a ha=>har a (List.mem_of_mem_take ha))
  have hb2:=har _ (List.mem_of_getElem? hg)
  rw[hsp] at hn
  simp only[List.append_assoc,List.cons_append] at hn
  rw[<-List.append_assoc] at hn
  obtain⟨t1,t2⟩:=t
  have hlk:=Ei hn
  have hw3:IntKind.i64.wrap ((vs.length:Int)+arW (ar.take i)+t2)=(vs.length:Int)+arW (ar.take i)+t2:=Ad (by simp at hb1 hb2;omega) (by simp at hb1 hb2;omega)
  clear hb1 hb2
  simp only at hlk
  have k1:=Bh hlk 0
  have hmk:=Bm (num (fun i (s:Tx)=>(s,(i,(0:Int)))) 0 vs++arL vs.length (ar.take i))
  have hsn:=Df thR 1 (num (fun i (s:Tx)=>(s,(i,(0:Int)))) 0 vs++arL vs.length (ar.take i)) (t1,((vs.length:Int)+arW (ar.take i),t2))
  unfold mpO at hq
  obtain⟨ks,hks⟩: ∃ks,mKeys (num (fun i (s:Tx)=>(s,(i,(0:Int)))) 0 vs++arL vs.length (ar.take i))=ks:=⟨_,rfl⟩
  obtain⟨ag,hag⟩: ∃ag,(!(num (fun i (s:Tx)=>(s,(i,(0:Int)))) 0 vs++arL vs.length (ar.take i)).isEmpty)=ag:=⟨_,rfl⟩
  obtain⟨rs,hrs⟩: ∃rs,mRows thR (num (fun i (s:Tx)=>(s,(i,(0:Int)))) 0 vs++arL vs.length (ar.take i))=rs:=⟨_,rfl⟩
  rw[hks] at hmk k1 hq hsn
  rw[hag] at hmk hq
  rw[hrs] at hq hsn
  clear hks hag hrs hlk hn hsp
  have HS:=Lib.hid hsn
  have HT:=Lib.hid hnt
  have HW:=Lib.hid hwt
  clear hwt
  clear hsn hnt hg hlt
  repeat' (first|refine ZN ?_|refine Z2 ?_ ?_|(intro h h';try simp[*,-h] at h'))
  have hsn:=HS.out
  have hnt:=HT.out
  have hwt:=HW.out
  exact⟨ar.length - (i+1),Zo,i+1,Zo,Zo,Zm,Zm,Zm,by rw[hwt];simp[*,Int.add_assoc],Zm,Zm,Zm,by rw[hnt,<-List.append_assoc,hsn];simp[*,thR]⟩
 have e1: ¬(i:Int)<ar.length:=Zo
 have hz:ar.take i=ar:=List.take_of_length_le Zo
 rw[hz] at hq f5
 have hi2:i=ar.length:=Zo
 clear hi2
 clear hz
 repeat' (first|refine ZN ?_|refine Z2 ?_ ?_|(intro h h';try simp[*,-h] at h'))
 refine Ag (n:=fs.length) (fun s0 m z=> ∃i:Nat,fs.length - i<=m/\i<=fs.length/\z.fr 1= .ptr ⟨0,1,0⟩ 1 0/\z.hp ⟨0,1,0⟩= .box 1 [.sl false 1 (txRows vs),.sl false 2 (arRows ar),.sl false 5 (fs.map Fu.row)] false/\z.fr 4= .mp ⟨0,12,0⟩ 1/\z.fr 5=iv ((vs.length:Int)+arW ar)/\z.fr 47= .sl false 5 (fs.map Fu.row)/\z.fr 48=iv fs.length/\z.fr 49=iv i/\z.hp ⟨0,12,0⟩=mpO thR 1 (num (fun i (s:Tx)=>(s,(i,(0:Int)))) 0 vs++arL vs.length ar++num (fun i (f:Fu)=>(f.name,(i,(0:Int)))) 0 (fs.take i))) ⟨0,Zo,Zo,Zm,Zm,Zm,by simp[*,arW],Zm,by simp[*,arRows],Zi,(by first|(simp[*,num,arL];done)|(simp[*,num,arL];rfl))⟩ ?_
 rintro m ⟨fr,hp⟩ ⟨i,hm,hi,f1,b1,f4,f5,fl_,fn_,fi_,hq⟩
 simp only at f1 b1 f4 f5 fl_ fn_ fi_ hq
 by_cases hlt:i<fs.length
 ·have e1:(i:Int)<fs.length:=Zo
  have hg:fs[i]?=some fs[i]:=List.getElem?_eq_getElem hlt
  have hwi:IntKind.i64.wrap ((i:Int)+1)=(i:Int)+1:=wrapN Zo
  generalize fs[i]=t at*
  have hgt:=Fa hg
  have hpl:fs.length<=1048576:=Zo
  have hsp:=Ff (fun i (f:Fu)=>(f.name,(i,(0:Int)))) fs 0 i hg
  have hnt:=Cu (fun i (f:Fu)=>(f.name,(i,(0:Int)))) 0 fs i hg
  rw[hsp,<-List.append_assoc] at hn
  obtain⟨t1,t2,t3,t4,t5⟩:=t
  simp only[A3] at hgt
  have hlk:=Ei hn
  simp only at hlk
  have k1:=Bh hlk 0
  have hmk:=Bm (num (fun i (s:Tx)=>(s,(i,(0:Int)))) 0 vs++arL vs.length ar++num (fun i (f:Fu)=>(f.name,(i,(0:Int)))) 0 (fs.take i))
  have hsn:=Df thR 1 (num (fun i (s:Tx)=>(s,(i,(0:Int)))) 0 vs++arL vs.length ar++num (fun i (f:Fu)=>(f.name,(i,(0:Int)))) 0 (fs.take i)) (t1,(((0+i:Nat):Int),(0:Int)))
  unfold mpO at hq
  obtain⟨ks,hks⟩: ∃ks,mKeys (num (fun i (s:Tx)=>(s,(i,(0:Int)))) 0 vs++arL vs.length ar++num (fun i (f:Fu)=>(f.name,(i,(0:Int)))) 0 (fs.take i))=ks:=⟨_,rfl⟩
  obtain⟨ag,hag⟩: ∃ag,(!(num (fun i (s:Tx)=>(s,(i,(0:Int)))) 0 vs++arL vs.length ar++num (fun i (f:Fu)=>(f.name,(i,(0:Int)))) 0 (fs.take i)).isEmpty)=ag:=⟨_,rfl⟩
  obtain⟨rs,hrs⟩: ∃rs,mRows thR (num (fun i (s:Tx)=>(s,(i,(0:Int)))) 0 vs++arL vs.length ar++num (fun i (f:Fu)=>(f.name,(i,(0:Int)))) 0 (fs.take i))=rs:=⟨_,rfl⟩
  rw[hks] at hmk k1 hq hsn
  rw[hag] at hmk hq
  rw[hrs] at hq hsn
  clear hks hag hrs hlk hn hsp
  have HS:=Lib.hid hsn
  have HT:=Lib.hid hnt
  clear hsn hnt hg hlt
  repeat' (first|refine ZN ?_|refine Z2 ?_ ?_|(intro h h';try simp[*,-h] at h'))
  have hsn:=HS.out
  have hnt:=HT.out
  exact⟨fs.length - (i+1),Zo,i+1,Zo,Zo,Zm,Zm,Zm,Zm,Zm,Zm,Zm,by rw[hnt,<-List.append_assoc,hsn];simp[*,thR]⟩
 have e1: ¬(i:Int)<fs.length:=Zo
 have hz:fs.take i=fs:=List.take_of_length_le Zo
 rw[hz] at hq
 have hi2:i=fs.length:=Zo
 clear hi2
 clear hz
 generalize (num (fun i (s:Tx)=>(s,(i,(0:Int)))) 0 vs++arL vs.length ar++num (fun i (f:Fu)=>(f.name,(i,(0:Int)))) 0 fs)=PF at*
 unfold mpO at hq
 exact ZS
theorem Vh {nb:Tx->Bool}{p:Sy.Pr}(h:soundS nb p=0):((coOutL p).map (·.1)).Nodup/\ ∀(i:Nat) (f:Fu),p.funcs[i]?=some f-> ∀w,((coInL w f).map (·.1)).Nodup:=by
 obtain⟨hr,hs,ht⟩:=Eu h
 unfold scopeS at hs
 have hs1:(fnsStep p 0 p.funcs ((outM p).2,true)).1=true:=by
  cases hq:(fnsStep p 0 p.funcs ((outM p).2,true)).1
  ·rw[if_pos hq] at hs;cases hs
  ·rfl
 rw[if_neg (by rw[hs1];simp)] at hs
 have hs2:(fnsStep p 0 p.funcs ((outM p).2,true)).2=true:=by
  cases hq:(fnsStep p 0 p.funcs ((outM p).2,true)).2
  ·rw[if_pos (.inl hq)] at hs;cases hs
  ·rfl
 obtain⟨⟨o1,_⟩,hfn⟩:=G8 hs1 hs2
 obtain⟨_,oM,oN⟩:=Dk (l:=outL p) (m:=([],true)) Zi o1
 simp only[List.nil_append] at oM oN
 refine⟨by rw[F0,<-Ef];exact oN,fun i f hf w=>?_⟩
 obtain⟨s',n1,n2⟩:=hfn i f hf
 have hin:(inM f).2=true:=by
  have:=useAll_mono.1 n1
  simp only[Bool.and_eq_true] at this
  exact this.2
 obtain⟨_,iM,iN⟩:=Dk (l:=inL f) (m:=([],true)) Zi hin
 simp only[List.nil_append] at iM iN
 rw[Hf,<-Lp]
 exact iN
theorem Qw (out:List (Tx×Th)): ∀(l:List Fu) (w:Int) (j:Nat) {f:Fu},l[j]?=some f->coFs out w (l.take (j+1))=coFs out w (l.take j)++[coF out (w+coW (l.take j)) f]
 |[],w,j,f,h=>by simp at h
 |x::l,w,0,f,h=>by
  simp only[List.getElem?_cons_zero,Option.some.injEq] at h
  subst h
  simp[coFs,coW]
 |x::l,w,j+1,f,h=>by
  have:=Qw out l (w+slotsOf x) j (f:=f) (by simpa using h)
  simp only[coFs,coW,List.take_succ_cons,List.cons_append]
  rw[this,Int.add_assoc]
theorem V1 : ∀(l:List Fu) (j:Nat) {f:Fu},l[j]?=some f->coW (l.take (j+1))=coW (l.take j)+slotsOf f
 |[],j,f,h=>by simp at h
 |x::l,0,f,h=>by
  simp only[List.getElem?_cons_zero,Option.some.injEq] at h
  subst h
  simp[coW]
 |x::l,j+1,f,h=>by
  have:=V1 l j (f:=f) (by simpa using h)
  simp only[coW,List.take_succ_cons]
  omega
theorem X9 : ∀(l:List Fu),0<=coW l/\coW l<=fuSize l
 |[]=>by simp[coW]
 |x::l=>by
  have:=X9 l
  simp only[coW,Mm,Sy.slotsOf,Sy.Fu.size]
  omega
theorem V0 (l:List Fu)(j:Nat):0<=coW (l.take j)/\coW (l.take j)<=fuSize l:=by
 have h1:=X9 (l.take j)
 have h2:fuSize (l.take j)<=fuSize l:=by
  conv=>rhs;rw[<-List.take_append_drop j l,J1]
  omega
 omega
theorem K1 (out:List (Tx×Th)): ∀(l:List Fu) (w:Int),(coFs out w l).length=l.length
 |[],_=>rfl
 |x::l,w=>by simp[coFs,K1 out l]
theorem P5 {T:Type}{l:List (Tx×T)}(h:(l.map (·.1)).Nodup):setAll l []=l:=by
 have:=Dv (l:=l) (m:=[]) (by simpa using h)
 simpa using this
theorem cf_take (l:List Cf):(l.map Cf.row).take l.length=l.map Cf.row:=by rw[List.take_of_length_le Zi]
theorem Mda (vs:List Tx)(ar:List (Tx×Int))(fs:List Fu)(hs:vs.length+ar.length+fuSize fs<=20000)(h0:soundS nbT ⟨vs,ar,fs⟩≠0):(Lm X47).dat 49 [.agg [.sl false 1 (txRows vs),.sl false 2 (arRows ar),.sl false 5 (fs.map Fu.row)]]=some [.agg [iv 0,.vec 5 []],iv (soundS nbT ⟨vs,ar,fs⟩)]:=by
 refine fnW (P:=P0) (E:=E47) (X:=X47) Tryz.func49 (An _ _) rfl Rc rfl B8a rvs_49 ?_
 have hsd:=C6a vs ar fs Zo
 generalize soundS nbT ⟨vs,ar,fs⟩=e at*
 exact ZS
theorem Fba (vs:List Tx)(ar:List (Tx×Int))(fs:List Fu)(hs:vs.length+ar.length+fuSize fs<=20000)(h0:soundS nbT ⟨vs,ar,fs⟩=0):(Lm X47).dat 49 [.agg [.sl false 1 (txRows vs),.sl false 2 (arRows ar),.sl false 5 (fs.map Fu.row)]]=some (if 32768<coWords ⟨vs,ar,fs⟩ then[.agg [iv 0,.vec 5 []],iv 2] else[.agg [iv (coWords ⟨vs,ar,fs⟩),.vec 5 ((coreS ⟨vs,ar,fs⟩).funcs.map Cf.row)],iv 0]):=by
 refine fnW (P:=P0) (E:=E47) (X:=X47) Tryz.func49 (An _ _) rfl Rc rfl B8a rvs_49 ?_
 have hsd:=C6a vs ar fs Zo
 obtain⟨hn,hin⟩:=Vh h0
 have hr:=(Eu h0).1
 have har: ∀a∈ar,1<=a.2/\a.2<=4096:=by
  intro a ha
  rw[rP_mk] at hr
  simp only[Bool.and_eq_true,List.all_eq_true] at hr
  have:=hr.1.2 a ha
  obtain⟨a1,a2⟩:=a
  rw[rA_mk] at this
  simp only[Bool.and_eq_true,decide_eq_true_eq] at this
  exact⟨this.1.2,this.2⟩
 have hgl:=V2 vs ar fs Zo har hn
 have hout:=P5 hn
 have hab:=Bra ar har
 have hW:0<=coOutW ⟨vs,ar,fs⟩/\coOutW ⟨vs,ar,fs⟩<=90000000:=by unfold coOutW;simp only;omega
 have hfl:=Bn fs
 have hcw:coWords ⟨vs,ar,fs⟩=coOutW ⟨vs,ar,fs⟩+coW fs:=rfl
 have hcs:(coreS ⟨vs,ar,fs⟩).funcs=coFs (coOutL ⟨vs,ar,fs⟩) (coOutW ⟨vs,ar,fs⟩) fs:=by show coFs (setAll (coOutL ⟨vs,ar,fs⟩) []) _ _=_;rw[hout]
 rw[h0] at hsd
 rw[hcw,hcs]
 simp only at hin
 generalize coOutL ⟨vs,ar,fs⟩=out at*
 generalize coOutW ⟨vs,ar,fs⟩=w0 at*
 obtain⟨ob,ok,or_,ho⟩: ∃b k r,mpD thR out= .dmp b k r:=⟨_,_,_,rfl⟩
 rw[ho] at hgl
 clear hr har hab hn hout hcw hcs h0
 repeat' (first|refine ZN ?_|refine Z2 ?_ ?_|(intro h h';try simp[*,-h] at h'))
 refine Ag (n:=fs.length) (fun s0 m z=> ∃j g:Nat,fs.length - j<=m/\j<=fs.length/\z.fr 1= .ptr ⟨0,1,0⟩ 1 0/\z.fr 2= .ptr ⟨0,2,0⟩ 1 0/\z.fr 5= .dmp ob ok or_/\z.fr 7= .ptr ⟨0,7,0⟩ 1 0/\z.fr 28= .sl false 5 (fs.map Fu.row)/\z.fr 29=iv fs.length/\z.fr 30=iv j/\z.fr 6=iv (w0+coW (fs.take j))/\z.hp ⟨0,1,0⟩= .box 1 [.sl false 1 (txRows vs),.sl false 2 (arRows ar),.sl false 5 (fs.map Fu.row)] false/\z.hp ⟨0,2,0⟩= .box 1 [iv 0,.own ⟨0,2,2⟩ 1 0] false/\z.hp ⟨0,2,2⟩= .arr 1 5 163 [] false/\z.hp ⟨0,7,0⟩= .box 1 [iv 0,.own ⟨0,7,2⟩ g (coFs out w0 (fs.take j)).length] false/\z.hp ⟨0,7,2⟩= .arr g 5 163 ((coFs out w0 (fs.take j)).map Cf.row) false) ⟨0,1,Zo,Zo,by simp[coW,coFs],by simp[coW,coFs],by simp[coW,coFs],by simp[coW,coFs],by simp[coW,coFs],by simp[coW,coFs],by simp[coW,coFs],by simp[coW,coFs],by simp[coW,coFs],by simp[coW,coFs],by simp[coW,coFs],by simp[coW,coFs],by simp[coW,coFs]⟩ ?_
 rintro m ⟨fr,hp⟩ ⟨j,g,hm,hj,F1,F2,F5,F7,F28,F29,F30,F6,H0,H1,H2,H3,H4⟩
 simp only at F1 F2 F5 F7 F28 F29 F30 F6 H0 H1 H2 H3 H4
 have hcj:=V0 fs j
 by_cases hlt:j<fs.length
 ·have e1:(j:Int)<fs.length:=Zo
  have hg:fs[j]?=some fs[j]:=List.getElem?_eq_getElem hlt
  have hwj:IntKind.i64.wrap ((j:Int)+1)=(j:Int)+1:=wrapN Zo
  generalize fs[j]=t at*
  have hgt:=Fa hg
  have hst:=C8 hg
  have hft:=Qw out fs w0 j hg
  have hwt:=V1 fs j hg
  have hnd:=hin j t hg (w0+coW (fs.take j))
  have hls:(coFs out w0 (fs.take j)).length=j:=by rw[K1,List.length_take];omega
  generalize coFs out w0 (fs.take j)=S at*
  generalize coW (fs.take j)=cw at*
  obtain⟨t1,ps,ls,t4,t5⟩:=t
  simp only[A3] at hgt
  simp only[Bp] at hst
  simp only[Sy.slotsOf] at hwt
  obtain⟨W,hW2⟩: ∃W,W=w0+cw:=⟨_,rfl⟩
  have hWb:0<=W/\W<=90020000:=Zo
  rw[<-hW2] at F6 hft hnd
  have hsl:IntKind.i64.wrap ((ps.length:Int)+ls.length)=(ps.length:Int)+ls.length:=Ad Zo Zo
  have HI:=Lib.hid hin
  have HF:=Lib.hid hft
  have HWt:=Lib.hid hwt
  have HND:=Lib.hid hnd
  have HLS:=Lib.hid hls
  have HW2:=Lib.hid hW2
  clear hin hft hwt hnd hg hlt hls hW2
  repeat' (first|refine ZN ?_|refine Z2 ?_ ?_|(intro h h';try simp[*,-h] at h'))
  generalize hg9:(hp ⟨0,9,0⟩).gen+1=g9 at*
  generalize hg10:(hp ⟨0,10,0⟩).gen+1=g10 at*
  generalize hgm:(hp ⟨0,35,0⟩).gen+1=gm at*
  clear hg9 hg10 hgm
  refine Ag (n:=ps.length) (fun s0 m2 z=> ∃i:Nat,ps.length - i<=m2/\i<=ps.length/\z.fr 1= .ptr ⟨0,1,0⟩ 1 0/\z.fr 2= .ptr ⟨0,2,0⟩ 1 0/\z.fr 5= .dmp ob ok or_/\z.fr 7= .ptr ⟨0,7,0⟩ 1 0/\z.fr 28= .sl false 5 (fs.map Fu.row)/\z.fr 29=iv fs.length/\z.fr 30=iv j/\z.fr 6=iv (W)/\z.fr 9= .ptr ⟨0,9,0⟩ g9 0/\z.fr 10= .ptr ⟨0,10,0⟩ g10 0/\z.fr 11=iv ((ps.length:Int)+ls.length)/\z.fr 45= .sl false 1 (txRows ps)/\z.fr 46=iv ps.length/\z.fr 47=iv i/\z.hp ⟨0,1,0⟩= .box 1 [.sl false 1 (txRows vs),.sl false 2 (arRows ar),.sl false 5 (fs.map Fu.row)] false/\z.hp ⟨0,2,0⟩= .box 1 [iv 0,.own ⟨0,2,2⟩ 1 0] false/\z.hp ⟨0,2,2⟩= .arr 1 5 163 [] false/\z.hp ⟨0,7,0⟩= .box 1 [iv 0,.own ⟨0,7,2⟩ g (S).length] false/\z.hp ⟨0,7,2⟩= .arr g 5 163 ((S).map Cf.row) false/\z.hp ⟨0,9,0⟩= .box g9 [tz t1.val,.sl false 1 (txRows ps),.sl false 1 (txRows ls),bz t4,.sl false 5 (stRows t5)] false/\z.hp ⟨0,10,0⟩= .box g10 [.dmp ob ok or_,.mp ⟨0,35,0⟩ gm] false/\z.hp ⟨0,35,0⟩=mpO thR gm (num (fun i (s:Tx)=>(s,(W+i,(0:Int)))) 0 (ps.take i))) ⟨0,Zo,Zo,Zm,Zm,Zm,Zm,Zm,Zm,Zm,Zm,Zm,Zm,Zm,Zm,Zm,Zm,Zm,Zm,Zm,Zm,Zm,Zm,Zm,(by first|(simp[*,num];done)|(simp[*,num];rfl))⟩ ?_
  rintro m2' ⟨fr',hp'⟩ ⟨i',hm2',hi',F1',F2',F5',F7',F28',F29',F30',F6',F9',F10',F11',F45',F46',F47',H0',H1',H2',H3',H4',H5',H6',H7'⟩
  simp only at F1' F2' F5' F7' F28' F29' F30' F6' F9' F10' F11' F45' F46' F47' H0' H1' H2' H3' H4' H5' H6' H7'
  clear F1 F2 F5 F7 F28 F29 F30 F6 H0 H1 H2 H3 H4
  by_cases hlt':i'<ps.length
  ·have e2:(i':Int)<ps.length:=Zo
   have hg:ps[i']?=some ps[i']:=List.getElem?_eq_getElem hlt'
   have hwi:IntKind.i64.wrap ((i':Int)+1)=(i':Int)+1:=wrapN Zo
   generalize ps[i']=s at*
   have hgt2:=Ld hg
   have hnt:=Cu (fun i (s:Tx)=>(s,(W+i,(0:Int)))) 0 ps i' hg
   have hsp:=Ff (fun i (s:Tx)=>(s,(W+i,(0:Int)))) ps 0 i' hg
   have hnd:=HND.out
   unfold coInL at hnd
   simp only[Kr,Nat.zero_add] at hnd
   rw[hsp,List.append_assoc,List.cons_append] at hnd
   have hlk:=Ei hnd
   simp only at hlk
   have k1:=Bh hlk 0
   have hmk:=Bm (num (fun i (s:Tx)=>(s,(W+i,(0:Int)))) 0 (ps.take i'))
   have hsn:=Df thR gm (num (fun i (s:Tx)=>(s,(W+i,(0:Int)))) 0 (ps.take i')) (s,(W+((0+i':Nat):Int),(0:Int)))
   have hadd:IntKind.i64.wrap (W+i')=W+i':=Ad Zo Zo
   have hadd2:IntKind.i64.wrap (W+ps.length+i')=W+ps.length+i':=Ad Zo Zo
   have hq:=H7'
   clear H7'
   unfold mpO at hq
   obtain⟨ks,hks⟩: ∃ks,mKeys (num (fun i (s:Tx)=>(s,(W+i,(0:Int)))) 0 (ps.take i'))=ks:=⟨_,rfl⟩
   obtain⟨ag,hag⟩: ∃ag,(!(num (fun i (s:Tx)=>(s,(W+i,(0:Int)))) 0 (ps.take i')).isEmpty)=ag:=⟨_,rfl⟩
   obtain⟨rs,hrs⟩: ∃rs,mRows thR (num (fun i (s:Tx)=>(s,(W+i,(0:Int)))) 0 (ps.take i'))=rs:=⟨_,rfl⟩
   rw[hks] at hmk k1 hq hsn
   rw[hag] at hmk hq
   rw[hrs] at hq hsn
   have HS:=Lib.hid hsn
   have HT:=Lib.hid hnt
   clear hks hag hrs hlk hnd hsp hsn hnt hg hlt'
   repeat' (first|refine ZN ?_|refine Z2 ?_ ?_|(intro h h';try simp[*,-h] at h'))
   have hsn:=HS.out
   have hnt:=HT.out
   exact⟨ps.length - (i'+1),Zo,i'+1,Zo,Zo,Zm,Zm,Zm,Zm,Zm,Zm,Zm,Zm,Zm,Zm,Zm,Zm,Zm,Zm,Zm,Zm,Zm,Zm,Zm,Zm,Zm,by rw[hnt,hsn];simp[*,thR,Int.add_assoc]⟩
  have e2': ¬(i':Int)<ps.length:=Zo
  have hz':ps.take i'=ps:=List.take_of_length_le Zo
  rw[hz'] at H7'
  clear hz'
  repeat' (first|refine ZN ?_|refine Z2 ?_ ?_|(intro h h';try simp[*,-h] at h'))
  refine Ag (n:=ls.length) (fun s0 m2 z=> ∃i:Nat,ls.length - i<=m2/\i<=ls.length/\z.fr 1= .ptr ⟨0,1,0⟩ 1 0/\z.fr 2= .ptr ⟨0,2,0⟩ 1 0/\z.fr 5= .dmp ob ok or_/\z.fr 7= .ptr ⟨0,7,0⟩ 1 0/\z.fr 28= .sl false 5 (fs.map Fu.row)/\z.fr 29=iv fs.length/\z.fr 30=iv j/\z.fr 6=iv (W)/\z.fr 9= .ptr ⟨0,9,0⟩ g9 0/\z.fr 10= .ptr ⟨0,10,0⟩ g10 0/\z.fr 11=iv ((ps.length:Int)+ls.length)/\z.fr 61= .sl false 1 (txRows ls)/\z.fr 62=iv ls.length/\z.fr 63=iv i/\z.hp ⟨0,1,0⟩= .box 1 [.sl false 1 (txRows vs),.sl false 2 (arRows ar),.sl false 5 (fs.map Fu.row)] false/\z.hp ⟨0,2,0⟩= .box 1 [iv 0,.own ⟨0,2,2⟩ 1 0] false/\z.hp ⟨0,2,2⟩= .arr 1 5 163 [] false/\z.hp ⟨0,7,0⟩= .box 1 [iv 0,.own ⟨0,7,2⟩ g (S).length] false/\z.hp ⟨0,7,2⟩= .arr g 5 163 ((S).map Cf.row) false/\z.hp ⟨0,9,0⟩= .box g9 [tz t1.val,.sl false 1 (txRows ps),.sl false 1 (txRows ls),bz t4,.sl false 5 (stRows t5)] false/\z.hp ⟨0,10,0⟩= .box g10 [.dmp ob ok or_,.mp ⟨0,35,0⟩ gm] false/\z.hp ⟨0,35,0⟩=mpO thR gm (num (fun i (s:Tx)=>(s,(W+i,(0:Int)))) 0 ps++num (fun i (s:Tx)=>(s,(W+i,(0:Int)))) ps.length (ls.take i))) ⟨0,Zo,Zo,Zm,Zm,Zm,Zm,Zm,Zm,Zm,Zm,Zm,Zm,Zm,Zm,Zm,Zm,Zm,Zm,Zm,Zm,Zm,Zm,Zm,(by first|(simp[*,num];done)|(simp[*,num];rfl))⟩ ?_
  rintro m2'' ⟨fr'',hp''⟩ ⟨i'',hm2'',hi'',F1'',F2'',F5'',F7'',F28'',F29'',F30'',F6'',F9'',F10'',F11'',F61'',F62'',F63'',H0'',H1'',H2'',H3'',H4'',H5'',H6'',H7''⟩
  simp only at F1'' F2'' F5'' F7'' F28'' F29'' F30'' F6'' F9'' F10'' F11'' F61'' F62'' F63'' H0'' H1'' H2'' H3'' H4'' H5'' H6'' H7''
  clear F1' F2' F5' F7' F28' F29' F30' F6' F9' F10' F11' F45' F46' F47' H0' H1' H2' H3' H4' H5' H6' H7'
  by_cases hlt'':i''<ls.length
  ·have e2:(i'':Int)<ls.length:=Zo
   have hg:ls[i'']?=some ls[i'']:=List.getElem?_eq_getElem hlt''
   have hwi:IntKind.i64.wrap ((i'':Int)+1)=(i'':Int)+1:=wrapN Zo
   generalize ls[i'']=s at*
   have hgt2:=Ld hg
   have hnt:=Cu (fun i (s:Tx)=>(s,(W+i,(0:Int)))) ps.length ls i'' hg
   have hsp:=Ff (fun i (s:Tx)=>(s,(W+i,(0:Int)))) ls ps.length i'' hg
   have hnd:=HND.out
   unfold coInL at hnd
   simp only[Kr,Nat.zero_add] at hnd
   rw[hsp,<-List.append_assoc] at hnd
   have hlk:=Ei hnd
   simp only at hlk
   have k1:=Bh hlk 0
   have hmk:=Bm (num (fun i (s:Tx)=>(s,(W+i,(0:Int)))) 0 ps++num (fun i (s:Tx)=>(s,(W+i,(0:Int)))) ps.length (ls.take i''))
   have hsn:=Df thR gm (num (fun i (s:Tx)=>(s,(W+i,(0:Int)))) 0 ps++num (fun i (s:Tx)=>(s,(W+i,(0:Int)))) ps.length (ls.take i'')) (s,(W+((ps.length+i'':Nat):Int),(0:Int)))
   have hadd:IntKind.i64.wrap (W+ps.length)=W+ps.length:=Ad Zo Zo
   have hadd2:IntKind.i64.wrap (W+ps.length+i'')=W+ps.length+i'':=Ad Zo Zo
   have hq:=H7''
   clear H7''
   unfold mpO at hq
   obtain⟨ks,hks⟩: ∃ks,mKeys (num (fun i (s:Tx)=>(s,(W+i,(0:Int)))) 0 ps++num (fun i (s:Tx)=>(s,(W+i,(0:Int)))) ps.length (ls.take i''))=ks:=⟨_,rfl⟩
   obtain⟨ag,hag⟩: ∃ag,(!(num (fun i (s:Tx)=>(s,(W+i,(0:Int)))) 0 ps++num (fun i (s:Tx)=>(s,(W+i,(0:Int)))) ps.length (ls.take i'')).isEmpty)=ag:=⟨_,rfl⟩
   obtain⟨rs,hrs⟩: ∃rs,mRows thR (num (fun i (s:Tx)=>(s,(W+i,(0:Int)))) 0 ps++num (fun i (s:Tx)=>(s,(W+i,(0:Int)))) ps.length (ls.take i''))=rs:=⟨_,rfl⟩
   rw[hks] at hmk k1 hq hsn
   rw[hag] at hmk hq
   rw[hrs] at hq hsn
   have HS:=Lib.hid hsn
   have HT:=Lib.hid hnt
   clear hks hag hrs hlk hnd hsp hsn hnt hg hlt''
   repeat' (first|refine ZN ?_|refine Z2 ?_ ?_|(intro h h';try simp[*,-h] at h'))
   have hsn:=HS.out
   have hnt:=HT.out
   exact⟨ls.length - (i''+1),Zo,i''+1,Zo,Zo,Zm,Zm,Zm,Zm,Zm,Zm,Zm,Zm,Zm,Zm,Zm,Zm,Zm,Zm,Zm,Zm,Zm,Zm,Zm,Zm,Zm,by rw[hnt,<-List.append_assoc,hsn];simp[*,thR,Int.add_assoc]⟩
  have e2'': ¬(i'':Int)<ls.length:=Zo
  have hz'':ls.take i''=ls:=List.take_of_length_le Zo
  rw[hz''] at H7''
  clear hz''
  have hcs:=E8a out (num (fun i (s:Tx)=>(s,(W+i,(0:Int)))) 0 ps++num (fun i (s:Tx)=>(s,(W+i,(0:Int)))) ps.length ls) t5 Zo
  have hset:setAll (coInL W ⟨t1,ps,ls,t4,t5⟩) []=num (fun i (s:Tx)=>(s,(W+i,(0:Int)))) 0 ps++num (fun i (s:Tx)=>(s,(W+i,(0:Int)))) ps.length ls:=by
   rw[P5 HND.out]
   unfold coInL
   simp only[Kr,Nat.zero_add]
  have hcf:coF out W ⟨t1,ps,ls,t4,t5⟩=⟨ps.length,(ps.length+ls.length:Nat),W,t4,coSs (coFind (num (fun i (s:Tx)=>(s,(W+i,(0:Int)))) 0 ps++num (fun i (s:Tx)=>(s,(W+i,(0:Int)))) ps.length ls) out) t5⟩:=by
   unfold coF
   rw[hset]
   rfl
  have hft:=HF.out
  rw[hcf] at hft
  have HF2:=Lib.hid hft
  have hq:=H7''
  clear hft hcf hset HF H7''
  generalize (num (fun i (s:Tx)=>(s,(W+i,(0:Int)))) 0 ps++num (fun i (s:Tx)=>(s,(W+i,(0:Int)))) ps.length ls)=PF at*
  obtain⟨nb,nk,nr,hn⟩: ∃b k r,mpD thR PF= .dmp b k r:=⟨_,_,_,rfl⟩
  rw[ho,hn] at hcs
  have hq2:mpO thR gm PF= .map gm nb nk nr false:=by
   unfold mpD at hn
   cases hn
   rfl
  rw[hq2] at hq
  generalize coFind PF out=fd at*
  have x3:=cf_take S
  have x4:(csRows (coSs fd t5)).take t5.length=csRows (coSs fd t5):=by rw[List.take_of_length_le Zi]
  have hls:=HLS.out
  have x1:(S.length+1)*56<=140737488355328:=Zo
  have x2:S.length<=9223372036854775806:=Zo
  have hww:IntKind.i64.wrap (W+((ps.length:Int)+ls.length))=W+((ps.length:Int)+ls.length):=Ad Zo Zo
  clear hn hq2 hls
  repeat' (first|refine ZN ?_|refine Z2 ?_ ?_|(intro h h';try simp[*,-h] at h'))
  have hft:=HF2.out
  have hwt:=HWt.out
  have hW2:=HW2.out
  have hls:=HLS.out
  exact⟨fs.length - (j+1),Zo,j+1,g+1,Zo,Zo,Zm,Zm,Zm,Zm,Zm,Zm,Zm,by simp[hww];omega,Zm,Zm,Zm,by rw[hft];simp[*],by rw[hft];simp[*,Cf.row]⟩
 have e1: ¬(j:Int)<fs.length:=Zo
 have hz:fs.take j=fs:=List.take_of_length_le Zo
 rw[hz] at H3 H4 F6
 repeat' (first|refine ZN ?_|refine Z2 ?_ ?_|(intro h h';try simp[*,-h] at h'))
 ·rw[if_pos Zo]
 ·rw[if_neg Zo]
def LT (w:Bool)(c:List Si)(hp:Hp):Prop:= ∃g,hp ⟨0,3,0⟩= .box 1 [bz w,.own ⟨0,3,2⟩ g c.length] false/\hp ⟨0,3,2⟩= .arr g 4 315 (c.map Si.row) false
def KL (D:Nat)(hp1 hp2:Hp):Prop:= ∀d i c,d<=D->(⟨d,i,c⟩:Nm)≠⟨0,3,0⟩->(⟨d,i,c⟩:Nm)≠⟨0,3,2⟩->hp2 ⟨d,i,c⟩=hp1 ⟨d,i,c⟩
theorem LT.congr {w:Bool}{c:List Si}{hp hp':Hp}(h:LT w c hp)(he: ∀i c,hp' ⟨0,i,c⟩=hp ⟨0,i,c⟩):LT w c hp':=by
 obtain⟨g,h1,h2⟩:=h
 exact⟨g,(he _ _).trans h1,(he _ _).trans h2⟩
theorem KL.refl (D:Nat)(hp:Hp):KL D hp hp:=fun _ _ _ _ _ _=>rfl
theorem KL.step {D D':Nat}{hp1 hpA hpB hp2:Hp}(h:KL D hp1 hpA)(h2:KL D' hpB hp2)(hd:D<=D')(he: ∀d i c,d<=D->hpB ⟨d,i,c⟩=hpA ⟨d,i,c⟩):KL D hp1 hp2:=fun d i c hd' n1 n2=>(h2 d i c Zo n1 n2).trans ((he d i c hd').trans (h d i c hd' n1 n2))
theorem KL.own {D:Nat}{hp1 hp2:Hp}(h:KL D hp1 hp2)(hD:D≠0): ∀i c,hp2 ⟨D,i,c⟩=hp1 ⟨D,i,c⟩:=fun i c=>h D i c (Nat.le_refl _) (by simp[hD]) (by simp[hD])
theorem KL.aft {D D':Nat}{hp1 hpA hpB:Hp}{A:Hp->Prop}{u:AV}{Q:AV->Hp->Prop}(HK:KL D hp1 hpA)(hn: ∀hp2,(∀i c,hp2 ⟨D',i,c⟩=hpB ⟨D',i,c⟩)->A hp2->KL D hp1 hp2->Q u hp2)(hd:D<=D':=by omega)(hD:D'≠0:=by omega)(he: ∀d i c,d<=D->hpB ⟨d,i,c⟩=hpA ⟨d,i,c⟩:=by intro d i c hd;simp[Zl hd]): ∀v hp2,(v=u/\A hp2/\KL D' hpB hp2)->Q v hp2:=by
 rintro _ hp2 ⟨rfl,h1,h2⟩
 exact hn hp2 (h2.own hD) h1 (HK.step h2 hd he)
theorem Rw (l:List Si):(l.map Si.row).take l.length=l.map Si.row:=by rw[List.take_of_length_le Zi]
theorem put1 {d k0 s0 gl:Nat}{hp1:Hp}{w:Bool}{c:List Si}{a:Si}(hc:LT w c hp1)(hl:c.length<=1048576)(hls:hp1 ⟨k0+1,s0,0⟩= .arr gl 4 315 [a.row] false):HB P0 E47 (Lm X47) (k0+1) d 203 [.ptr ⟨0,3,0⟩ 1 0,.own ⟨k0+1,s0,0⟩ gl 1] hp1 (fun v hp2=>v= .tup []/\LT w (c++[a]) hp2/\KL (k0+1) hp1 hp2) (fun _ _=>False):=by
 refine Af (k1:=k0+1+1) (PR:=fun _ _=>False) rfl Tryz.func203 (Aj Zd) rfl Pb rfl B5a ?_
 obtain⟨g,h1,h2⟩:=hc
 have x1:(c.length+1)*32<=140737488355328:=Zo
 have x2:c.length<=9223372036854775806:=Zo
 have x3:=Rw c
 repeat' (first|refine ZN ?_|refine Z2 ?_ ?_|(intro h h';try simp[*,-h] at h'))
 exact⟨rfl,⟨g+1,Zm,Zm⟩,fun d i c hd n1 n2=>by have hd2:d≠k0+1+1:=Zo;simp[*]⟩
theorem put2 {d k0 s0 gl:Nat}{hp1:Hp}{w:Bool}{c:List Si}{a b:Si}(hc:LT w c hp1)(hl:c.length<=1048576)(hls:hp1 ⟨k0+1,s0,0⟩= .arr gl 4 315 [a.row,b.row] false):HB P0 E47 (Lm X47) (k0+1) d 203 [.ptr ⟨0,3,0⟩ 1 0,.own ⟨k0+1,s0,0⟩ gl 2] hp1 (fun v hp2=>v= .tup []/\LT w (c++[a,b]) hp2/\KL (k0+1) hp1 hp2) (fun _ _=>False):=by
 refine Af (k1:=k0+1+1) (PR:=fun _ _=>False) rfl Tryz.func203 (Aj Zd) rfl Pb rfl B5a ?_
 obtain⟨g,h1,h2⟩:=hc
 have x1:(c.length+2)*32<=140737488355328:=Zo
 have x2:c.length<=9223372036854775805:=Zo
 have x3:=Rw c
 repeat' (first|refine ZN ?_|refine Z2 ?_ ?_|(intro h h';try simp[*,-h] at h'))
 exact⟨rfl,⟨g+1,Zm,Zm⟩,fun d i c hd n1 n2=>by have hd2:d≠k0+1+1:=Zo;simp[*]⟩
theorem Cka {d k:Nat}{hp1:Hp}{w:Bool}{c:List Si}(hcs:LT w c hp1)(hlen:c.length<=1048000):HB P0 E47 (Lm X47) k d 127 [.ptr ⟨0,3,0⟩ 1 0] hp1 (fun v hp2=>v= .tup []/\LT w (c++leave w) hp2/\KL k hp1 hp2) (fun _ _=>False):=by
 refine Af (k1:=k+1) (PR:=fun _ _=>False) rfl Tryz.func127 (Aj Zd) rfl A6a rfl rvs_127 ?_
 have HK:=KL.refl k hp1
 have h0:=hcs
 obtain⟨g,h1,h2⟩:=h0
 cases w
 ·repeat' (first|refine ZN ?_|refine Z2 ?_ ?_|(intro h h';try simp[*,-h] at h')|((with_reducible apply Ap (f:=203));exact Zv;(apply put1 (a:=⟨11,0,0,0⟩));exact ZL;exact ZU;exact Zc;(refine KL.aft HK ?_;clear hcs HK;intro hp2 hO2 hcs HK))|fail)
  exact⟨rfl,hcs,HK⟩
 ·repeat' (first|refine ZN ?_|refine Z2 ?_ ?_|(intro h h';try simp[*,-h] at h')|((with_reducible apply Ap (f:=203));exact Zv;(apply put1 (a:=⟨1,0,0,0⟩));exact ZL;exact ZU;exact Zc;(refine KL.aft HK ?_;clear hcs HK;intro hp2 hO2 hcs HK))|((with_reducible apply Ap (f:=203));exact Zv;(apply put1 (a:=⟨11,0,0,0⟩));exact ZL;exact ZU;exact Zc;(refine KL.aft HK ?_;clear hcs HK;intro hp2 hO2 hcs HK))|fail)
  exact⟨rfl,by simpa[leave] using hcs,HK⟩
theorem Gz {d k:Nat}{hp1:Hp}{w:Bool}{c:List Si}(op:Int)(hcs:LT w c hp1)(hlen:c.length<=1048000):HB P0 E47 (Lm X47) (k+1) d 256 [.ptr ⟨0,3,0⟩ 1 0,iv op] hp1 (fun v hp2=> ∃gA,v= .fn 295 [.ptr ⟨k+1,d,1⟩ gA 0,.dp [iv c.length] 0]/\hp2 ⟨k+1,d,1⟩= .box gA [.ptr ⟨0,3,0⟩ 1 0] false/\LT w (c++[⟨op,0,0,0⟩]) hp2/\KL k hp1 hp2/\ ∀i c,i≠d->hp2 ⟨k+1,i,c⟩=hp1 ⟨k+1,i,c⟩) (fun _ _=>False):=by
 refine Af (k1:=k+1+1) (PR:=fun _ _=>False) rfl Tryz.func256 (Aj Zd) rfl Yl rfl rvs_256 ?_
 have HK:=KL.refl (k+1) hp1
 have hnk:(k+1<=k)=False:=Zi
 have h0:=hcs
 obtain⟨g,h1,h2⟩:=h0
 repeat' (first|refine ZN ?_|refine Z2 ?_ ?_|(intro h h';try simp[*,-h] at h')|((with_reducible apply Ap (f:=203));exact Zv;(apply put1 (a:=⟨op,0,0,0⟩));exact ZL;exact ZU;exact Zc;(refine KL.aft HK ?_;clear hcs HK;intro hp2 hO2 hcs HK))|fail)
 exact⟨_,rfl,Zi,LT.congr hcs (fun i c=>Zi),fun d' i c hd n1 n2=>by have e1:d'≠k+1:=Zo;have e2:d'≠k+1+1:=Zo;have e3:=HK d' i c Zo n1 n2;simp[e1,e2,e3],fun i c hi=>by have e3:=HK (k+1) i c (Nat.le_refl _) Zi Zi;simp[hi,e3]⟩
theorem fix_w {d k q gA:Nat}{hp1:Hp}{w:Bool}{c1 c2:List Si}{op x:Int}(hcs:LT w (c1++⟨op,x,0,0⟩::c2) hp1)(hb:hp1 ⟨k+1,q,1⟩= .box gA [.ptr ⟨0,3,0⟩ 1 0] false):HB P0 E47 (Lm X47) (k+1) d 295 [.ptr ⟨k+1,q,1⟩ gA 0,.dp [iv c1.length] 0] hp1 (fun v hp2=>v= .tup []/\LT w (c1++⟨op,((c1++⟨op,x,0,0⟩::c2).length:Nat),0,0⟩::c2) hp2/\KL (k+1) hp1 hp2) (fun _ _=>False):=by
 refine Af (k1:=k+1+1) (PR:=fun _ _=>False) rfl Tryz.func295 (Aj Zd) rfl Yf rfl rvs_295 ?_
 obtain⟨g,h1,h2⟩:=hcs
 have hget:(List.map Si.row (c1++⟨op,x,0,0⟩::c2))[c1.length]?=some [iz op,iz x,iz 0,uz 0]:=by simp[Si.row]
 have hset:(List.map Si.row (c1++⟨op,x,0,0⟩::c2)).set c1.length [iz op,iz ((c1++⟨op,x,0,0⟩::c2).length:Nat),iz 0,uz 0]=List.map Si.row (c1++⟨op,((c1++⟨op,x,0,0⟩::c2).length:Nat),0,0⟩::c2):=by simp[Si.row]
 have hlen:(List.map Si.row (c1++⟨op,x,0,0⟩::c2)).length=(c1++⟨op,x,0,0⟩::c2).length:=Zi
 have hlt:(c1.length:Int)<((c1++⟨op,x,0,0⟩::c2).length:Nat):=by simp;omega
 have hlt2:c1.length<(c1++⟨op,x,0,0⟩::c2).length:=Zi
 generalize hL:(c1++⟨op,x,0,0⟩::c2).length=L at*
 generalize hR:List.map Si.row (c1++⟨op,x,0,0⟩::c2)=R at*
 have hge: ∀(h:c1.length<R.length),R[c1.length]=[iz op,iz x,iz 0,uz 0]:=fun h=>by have h3:=hget;rw[List.getElem?_eq_getElem h] at h3;exact Option.some.inj h3
 repeat' (first|((with_reducible apply A6);(exact Dx [] Zz))|(refine Z1 ?_)|(refine Z2 ?_ ?_)|(intro h h';try simp[*,-h] at h'))
 have hL2:(c1++⟨op,(L:Int),0,0⟩::c2).length=L:=by rw[<-hL];simp
 exact⟨rfl,⟨g,by rw[hL2];simp[h1],Zi⟩,fun d i c hd n1 n2=>by simp[n2]⟩
theorem G9 {d k q gA:Nat}{hp1:Hp}{w:Bool}{c1 c2:List Si}{op x n:Int}(hcs:LT w (c1++⟨op,x,0,0⟩::c2) hp1)(hb:hp1 ⟨k+1,q,1⟩= .box gA [.ptr ⟨0,3,0⟩ 1 0] false)(hn:n=c1.length):
  HB P0 E47 (Lm X47) (k+1) d 295 [.ptr ⟨k+1,q,1⟩ gA 0,.dp [iv n] 0] hp1 (fun v hp2=>v= .tup []/\LT w (c1++⟨op,((c1++⟨op,x,0,0⟩::c2).length:Nat),0,0⟩::c2) hp2/\KL (k+1) hp1 hp2) (fun _ _=>False):=by
 subst hn
 exact fix_w hcs hb
def LXl (f:Nat)(arg:AV)(code:Bool->Nat->List Si)(n:Nat):Prop:= ∀(d k:Nat) (hp1:Hp) (w:Bool) (c:List Si),LT w c hp1->c.length+n<=1000000->
 HB P0 E47 (Lm X47) k d f [.ptr ⟨0,3,0⟩ 1 0,arg] hp1 (fun v hp2=>v= .tup []/\(∃x,x=code w c.length/\x.length<=n/\LT w (c++x) hp2)/\KL k hp1 hp2) (fun _ _=>False)
theorem cx_get {l:List Cx}{i:Nat}{e:Cx}(h:l[i]?=some e):(cxRows l)[i]?=some e.row:=by simp[Jg,h]
theorem Ku (p:Nat)(k o n s z:Int)(l:List Cx):lE p (.mk k o n s z l)=if k=8\/k=9 then lB p k l else lEs p l++tailE k o n s z:=by rw[lE]
theorem lB_two (p:Nat)(k:Int)(a b:Cx):lB p k [a,b]=(lE p a++if k=8 then[sNot] else[])++(⟨9,((p+(lE p a++if k=8 then[sNot] else[]).length+3:Nat):Int),0,0⟩::
   ⟨1,0,0,if k=8 then 0 else 1⟩::⟨8,((p+(lE p a++if k=8 then[sNot] else[]).length+5+(lE (p+(lE p a++if k=8 then[sNot] else[]).length+3) b).length:Nat):Int),0,0⟩::
   (lE (p+(lE p a++if k=8 then[sNot] else[]).length+3) b++[sNot,sNot])):=by rw[lB,lR]
theorem Vm {l:List Cx}{j:Nat}{e:Cx}(h:l[j]?=some e)(p:Nat):lEs p (l.take (j+1))=lEs p (l.take j)++lE (p+(lEs p (l.take j)).length) e:=by
 rw[List.take_add_one,h]
 show lEs p (l.take j++[e])=_
 rw[Cma]
 simp
theorem Ey (l:List Cx)(j:Nat):cxSize (l.take j)<=cxSize l:=by
 conv=>rhs;rw[<-List.take_append_drop j l,Ow]
 omega
theorem K0 {l:List Cx}{j:Nat}{e:Cx}(h:l[j]?=some e):cxSize (l.take j)+e.size<=cxSize l:=by
 have h1:=Ey l (j+1)
 rw[List.take_add_one,h] at h1
 simp at h1
 omega
theorem Pn (k o n s z:Int)(l:List Cx):(Cx.mk k o n s z l).size=cxSize l+1:=by rw[Cx.size]
theorem L7a (o n s z:Int)(a b:Cx)(iha:LXl 255 (.dp a.row 0) (fun _ p=>lE p a) (6*a.size))(ihb:LXl 255 (.dp b.row 0) (fun _ p=>lE p b) (6*b.size)):LXl 294 (.dp [iz 8,iz o,uz n,iz s,iz z,.sl false 6 (cxRows [a,b])] 0) (fun _ p=>lB p 8 [a,b]) (6*(a.size+b.size)+6):=by
 intro d k hp1 w c hcs hlen
 refine Af (k1:=k+1) (PR:=fun _ _=>False) rfl Tryz.func294 (Aj Zd) rfl Pa rfl B4a ?_
 have HK:=KL.refl k hp1
 obtain⟨ak,ao,an,as_,az,al⟩:=a
 obtain⟨bk,bo,bn,bs,bz_,bl⟩:=b
 simp only[Cd] at iha ihb
 simp only[He,Fz,Cd]
 repeat' (first|refine ZN ?_|refine Z2 ?_ ?_|(intro h h';try simp[*,-h] at h')|((with_reducible apply Ap (f:=255));exact Zv;(apply iha _ (k+1) _ _ _);exact ZL;exact ZU;(rintro _ hp2 ⟨rfl,⟨xa,hxa,hlxa,hcn⟩,hk2⟩;have Hxa:=Lib.hid hxa;clear hxa;have HKn:=KL.step HK hk2 Zo (fun d i c hd=>by simp[Zl hd]);have hO2:=hk2.own Zo;clear hcs HK;have hcs:=hcn;have HK:=HKn;clear hcn HKn hk2))|fail)
 repeat' (first|refine ZN ?_|refine Z2 ?_ ?_|(intro h h';try simp[*,-h] at h')|((with_reducible apply Ap (f:=203));exact Zv;(apply put1 (a:=sNot));exact ZL;exact ZU;exact Zc;(refine KL.aft HK ?_;clear hcs HK;intro hp2 hO2 hcs HK))|fail)
 repeat' (first|refine ZN ?_|refine Z2 ?_ ?_|(intro h h';try simp[*,-h] at h')|((with_reducible apply Ap (f:=256));exact Zv;(apply Gz (d:=26) 9);exact ZL;exact ZU;(rintro _ hp2 ⟨gA,rfl,hbgA,hcn,hkA,hO2⟩;have HKn:=KL.step HK hkA Zo (fun d i c hd=>by simp[Zl hd]);clear hcs HK;have hcs:=hcn;have HK:=HKn;clear hcn HKn hkA))|fail)
 repeat' (first|refine ZN ?_|refine Z2 ?_ ?_|(intro h h';try simp[*,-h] at h')|((with_reducible apply Ap (f:=203));exact Zv;(apply put1 (a:=⟨1,0,0,0⟩));exact ZL;exact ZU;exact Zc;(refine KL.aft HK ?_;clear hcs HK;intro hp2 hO2 hcs HK))|fail)
 repeat' (first|refine ZN ?_|refine Z2 ?_ ?_|(intro h h';try simp[*,-h] at h')|((with_reducible apply Ap (f:=256));exact Zv;(apply Gz (d:=33) 8);exact ZL;exact ZU;(rintro _ hp2 ⟨gB,rfl,hbgB,hcn,hkA,hO2⟩;have HKn:=KL.step HK hkA Zo (fun d i c hd=>by simp[Zl hd]);clear hcs HK;have hcs:=hcn;have HK:=HKn;clear hcn HKn hkA))|fail)
 repeat' (first|refine ZN ?_|refine Z2 ?_ ?_|(intro h h';try simp[*,-h] at h')|((with_reducible apply Ap (f:=295));exact Zv;(apply G9 (c1:=(c++(xa++[sNot]))) (c2:=[⟨1,0,0,0⟩,⟨8,0,0,0⟩]) (op:=9) (x:=0) (q:=26));(focus (have hq:=hcs;simp at hq⊢;exact LT.congr hq (fun i c=>Zi)));exact Zc;(focus ((try simp);(try omega)));(refine KL.aft HK ?_;clear hcs HK;intro hp2 hO2 hcs HK))|fail)
 repeat' (first|refine ZN ?_|refine Z2 ?_ ?_|(intro h h';try simp[*,-h] at h')|((with_reducible apply Ap (f:=255));exact Zv;(apply ihb _ (k+1) _ _ _);exact ZL;exact ZU;(rintro _ hp2 ⟨rfl,⟨xb,hxb,hlxb,hcn⟩,hk2⟩;have Hxb:=Lib.hid hxb;clear hxb;have HKn:=KL.step HK hk2 Zo (fun d i c hd=>by simp[Zl hd]);have hO2:=hk2.own Zo;clear hcs HK;have hcs:=hcn;have HK:=HKn;clear hcn HKn hk2))|fail)
 repeat' (first|refine ZN ?_|refine Z2 ?_ ?_|(intro h h';try simp[*,-h] at h')|((with_reducible apply Ap (f:=203));exact Zv;(apply put2 (a:=sNot) (b:=sNot));exact ZL;exact ZU;exact Zc;(refine KL.aft HK ?_;clear hcs HK;intro hp2 hO2 hcs HK))|fail)
 repeat' (first|refine ZN ?_|refine Z2 ?_ ?_|(intro h h';try simp[*,-h] at h')|((with_reducible apply Ap (f:=295));exact Zv;(apply G9 (c1:=(c++(xa++([sNot]++[Si.mk 9 ((((c++(xa++[sNot]))++(Si.mk 9 0 0 0:Si)::[Si.mk 1 0 0 0,Si.mk 8 0 0 0]).length:Nat):Int) 0 0,Si.mk 1 0 0 0])))) (c2:=(xb++[sNot,sNot])) (op:=8) (x:=0) (q:=33));(focus (have hq:=hcs;simp at hq⊢;exact LT.congr hq (fun i c=>Zi)));exact Zc;(focus ((try simp);(try omega)));(refine KL.aft HK ?_;clear hcs HK;intro hp2 hO2 hcs HK))|fail)
 have hxa:=Hxa.out
 have hxb:=Hxb.out
 simp only at hxa hxb
 have hps: ∀y,y=(c++(xa++([sNot]++[Si.mk 9 ((((c++(xa++[sNot]))++(Si.mk 9 0 0 0:Si)::[Si.mk 1 0 0 0,Si.mk 8 0 0 0]).length:Nat):Int) 0 0,Si.mk 1 0 0 0,Si.mk 8 0 0 0]))).length->y=c.length+(xa++[sNot]).length+3:=by intro y hy;rw[hy];simp;try omega
 have hxb2:xb=lE (c.length+(xa++[sNot]).length+3) (.mk bk bo bn bs bz_ bl):=by
  rw[hxb]
  congr 1
  apply hps
  simp
 clear hps hxb
 refine⟨rfl,⟨xa++([sNot]++Si.mk 9 ((((c++(xa++[sNot]))++(Si.mk 9 0 0 0:Si)::[Si.mk 1 0 0 0,Si.mk 8 0 0 0]).length:Nat):Int) 0 0::Si.mk 1 0 0 0::Si.mk 8 ((((c++(xa++([sNot]++[Si.mk 9 ((((c++(xa++[sNot]))++(Si.mk 9 0 0 0:Si)::[Si.mk 1 0 0 0,Si.mk 8 0 0 0]).length:Nat):Int) 0 0,Si.mk 1 0 0 0])))++(Si.mk 8 0 0 0:Si)::(xb++[sNot,sNot])).length:Nat):Int) 0 0::(xb++[sNot,sNot])),?_,?_,by simpa using hcs⟩,HK⟩
 ·rw[lB_two]
  simp only[if_true]
  rw[<-hxa,<-hxb2]
  simp
  try omega
 ·simp
  omega
theorem L6a (o n s z:Int)(a b:Cx)(iha:LXl 255 (.dp a.row 0) (fun _ p=>lE p a) (6*a.size))(ihb:LXl 255 (.dp b.row 0) (fun _ p=>lE p b) (6*b.size)):LXl 294 (.dp [iz 9,iz o,uz n,iz s,iz z,.sl false 6 (cxRows [a,b])] 0) (fun _ p=>lB p 9 [a,b]) (6*(a.size+b.size)+6):=by
 intro d k hp1 w c hcs hlen
 refine Af (k1:=k+1) (PR:=fun _ _=>False) rfl Tryz.func294 (Aj Zd) rfl Pa rfl B4a ?_
 have HK:=KL.refl k hp1
 obtain⟨ak,ao,an,as_,az,al⟩:=a
 obtain⟨bk,bo,bn,bs,bz_,bl⟩:=b
 simp only[Cd] at iha ihb
 simp only[He,Fz,Cd]
 repeat' (first|refine ZN ?_|refine Z2 ?_ ?_|(intro h h';try simp[*,-h] at h')|((with_reducible apply Ap (f:=255));exact Zv;(apply iha _ (k+1) _ _ _);exact ZL;exact ZU;(rintro _ hp2 ⟨rfl,⟨xa,hxa,hlxa,hcn⟩,hk2⟩;have Hxa:=Lib.hid hxa;clear hxa;have HKn:=KL.step HK hk2 Zo (fun d i c hd=>by simp[Zl hd]);have hO2:=hk2.own Zo;clear hcs HK;have hcs:=hcn;have HK:=HKn;clear hcn HKn hk2))|fail)
 repeat' (first|refine ZN ?_|refine Z2 ?_ ?_|(intro h h';try simp[*,-h] at h')|((with_reducible apply Ap (f:=256));exact Zv;(apply Gz (d:=26) 9);exact ZL;exact ZU;(rintro _ hp2 ⟨gA,rfl,hbgA,hcn,hkA,hO2⟩;have HKn:=KL.step HK hkA Zo (fun d i c hd=>by simp[Zl hd]);clear hcs HK;have hcs:=hcn;have HK:=HKn;clear hcn HKn hkA))|fail)
 repeat' (first|refine ZN ?_|refine Z2 ?_ ?_|(intro h h';try simp[*,-h] at h')|((with_reducible apply Ap (f:=203));exact Zv;(apply put1 (a:=⟨1,0,0,1⟩));exact ZL;exact ZU;exact Zc;(refine KL.aft HK ?_;clear hcs HK;intro hp2 hO2 hcs HK))|fail)
 repeat' (first|refine ZN ?_|refine Z2 ?_ ?_|(intro h h';try simp[*,-h] at h')|((with_reducible apply Ap (f:=256));exact Zv;(apply Gz (d:=33) 8);exact ZL;exact ZU;(rintro _ hp2 ⟨gB,rfl,hbgB,hcn,hkA,hO2⟩;have HKn:=KL.step HK hkA Zo (fun d i c hd=>by simp[Zl hd]);clear hcs HK;have hcs:=hcn;have HK:=HKn;clear hcn HKn hkA))|fail)
 repeat' (first|refine ZN ?_|refine Z2 ?_ ?_|(intro h h';try simp[*,-h] at h')|((with_reducible apply Ap (f:=295));exact Zv;(apply G9 (c1:=(c++xa)) (c2:=[⟨1,0,0,1⟩,⟨8,0,0,0⟩]) (op:=9) (x:=0) (q:=26));(focus (have hq:=hcs;simp at hq⊢;exact LT.congr hq (fun i c=>Zi)));exact Zc;(focus ((try simp);(try omega)));(refine KL.aft HK ?_;clear hcs HK;intro hp2 hO2 hcs HK))|fail)
 repeat' (first|refine ZN ?_|refine Z2 ?_ ?_|(intro h h';try simp[*,-h] at h')|((with_reducible apply Ap (f:=255));exact Zv;(apply ihb _ (k+1) _ _ _);exact ZL;exact ZU;(rintro _ hp2 ⟨rfl,⟨xb,hxb,hlxb,hcn⟩,hk2⟩;have Hxb:=Lib.hid hxb;clear hxb;have HKn:=KL.step HK hk2 Zo (fun d i c hd=>by simp[Zl hd]);have hO2:=hk2.own Zo;clear hcs HK;have hcs:=hcn;have HK:=HKn;clear hcn HKn hk2))|fail)
 repeat' (first|refine ZN ?_|refine Z2 ?_ ?_|(intro h h';try simp[*,-h] at h')|((with_reducible apply Ap (f:=203));exact Zv;(apply put2 (a:=sNot) (b:=sNot));exact ZL;exact ZU;exact Zc;(refine KL.aft HK ?_;clear hcs HK;intro hp2 hO2 hcs HK))|fail)
 repeat' (first|refine ZN ?_|refine Z2 ?_ ?_|(intro h h';try simp[*,-h] at h')|((with_reducible apply Ap (f:=295));exact Zv;(apply G9 (c1:=(c++(xa++([]++[Si.mk 9 ((((c++xa)++(Si.mk 9 0 0 0:Si)::[Si.mk 1 0 0 1,Si.mk 8 0 0 0]).length:Nat):Int) 0 0,Si.mk 1 0 0 1])))) (c2:=(xb++[sNot,sNot])) (op:=8) (x:=0) (q:=33));(focus (have hq:=hcs;simp at hq⊢;exact LT.congr hq (fun i c=>Zi)));exact Zc;(focus ((try simp);(try omega)));(refine KL.aft HK ?_;clear hcs HK;intro hp2 hO2 hcs HK))|fail)
 have hxa:=Hxa.out
 have hxb:=Hxb.out
 simp only at hxa hxb
 have hps: ∀y,y=(c++(xa++([]++[Si.mk 9 ((((c++xa)++(Si.mk 9 0 0 0:Si)::[Si.mk 1 0 0 1,Si.mk 8 0 0 0]).length:Nat):Int) 0 0,Si.mk 1 0 0 1,Si.mk 8 0 0 0]))).length->y=c.length+(xa++[]).length+3:=by intro y hy;rw[hy];simp;try omega
 have hxb2:xb=lE (c.length+(xa++[]).length+3) (.mk bk bo bn bs bz_ bl):=by
  rw[hxb]
  congr 1
  apply hps
  simp
 clear hps hxb
 refine⟨rfl,⟨xa++([]++Si.mk 9 ((((c++xa)++(Si.mk 9 0 0 0:Si)::[Si.mk 1 0 0 1,Si.mk 8 0 0 0]).length:Nat):Int) 0 0::Si.mk 1 0 0 1::Si.mk 8 ((((c++(xa++([]++[Si.mk 9 ((((c++xa)++(Si.mk 9 0 0 0:Si)::[Si.mk 1 0 0 1,Si.mk 8 0 0 0]).length:Nat):Int) 0 0,Si.mk 1 0 0 1])))++(Si.mk 8 0 0 0:Si)::(xb++[sNot,sNot])).length:Nat):Int) 0 0::(xb++[sNot,sNot])),?_,?_,by simpa using hcs⟩,HK⟩
 ·rw[lB_two]
  simp only[show((9:Int)=8)=False from Zd,if_false]
  rw[<-hxa,<-hxb2]
  simp
  try omega
 ·simp
  omega
end
end Go.Proofs.YtpmoibjpjlhcgaaGreatDoor
