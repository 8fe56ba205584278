/- A part of the proof: So, Sp, Sq, Sr, Su, Sv, Sw, Sx. -/
import Derived.Test.YtpmoibjpjlhcgaaGreatDoorY24
set_option linter.unusedSimpArgs false
set_option linter.unusedVariables false
set_option maxRecDepth 200000
set_option maxHeartbeats 8000000
namespace Go.Proofs.YtpmoibjpjlhcgaaGreatDoor
open Go Go.Ab Go.Ab.Sy
theorem D9a {m:List (Tx×Fu)}{g gm:Nat}{ag:Bool}{ks:List Value}{rs:List (List AV)}(hm:TM m ag ks rs)(ek eo en:Int)(ex:Tx)(l:List Sy.Ex)(ih: ∀k,TC g gm ag ks rs k 252 [.ptr ⟨0,10012,0⟩ g 0,.sl false 5 (exRows l),iv 1] (bv (tyAll m l 1)))(k:Nat):TC g gm ag ks rs k 249 [.ptr ⟨0,10012,0⟩ g 0,.agg [iz ek,iz eo,uz en,tz ex.val,.sl false 5 (exRows l)]] (iv (if Dh m ex=true/\tyAll m l 1=true then 1 else 0)):=by
 refine TC.of fun d hp1 b1 m1=>?_
 refine Af (k1:=k+1) (PR:=fun _ _=>False) rfl Tryz.func249 (Ak (by decide)) rfl V1 rfl rvs_249 ?_
 have tcA:=ih (k+1)
 obtain⟨G1,a1,c1⟩:=tcA.rules
 clear ih tcA
 unfold Dh
 generalize tyAll m l 1=ta at*
 cases hl:Sy.look m ex with
 |some t=>
  obtain⟨j,k1,k2,rfl⟩:=hm.some hl
  obtain⟨r1,r2,r3,r4,r5⟩:=t
  simp only[A3] at k2
  simp only
  repeat' (first|refine ZN ?_|refine Z2 ?_ ?_|(intro h h';try simp[*,-h] at h'))
  all_goals refine⟨?_,fun d' i c hd=>by have hd2:d'≠k+1:=(by omega);have hd3:d'<=k+1:=(by omega);simp[*]⟩
  all_goals (first|(simp[*];done)|(simp_all;done))
 |none=>
  have k1:=hm.none hl
  simp only
  repeat' (first|refine ZN ?_|refine Z2 ?_ ?_|(intro h h';try simp[*,-h] at h'))
  all_goals refine⟨?_,fun d' i c hd=>by have hd2:d'≠k+1:=(by omega);have hd3:d'<=k+1:=(by omega);simp[*]⟩
  all_goals (first|(simp[*];done)|(simp_all;done))
theorem S5 (ek eo en:Int)(ex:Tx)(l:List Sy.Ex):(Lm X47).dat 246 [.agg [iz ek,iz eo,uz en,tz ex.val,.sl false 5 (exRows l)]]=some [iv 1]:=by
 refine fnW (P:=Tryz.prog) (E:=E47) (X:=X47) Tryz.func246 (An _ _) rfl V4 rfl E5a rvs_246 ?_
 exact ZS
theorem tyE_mk (m:List (Tx×Fu))(k o n:Int)(s:Tx)(l:List Sy.Ex):tyE m (.mk k o n s l)=if k=1\/k=2\/k=5 then 1 else if k=3 then(if tyAll m l 1 then 1 else 0) else if k=4 then(if Dh m s=true/\tyAll m l 1=true then 1 else 0)
   else if k=6 then(if tyAll m l 1 then(if o=14\/o=15 then 2 else 1) else 0) else if k=7\/k=8\/k=9 then(if tyAll m l 2 then 2 else 0) else 0:=by rw[tyE]
theorem D8a {m:List (Tx×Fu)}{g gm:Nat}{ag:Bool}{ks:List Value}{rs:List (List AV)}(hm:TM m ag ks rs)(N:Nat)(ihL: ∀l:List Sy.Ex,exSize l<=N-> ∀(t:Int) (k:Nat),TC g gm ag ks rs k 252 [.ptr ⟨0,10012,0⟩ g 0,.sl false 5 (exRows l),iv t] (bv (tyAll m l t)))(e:Sy.Ex)(he:e.size<=N+1)(k:Nat):TC g gm ag ks rs k 293 [.ptr ⟨0,10012,0⟩ g 0,.agg e.row] (iv (tyE m e)):=by
 refine TC.of fun d hp1 b1 m1=>?_
 refine Af (k1:=k+1) (PR:=fun _ _=>False) rfl Tryz.func293 (Ak (by decide)) rfl Vn rfl rvs_293 ?_
 obtain⟨ek,eo,en,ex,l⟩:=e
 simp only[A2] at he
 rw[Au,tyE_mk]
 have t1:=ihL l (by omega) 1
 have t2:=ihL l (by omega) 2
 clear ihL
 obtain(rfl|rfl|rfl|rfl|rfl|rfl|rfl|rfl|rfl|hk):ek=1\/ek=2\/ek=3\/ek=4\/ek=5\/ek=6\/ek=7\/ek=8\/ek=9\/(ek<1\/9<ek):=by omega
 ·have hw:=S5 1 eo en ex l
  clear t1 t2
  repeat' (first|refine ZN ?_|refine Z2 ?_ ?_|(intro h h';try simp[*,-h] at h'))
  exact⟨by simp,fun d' i c hd=>by have hd2:d'≠k+1:=(by omega);have hd3:d'<=k+1:=(by omega);simp[*]⟩
 ·have hw:=S5 2 eo en ex l
  clear t1 t2
  repeat' (first|refine ZN ?_|refine Z2 ?_ ?_|(intro h h';try simp[*,-h] at h'))
  exact⟨by simp,fun d' i c hd=>by have hd2:d'≠k+1:=(by omega);have hd3:d'<=k+1:=(by omega);simp[*]⟩
 ·have tcA:=A1a 3 eo en ex l t1 (k+1)
  obtain⟨G1,a1,c1⟩:=tcA.rules
  clear t1 t2 tcA
  repeat' (first|refine ZN ?_|refine Z2 ?_ ?_|(intro h h';try simp[*,-h] at h'))
  exact⟨by simp,fun d' i c hd=>by have hd2:d'≠k+1:=(by omega);have hd3:d'<=k+1:=(by omega);simp[*]⟩
 ·have tcA:=D9a hm 4 eo en ex l t1 (k+1)
  obtain⟨G1,a1,c1⟩:=tcA.rules
  clear t1 t2 tcA
  repeat' (first|refine ZN ?_|refine Z2 ?_ ?_|(intro h h';try simp[*,-h] at h'))
  exact⟨by simp,fun d' i c hd=>by have hd2:d'≠k+1:=(by omega);have hd3:d'<=k+1:=(by omega);simp[*]⟩
 ·have hw:=S5 5 eo en ex l
  clear t1 t2
  repeat' (first|refine ZN ?_|refine Z2 ?_ ?_|(intro h h';try simp[*,-h] at h'))
  exact⟨by simp,fun d' i c hd=>by have hd2:d'≠k+1:=(by omega);have hd3:d'<=k+1:=(by omega);simp[*]⟩
 ·have tcA:=tyOp_w 6 eo en ex l t1 (k+1)
  obtain⟨G1,a1,c1⟩:=tcA.rules
  clear t1 t2 tcA
  repeat' (first|refine ZN ?_|refine Z2 ?_ ?_|(intro h h';try simp[*,-h] at h'))
  exact⟨by simp,fun d' i c hd=>by have hd2:d'≠k+1:=(by omega);have hd3:d'<=k+1:=(by omega);simp[*]⟩
 ·have tcA:=Lt 7 eo en ex l t2 (k+1)
  obtain⟨G1,a1,c1⟩:=tcA.rules
  clear t1 t2 tcA
  repeat' (first|refine ZN ?_|refine Z2 ?_ ?_|(intro h h';try simp[*,-h] at h'))
  exact⟨by simp,fun d' i c hd=>by have hd2:d'≠k+1:=(by omega);have hd3:d'<=k+1:=(by omega);simp[*]⟩
 ·have tcA:=Lt 8 eo en ex l t2 (k+1)
  obtain⟨G1,a1,c1⟩:=tcA.rules
  clear t1 t2 tcA
  repeat' (first|refine ZN ?_|refine Z2 ?_ ?_|(intro h h';try simp[*,-h] at h'))
  exact⟨by simp,fun d' i c hd=>by have hd2:d'≠k+1:=(by omega);have hd3:d'<=k+1:=(by omega);simp[*]⟩
 ·have tcA:=Lt 9 eo en ex l t2 (k+1)
  obtain⟨G1,a1,c1⟩:=tcA.rules
  clear t1 t2 tcA
  repeat' (first|refine ZN ?_|refine Z2 ?_ ?_|(intro h h';try simp[*,-h] at h'))
  exact⟨by simp,fun d' i c hd=>by have hd2:d'≠k+1:=(by omega);have hd3:d'<=k+1:=(by omega);simp[*]⟩
 ·clear t1 t2
  have z:ek≠1/\ek≠2/\ek≠3/\ek≠4/\ek≠5/\ek≠6/\ek≠7/\ek≠8/\ek≠9:=by omega
  obtain⟨z1,z2,z3,z4,z5,z6,z7,z8,z9⟩:=z
  rcases hk with hk|hk
  ·repeat' (first|refine ZN ?_|refine Z2 ?_ ?_|(intro h h';try simp[*,-h] at h'))
   exact⟨by simp[*],fun d' i c hd=>by have hd2:d'≠k+1:=(by omega);have hd3:d'<=k+1:=(by omega);simp[*]⟩
  ·have hk1: ¬ek<1:=by omega
   repeat' (first|refine ZN ?_|refine Z2 ?_ ?_|(intro h h';try simp[*,-h] at h'))
   exact⟨by simp[*],fun d' i c hd=>by have hd2:d'≠k+1:=(by omega);have hd3:d'<=k+1:=(by omega);simp[*]⟩
theorem Yz {m:List (Tx×Fu)}{g gm:Nat}{ag:Bool}{ks:List Value}{rs:List (List AV)}(hm:TM m ag ks rs): ∀N,N<=1048576-> ∀l:List Sy.Ex,exSize l<=N-> ∀(t:Int) (k:Nat),TC g gm ag ks rs k 252 [.ptr ⟨0,10012,0⟩ g 0,.sl false 5 (exRows l),iv t] (bv (tyAll m l t))
 |0,h,l,hl,t,k=>Yy 0 h (fun e he=>by have:=e.size_pos;omega) l hl t k
 |N+1,h,l,hl,t,k=>Yy (N+1) h (fun e he k=>D8a hm N (fun l hl t k=>Yz hm N (by omega) l hl t k) e he k) l hl t k
theorem E4 {m:List (Tx×Fu)}{g gm:Nat}{ag:Bool}{ks:List Value}{rs:List (List AV)}(hm:TM m ag ks rs)(l:List Sy.Ex)(hl:exSize l<=1048576)(t:Int)(k:Nat):TC g gm ag ks rs k 252 [.ptr ⟨0,10012,0⟩ g 0,.sl false 5 (exRows l),iv t] (bv (tyAll m l t)):=Yz hm 1048576 (Nat.le_refl _) l hl t k
end Go.Proofs.YtpmoibjpjlhcgaaGreatDoor
namespace Go.Proofs.YtpmoibjpjlhcgaaGreatDoor
open Go Go.Ab Go.Ab.Sy
theorem knE_mk (m:List (Tx×Fu))(k o n:Int)(s:Tx)(l:List Sy.Ex):knE m (.mk k o n s l)=((decide (k≠4)||(Sy.look m s).isSome)&&knEs m l):=by rw[knE]
theorem knS_mk (m:List (Tx×Fu))(k:Int)(s:Tx)(e:List Sy.Ex)(t f:List Sy.St):knS m (.mk k s e t f)=((decide (k≠6)||(Sy.look m s).isSome)&&knEs m e&&knSs m t&&knSs m f):=by rw[knS]
theorem tyS_mk (m:List (Tx×Fu))(w:Bool)(k:Int)(s:Tx)(e:List Sy.Ex)(t f:List Sy.St):tyS m w (.mk k s e t f)=((decide (k≠6)|| !Dh m s)&&(decide (k≠7)||(e.length==0||w))&&tyAll m e (if k=4\/k=5 then 2 else 1)&&tySs m w t&&tySs m w f):=by rw[tyS]
theorem Lf (m:List (Tx×Fu)):knEs m []=true:=by rw[knEs]
theorem Lg (m:List (Tx×Fu))(e:Sy.Ex)(l:List Sy.Ex):knEs m (e::l)=(knE m e&&knEs m l):=by rw[knEs]
theorem knSs_nl (m:List (Tx×Fu)):knSs m []=true:=by rw[knSs]
theorem knSs_cn (m:List (Tx×Fu))(e:Sy.St)(l:List Sy.St):knSs m (e::l)=(knS m e&&knSs m l):=by rw[knSs]
theorem tySs_nl (m:List (Tx×Fu))(w:Bool):tySs m w []=true:=by rw[tySs]
theorem tySs_cn (m:List (Tx×Fu))(w:Bool)(e:Sy.St)(l:List Sy.St):tySs m w (e::l)=(tyS m w e&&tySs m w l):=by rw[tySs]
theorem known_s {m:List (Tx×Fu)}{g gm:Nat}{ag:Bool}{ks:List Value}{rs:List (List AV)}(hm:TM m ag ks rs)(N:Nat)(hN:N<=1048576)(ih: ∀e:Sy.Ex,e.size<=N-> ∀k,TC g gm ag ks rs k 251 [.ptr ⟨0,10012,0⟩ g 0,.agg e.row] (bv (knE m e)))(e:Sy.Ex)(he:e.size<=N+1)(k:Nat):TC g gm ag ks rs k 251 [.ptr ⟨0,10012,0⟩ g 0,.agg e.row] (bv (knE m e)):=by
 refine TC.of fun d hp1 b1 m1=>?_
 refine Af (k1:=k+1) (PR:=fun _ _=>False) rfl Tryz.func251 (Ak (by decide)) rfl Vz rfl rvs_251 ?_
 obtain⟨ek,eo,en,ex,l⟩:=e
 simp only[A2] at he
 have hlen:l.length<=1048576:=by have:=Bv l;omega
 rw[Au,knE_mk]
 by_cases h4:ek=4
 ·subst h4
  cases hl:Sy.look m ex with
  |some t=>
   obtain⟨j,k1,k2,hag⟩:=hm.some hl
   obtain⟨r1,r2,r3,r4,r5⟩:=t
   simp only[A3] at k2
   repeat' (first|((with_reducible apply A7);(apply Ao (ps:=[(0,4),(1,4),(2,4),(3,4),(0,5),(1,5),(2,5),(3,5),(8,9),(0,10),(1,10),(2,10),(3,10),(4,10),(5,10),(6,10),(7,10),(8,10),(9,10),(9,11)]));kernel_rfl;(iterate 9 refine Zk ?_);(iterate 11 refine Zs ?_);(exact Zz))|(refine Z1 ?_)|(refine Z2 ?_ ?_)|(intro h h';try simp[*,-h] at h'))
   refine Ah (n:=l.length) (fun s0 m' z=> ∃j:Nat,l.length - j<=m'/\j<=l.length/\z.fr 0= .ptr ⟨0,10012,0⟩ g 0/\z.fr 25= .sl false 5 (exRows l)/\z.fr 26=iv l.length/\z.fr 27=iv j/\z.hp ⟨0,10012,0⟩= .box g [.mp ⟨0,10010,0⟩ gm,.sc .nilFunc,.fn 246 [],.fn 246 [],.fn 1000248 [.ptr ⟨0,10012,0⟩ g 0],.fn 1000249 [.ptr ⟨0,10012,0⟩ g 0],.fn 246 [],.fn 1000250 [.ptr ⟨0,10012,0⟩ g 0],.fn 1000247 [.ptr ⟨0,10012,0⟩ g 0],.fn 1000247 [.ptr ⟨0,10012,0⟩ g 0],.fn 1000247 [.ptr ⟨0,10012,0⟩ g 0]] false/\z.hp ⟨0,10010,0⟩= .map gm ag ks rs false/\(∀d' i c,d'<=k->z.hp ⟨d',i,c⟩=hp1 ⟨d',i,c⟩)/\knEs m l=knEs m (l.drop j)) ⟨0,by omega,by omega,by simp[*],by simp[*],by simp[*],by simp[*],by simp[*],by simp[*],fun d' i c hd=>by have hd2:d'≠k+1:=(by omega);have hd3:d'<=k+1:=(by omega);simp[*],by simp⟩ ?_
   rintro m' ⟨fr,hp⟩ ⟨j,hm',hj,f0,fl,fn,fi,b2,m2,HK,hd⟩
   simp only at f0 fl fn fi b2 m2 HK
   clear b1 m1
   by_cases hlt:j<l.length
   ·have e1:(j:Int)<l.length:=by omega
    have hg:l[j]?=some l[j]:=List.getElem?_eq_getElem hlt
    have hwi:IntKind.i64.wrap ((j:Int)+1)=(j:Int)+1:=wrapN (by omega)
    rw[List.drop_eq_getElem_cons hlt,Lg] at hd
    generalize l[j]=e at*
    have hgt:=Ge hg
    have hst:=B5 hg
    have tcE:=ih e (by omega) (k+1)
    generalize knE m e=te at*
    obtain⟨xk,xo,xn,xx,xkids⟩:=e
    simp only[Au] at hgt tcE
    obtain⟨G1,a1,c1⟩:=tcE.rules
    have HD:=Lib.hid hd
    have HK:=Lib.hid HK
    clear hg hlt hd tcE
    repeat' (first|refine ZN ?_|refine Z2 ?_ ?_|(intro h h';try simp[*,-h] at h'))
    all_goals have hd:=HD.out
    all_goals have HK:=HK.out
    ·exact⟨by rw[hd];simp[*],fun d' i c hd=>by have hd2:d'≠k+1:=(by omega);have hd3:d'<=k+1:=(by omega);simp[*]⟩
    ·exact⟨l.length - (j+1),by omega,j+1,by omega,by omega,by simp[*],by simp[*],by simp[*],by simp[*],by simp[*],by simp[*],fun d' i c hd=>by have hd2:d'≠k+1:=(by omega);have hd3:d'<=k+1:=(by omega);simp[*],by rw[hd];simp[*]⟩
   ·have e1: ¬(j:Int)<l.length:=by omega
    have hd2:knEs m l=true:=by rw[hd,List.drop_eq_nil_of_le (by omega),Lf]
    clear hd
    repeat' (first|refine ZN ?_|refine Z2 ?_ ?_|(intro h h';try simp[*,-h] at h'))
    exact⟨by rw[hd2];simp[*],HK⟩
  |none=>
   have k1:=hm.none hl
   repeat' (first|((with_reducible apply A7);(apply Ao (ps:=[(0,4),(1,4),(2,4),(3,4),(0,5),(1,5),(2,5),(3,5),(8,9),(0,10),(1,10),(2,10),(3,10),(4,10),(5,10),(6,10),(7,10),(8,10),(9,10),(9,11)]));kernel_rfl;(iterate 9 refine Zk ?_);(iterate 11 refine Zs ?_);(exact Zz))|(refine Z1 ?_)|(refine Z2 ?_ ?_)|(intro h h';try simp[*,-h] at h'))
   exact⟨by simp,fun d' i c hd=>by have hd2:d'≠k+1:=(by omega);have hd3:d'<=k+1:=(by omega);simp[*]⟩
 ·repeat' (first|refine ZN ?_|refine Z2 ?_ ?_|(intro h h';try simp[*,-h] at h'))
  refine Ah (n:=l.length) (fun s0 m' z=> ∃j:Nat,l.length - j<=m'/\j<=l.length/\z.fr 0= .ptr ⟨0,10012,0⟩ g 0/\z.fr 25= .sl false 5 (exRows l)/\z.fr 26=iv l.length/\z.fr 27=iv j/\z.hp ⟨0,10012,0⟩= .box g [.mp ⟨0,10010,0⟩ gm,.sc .nilFunc,.fn 246 [],.fn 246 [],.fn 1000248 [.ptr ⟨0,10012,0⟩ g 0],.fn 1000249 [.ptr ⟨0,10012,0⟩ g 0],.fn 246 [],.fn 1000250 [.ptr ⟨0,10012,0⟩ g 0],.fn 1000247 [.ptr ⟨0,10012,0⟩ g 0],.fn 1000247 [.ptr ⟨0,10012,0⟩ g 0],.fn 1000247 [.ptr ⟨0,10012,0⟩ g 0]] false/\z.hp ⟨0,10010,0⟩= .map gm ag ks rs false/\(∀d' i c,d'<=k->z.hp ⟨d',i,c⟩=hp1 ⟨d',i,c⟩)/\knEs m l=knEs m (l.drop j)) ⟨0,by omega,by omega,by simp[*],by simp[*],by simp[*],by simp[*],by simp[*],by simp[*],fun d' i c hd=>by have hd2:d'≠k+1:=(by omega);have hd3:d'<=k+1:=(by omega);simp[*],by simp⟩ ?_
  rintro m' ⟨fr,hp⟩ ⟨j,hm',hj,f0,fl,fn,fi,b2,m2,HK,hd⟩
  simp only at f0 fl fn fi b2 m2 HK
  clear b1 m1
  by_cases hlt:j<l.length
  ·have e1:(j:Int)<l.length:=by omega
   have hg:l[j]?=some l[j]:=List.getElem?_eq_getElem hlt
   have hwi:IntKind.i64.wrap ((j:Int)+1)=(j:Int)+1:=wrapN (by omega)
   rw[List.drop_eq_getElem_cons hlt,Lg] at hd
   generalize l[j]=e at*
   have hgt:=Ge hg
   have hst:=B5 hg
   have tcE:=ih e (by omega) (k+1)
   generalize knE m e=te at*
   obtain⟨xk,xo,xn,xx,xkids⟩:=e
   simp only[Au] at hgt tcE
   obtain⟨G1,a1,c1⟩:=tcE.rules
   have HD:=Lib.hid hd
   have HK:=Lib.hid HK
   clear hg hlt hd tcE
   repeat' (first|refine ZN ?_|refine Z2 ?_ ?_|(intro h h';try simp[*,-h] at h'))
   all_goals have hd:=HD.out
   all_goals have HK:=HK.out
   ·exact⟨by rw[hd];simp[*],fun d' i c hd=>by have hd2:d'≠k+1:=(by omega);have hd3:d'<=k+1:=(by omega);simp[*]⟩
   ·exact⟨l.length - (j+1),by omega,j+1,by omega,by omega,by simp[*],by simp[*],by simp[*],by simp[*],by simp[*],by simp[*],fun d' i c hd=>by have hd2:d'≠k+1:=(by omega);have hd3:d'<=k+1:=(by omega);simp[*],by rw[hd];simp[*]⟩
  ·have e1: ¬(j:Int)<l.length:=by omega
   have hd2:knEs m l=true:=by rw[hd,List.drop_eq_nil_of_le (by omega),Lf]
   clear hd
   repeat' (first|refine ZN ?_|refine Z2 ?_ ?_|(intro h h';try simp[*,-h] at h'))
   exact⟨by rw[hd2];simp[*],HK⟩
theorem Zy {m:List (Tx×Fu)}{g gm:Nat}{ag:Bool}{ks:List Value}{rs:List (List AV)}(hm:TM m ag ks rs): ∀N,N<=1048576-> ∀e:Sy.Ex,e.size<=N-> ∀k:Nat,TC g gm ag ks rs k 251 [.ptr ⟨0,10012,0⟩ g 0,.agg e.row] (bv (knE m e))
 |0,h,e,he,k=>by have:=e.size_pos;omega
 |N+1,h,e,he,k=>known_s hm N (by omega) (fun e he k=>Zy hm N (by omega) e he k) e he k
theorem Zx {m:List (Tx×Fu)}{g gm:Nat}{ag:Bool}{ks:List Value}{rs:List (List AV)}(hm:TM m ag ks rs)(e:Sy.Ex)(he:e.size<=1048576)(k:Nat):TC g gm ag ks rs k 251 [.ptr ⟨0,10012,0⟩ g 0,.agg e.row] (bv (knE m e)):=Zy hm 1048576 (Nat.le_refl _) e he k
end Go.Proofs.YtpmoibjpjlhcgaaGreatDoor
namespace Go.Proofs.YtpmoibjpjlhcgaaGreatDoor
open Go Go.Ab Go.Ab.Sy
theorem Nk {m:List (Tx×Fu)}{g gm:Nat}{ag:Bool}{ks:List Value}{rs:List (List AV)}(hm:TM m ag ks rs)(N:Nat)(hN:N<=1048576)(ih: ∀l:List Sy.St,stSize l<N-> ∀k,TC g gm ag ks rs k 172 [.ptr ⟨0,10012,0⟩ g 0,.sl false 5 (stRows l)] (bv (knSs m l)))(l:List Sy.St)(hl:stSize l<=N)(k:Nat):TC g gm ag ks rs k 172 [.ptr ⟨0,10012,0⟩ g 0,.sl false 5 (stRows l)] (bv (knSs m l)):=by
 refine TC.of fun d hp1 b1 m1=>?_
 refine Af (k1:=k+1) (PR:=fun _ _=>False) rfl Tryz.func172 (Ak (by decide)) rfl Xg rfl rvs_172 ?_
 have hlen:l.length<=1048576:=by have:=Cj l;omega
 repeat' (first|refine ZN ?_|refine Z2 ?_ ?_|(intro h h';try simp[*,-h] at h'))
 refine Ah (n:=l.length) (fun s0 m' z=> ∃j:Nat,l.length - j<=m'/\j<=l.length/\z.fr 0= .ptr ⟨0,10012,0⟩ g 0/\z.fr 11= .sl false 5 (stRows l)/\z.fr 12=iv l.length/\z.fr 13=iv j/\z.hp ⟨0,10012,0⟩= .box g [.mp ⟨0,10010,0⟩ gm,.sc .nilFunc,.fn 246 [],.fn 246 [],.fn 1000248 [.ptr ⟨0,10012,0⟩ g 0],.fn 1000249 [.ptr ⟨0,10012,0⟩ g 0],.fn 246 [],.fn 1000250 [.ptr ⟨0,10012,0⟩ g 0],.fn 1000247 [.ptr ⟨0,10012,0⟩ g 0],.fn 1000247 [.ptr ⟨0,10012,0⟩ g 0],.fn 1000247 [.ptr ⟨0,10012,0⟩ g 0]] false/\z.hp ⟨0,10010,0⟩= .map gm ag ks rs false/\(∀d' i c,d'<=k->z.hp ⟨d',i,c⟩=hp1 ⟨d',i,c⟩)/\knSs m l=knSs m (l.drop j)) ⟨0,by omega,by omega,by simp[*],by simp[*],by simp[*],by simp[*],by simp[*],by simp[*],fun d' i c hd=>by have hd2:d'≠k+1:=(by omega);have hd3:d'<=k+1:=(by omega);simp[*],by simp⟩ ?_
 rintro m' ⟨fr,hp⟩ ⟨j,hm',hj,f0,fl,fn,fi,b2,m2,HK,hd⟩
 simp only at f0 fl fn fi b2 m2 HK
 clear b1 m1
 by_cases hlt:j<l.length
 ·have e1:(j:Int)<l.length:=by omega
  have hg:l[j]?=some l[j]:=List.getElem?_eq_getElem hlt
  have hwi:IntKind.i64.wrap ((j:Int)+1)=(j:Int)+1:=wrapN (by omega)
  rw[List.drop_eq_getElem_cons hlt,knSs_cn] at hd
  generalize l[j]=e at*
  have hgt:=L1 hg
  have hst:=Dt hg
  obtain⟨ek,ex,ee,eth,eel⟩:=e
  simp only[C3] at hgt
  simp only[Cl] at hst
  rw[knS_mk] at hd
  have hel:ee.length<=1048576:=by have:=Bv ee;omega
  by_cases h6:ek=6
  ·subst h6
   cases hlk:Sy.look m ex with
   |some t=>
    obtain⟨jj,k1,k2,hag⟩:=hm.some hlk
    obtain⟨r1,r2,r3,r4,r5⟩:=t
    simp only[A3] at k2
    rw[hlk] at hd
    have HD:=Lib.hid hd
    have HK:=Lib.hid HK
    clear hg hlt hd
    repeat' (first|((with_reducible apply A7);(apply Ao (ps:=[(0,4),(1,4),(2,4),(3,4),(0,5),(1,5),(2,5),(3,5),(8,9),(0,10),(1,10),(2,10),(3,10),(4,10),(5,10),(6,10),(7,10),(8,10),(9,10),(9,11)]));kernel_rfl;(iterate 9 refine Zk ?_);(iterate 11 refine Zs ?_);(exact Zz))|(refine Z1 ?_)|(refine Z2 ?_ ?_)|(intro h h';try simp[*,-h] at h'))
    generalize hg6:(hp ⟨k+1,6,0⟩).gen+1=g6 at*
    clear hg6
    refine Ah (n:=ee.length) (fun s0 m'' z=> ∃i:Nat,ee.length - i<=m''/\i<=ee.length/\z.fr 0= .ptr ⟨0,10012,0⟩ g 0/\z.fr 6= .ptr ⟨k+1,6,0⟩ g6 0/\z.fr 11= .sl false 5 (stRows l)/\z.fr 12=iv l.length/\z.fr 13=iv j/\z.fr 33= .sl false 5 (exRows ee)/\z.fr 34=iv ee.length/\z.fr 35=iv i/\z.hp ⟨k+1,6,0⟩= .box g6 [iz 6,tz ex.val,.sl false 5 (exRows ee),.sl false 5 (stRows eth),.sl false 5 (stRows eel)] false/\z.hp ⟨0,10012,0⟩= .box g [.mp ⟨0,10010,0⟩ gm,.sc .nilFunc,.fn 246 [],.fn 246 [],.fn 1000248 [.ptr ⟨0,10012,0⟩ g 0],.fn 1000249 [.ptr ⟨0,10012,0⟩ g 0],.fn 246 [],.fn 1000250 [.ptr ⟨0,10012,0⟩ g 0],.fn 1000247 [.ptr ⟨0,10012,0⟩ g 0],.fn 1000247 [.ptr ⟨0,10012,0⟩ g 0],.fn 1000247 [.ptr ⟨0,10012,0⟩ g 0]] false/\z.hp ⟨0,10010,0⟩= .map gm ag ks rs false/\(∀d' i c,d'<=k->z.hp ⟨d',i,c⟩=hp1 ⟨d',i,c⟩)/\knEs m ee=knEs m (ee.drop i)) ⟨0,by omega,by omega,by simp[*],by simp[*],by simp[*],by simp[*],by simp[*],by simp[*],by simp[*],by simp[*],by simp[*],by simp[*],by simp[*],fun d' i c hd=>by have hd2:d'≠k+1:=(by omega);simp[*];try exact HK.out d' i c hd,by simp⟩ ?_
    rintro m'' ⟨fr',hp'⟩ ⟨i,hmi,hi,f0',f6',f11',f12',f13',f33',f34',f35',b6',b2',m2',HK',hdi⟩
    simp only at f0' f6' f11' f12' f13' f33' f34' f35' b6' b2' m2' HK'
    clear f0 fl fn fi b2 m2 HK
    by_cases hlti:i<ee.length
    ·have e1i:(i:Int)<ee.length:=by omega
     have hgi:ee[i]?=some ee[i]:=List.getElem?_eq_getElem hlti
     have hwii:IntKind.i64.wrap ((i:Int)+1)=(i:Int)+1:=wrapN (by omega)
     rw[List.drop_eq_getElem_cons hlti,Lg] at hdi
     generalize ee[i]=e at*
     have hgti:=Ge hgi
     have hsti:=B5 hgi
     have tcE:=Zx (g:=g) (gm:=gm) hm e (by omega) (k+1)
     generalize knE m e=te at*
     obtain⟨xk,xo,xn,xx,xkids⟩:=e
     simp only[Au] at hgti tcE
     obtain⟨G1,a1,c1⟩:=tcE.rules
     have HDi:=Lib.hid hdi
     have HKi:=Lib.hid HK'
     clear hgi hlti hdi tcE HK'
     repeat' (first|refine ZN ?_|refine Z2 ?_ ?_|(intro h h';try simp[*,-h] at h'))
     all_goals have hdi:=HDi.out
     all_goals have HK':=HKi.out
     ·have hd:=HD.out
      exact⟨by rw[hd,hdi];simp[*],fun d' i c hd=>by have hd2:d'≠k+1:=(by omega);have hd3:d'<=k+1:=(by omega);simp[*]⟩
     ·exact⟨ee.length - (i+1),by omega,i+1,by omega,by omega,by simp[*],by simp[*],by simp[*],by simp[*],by simp[*],by simp[*],by simp[*],by simp[*],by simp[*],by simp[*],by simp[*],fun d' i c hd=>by have hd2:d'≠k+1:=(by omega);have hd3:d'<=k+1:=(by omega);simp[*],by rw[hdi];simp[*]⟩
    ·have e1i: ¬(i:Int)<ee.length:=by omega
     have hd2:knEs m ee=true:=by rw[hdi,List.drop_eq_nil_of_le (by omega),Lf]
     have HKi:=Lib.hid HK'
     have HK2:=Lib.hid hd2
     clear hdi hd2 HK'
     have tcT:=ih eth (by omega) (k+1)
     have tcL:=ih eel (by omega) (k+1)
     generalize knSs m eth=bth at*
     generalize knSs m eel=bel at*
     obtain⟨G2,a2,c2⟩:=tcT.rules
     obtain⟨G3,a3,c3⟩:=tcL.rules
     clear tcT tcL
     repeat' (first|refine ZN ?_|refine Z2 ?_ ?_|(intro h h';try simp[*,-h] at h'))
     all_goals have hd:=HD.out
     all_goals have hd2:=HK2.out
     all_goals have HK':=HKi.out
     all_goals first
      |exact⟨l.length - (j+1),by omega,j+1,by omega,by omega,by simp[*],by simp[*],by simp[*],by simp[*],by simp[*],by simp[*],fun d' i c hd=>by have hd2:d'≠k+1:=(by omega);have hd3:d'<=k+1:=(by omega);simp[*],by rw[hd];simp[*]⟩
      |exact⟨by rw[hd];simp[*],fun d' i c hd=>by have hd2:d'≠k+1:=(by omega);have hd3:d'<=k+1:=(by omega);simp[*]⟩
      |(refine⟨l.length - (j+1),by omega,j+1,by omega,by omega,?_,?_,?_,?_,?_,?_,fun d' i c hd=>by have hd2:d'≠k+1:=(by omega);have hd3:d'<=k+1:=(by omega);simp[*],?_⟩<;>(first|(simp[*];done)|(rw[hd];simp[*];done)))
   |none=>
    have k1:=hm.none hlk
    rw[hlk] at hd
    have HD:=Lib.hid hd
    have HK:=Lib.hid HK
    clear hg hlt hd
    repeat' (first|((with_reducible apply A7);(apply Ao (ps:=[(0,4),(1,4),(2,4),(3,4),(0,5),(1,5),(2,5),(3,5),(8,9),(0,10),(1,10),(2,10),(3,10),(4,10),(5,10),(6,10),(7,10),(8,10),(9,10),(9,11)]));kernel_rfl;(iterate 9 refine Zk ?_);(iterate 11 refine Zs ?_);(exact Zz))|(refine Z1 ?_)|(refine Z2 ?_ ?_)|(intro h h';try simp[*,-h] at h'))
    have hd:=HD.out
    have HK:=HK.out
    exact⟨by rw[hd];simp,fun d' i c hd=>by have hd2:d'≠k+1:=(by omega);have hd3:d'<=k+1:=(by omega);simp[*]⟩
  ·have HD:=Lib.hid hd
   have HK:=Lib.hid HK
   clear hg hlt hd
   repeat' (first|refine ZN ?_|refine Z2 ?_ ?_|(intro h h';try simp[*,-h] at h'))
   generalize hg6:(hp ⟨k+1,6,0⟩).gen+1=g6 at*
   clear hg6
   refine Ah (n:=ee.length) (fun s0 m'' z=> ∃i:Nat,ee.length - i<=m''/\i<=ee.length/\z.fr 0= .ptr ⟨0,10012,0⟩ g 0/\z.fr 6= .ptr ⟨k+1,6,0⟩ g6 0/\z.fr 11= .sl false 5 (stRows l)/\z.fr 12=iv l.length/\z.fr 13=iv j/\z.fr 33= .sl false 5 (exRows ee)/\z.fr 34=iv ee.length/\z.fr 35=iv i/\z.hp ⟨k+1,6,0⟩= .box g6 [iz ek,tz ex.val,.sl false 5 (exRows ee),.sl false 5 (stRows eth),.sl false 5 (stRows eel)] false/\z.hp ⟨0,10012,0⟩= .box g [.mp ⟨0,10010,0⟩ gm,.sc .nilFunc,.fn 246 [],.fn 246 [],.fn 1000248 [.ptr ⟨0,10012,0⟩ g 0],.fn 1000249 [.ptr ⟨0,10012,0⟩ g 0],.fn 246 [],.fn 1000250 [.ptr ⟨0,10012,0⟩ g 0],.fn 1000247 [.ptr ⟨0,10012,0⟩ g 0],.fn 1000247 [.ptr ⟨0,10012,0⟩ g 0],.fn 1000247 [.ptr ⟨0,10012,0⟩ g 0]] false/\z.hp ⟨0,10010,0⟩= .map gm ag ks rs false/\(∀d' i c,d'<=k->z.hp ⟨d',i,c⟩=hp1 ⟨d',i,c⟩)/\knEs m ee=knEs m (ee.drop i)) ⟨0,by omega,by omega,by simp[*],by simp[*],by simp[*],by simp[*],by simp[*],by simp[*],by simp[*],by simp[*],by simp[*],by simp[*],by simp[*],fun d' i c hd=>by have hd2:d'≠k+1:=(by omega);simp[*];try exact HK.out d' i c hd,by simp⟩ ?_
   rintro m'' ⟨fr',hp'⟩ ⟨i,hmi,hi,f0',f6',f11',f12',f13',f33',f34',f35',b6',b2',m2',HK',hdi⟩
   simp only at f0' f6' f11' f12' f13' f33' f34' f35' b6' b2' m2' HK'
   clear f0 fl fn fi b2 m2 HK
   by_cases hlti:i<ee.length
   ·have e1i:(i:Int)<ee.length:=by omega
    have hgi:ee[i]?=some ee[i]:=List.getElem?_eq_getElem hlti
    have hwii:IntKind.i64.wrap ((i:Int)+1)=(i:Int)+1:=wrapN (by omega)
    rw[List.drop_eq_getElem_cons hlti,Lg] at hdi
    generalize ee[i]=e at*
    have hgti:=Ge hgi
    have hsti:=B5 hgi
    have tcE:=Zx (g:=g) (gm:=gm) hm e (by omega) (k+1)
    generalize knE m e=te at*
    obtain⟨xk,xo,xn,xx,xkids⟩:=e
    simp only[Au] at hgti tcE
    obtain⟨G1,a1,c1⟩:=tcE.rules
    have HDi:=Lib.hid hdi
    have HKi:=Lib.hid HK'
    clear hgi hlti hdi tcE HK'
    repeat' (first|refine ZN ?_|refine Z2 ?_ ?_|(intro h h';try simp[*,-h] at h'))
    all_goals have hdi:=HDi.out
    all_goals have HK':=HKi.out
    ·have hd:=HD.out
     exact⟨by rw[hd,hdi];simp[*],fun d' i c hd=>by have hd2:d'≠k+1:=(by omega);have hd3:d'<=k+1:=(by omega);simp[*]⟩
    ·exact⟨ee.length - (i+1),by omega,i+1,by omega,by omega,by simp[*],by simp[*],by simp[*],by simp[*],by simp[*],by simp[*],by simp[*],by simp[*],by simp[*],by simp[*],by simp[*],fun d' i c hd=>by have hd2:d'≠k+1:=(by omega);have hd3:d'<=k+1:=(by omega);simp[*],by rw[hdi];simp[*]⟩
   ·have e1i: ¬(i:Int)<ee.length:=by omega
    have hd2:knEs m ee=true:=by rw[hdi,List.drop_eq_nil_of_le (by omega),Lf]
    have HKi:=Lib.hid HK'
    have HK2:=Lib.hid hd2
    clear hdi hd2 HK'
    have tcT:=ih eth (by omega) (k+1)
    have tcL:=ih eel (by omega) (k+1)
    generalize knSs m eth=bth at*
    generalize knSs m eel=bel at*
    obtain⟨G2,a2,c2⟩:=tcT.rules
    obtain⟨G3,a3,c3⟩:=tcL.rules
    clear tcT tcL
    repeat' (first|refine ZN ?_|refine Z2 ?_ ?_|(intro h h';try simp[*,-h] at h'))
    all_goals have hd:=HD.out
    all_goals have hd2:=HK2.out
    all_goals have HK':=HKi.out
    all_goals first
     |exact⟨l.length - (j+1),by omega,j+1,by omega,by omega,by simp[*],by simp[*],by simp[*],by simp[*],by simp[*],by simp[*],fun d' i c hd=>by have hd2:d'≠k+1:=(by omega);have hd3:d'<=k+1:=(by omega);simp[*],by rw[hd];simp[*]⟩
     |exact⟨by rw[hd];simp[*],fun d' i c hd=>by have hd2:d'≠k+1:=(by omega);have hd3:d'<=k+1:=(by omega);simp[*]⟩
     |(refine⟨l.length - (j+1),by omega,j+1,by omega,by omega,?_,?_,?_,?_,?_,?_,fun d' i c hd=>by have hd2:d'≠k+1:=(by omega);have hd3:d'<=k+1:=(by omega);simp[*],?_⟩<;>(first|(simp[*];done)|(rw[hd];simp[*];done)))
 ·have e1: ¬(j:Int)<l.length:=by omega
  have hd2:knSs m l=true:=by rw[hd,List.drop_eq_nil_of_le (by omega),knSs_nl]
  clear hd
  repeat' (first|refine ZN ?_|refine Z2 ?_ ?_|(intro h h';try simp[*,-h] at h'))
  exact⟨by rw[hd2],HK⟩
theorem Nl {m:List (Tx×Fu)}{g gm:Nat}{ag:Bool}{ks:List Value}{rs:List (List AV)}(hm:TM m ag ks rs): ∀N,N<=1048576-> ∀l:List Sy.St,stSize l<=N-> ∀k:Nat,TC g gm ag ks rs k 172 [.ptr ⟨0,10012,0⟩ g 0,.sl false 5 (stRows l)] (bv (knSs m l))
 |0,h,l,hl,k=>Nk hm 0 h (fun l h'=>by omega) l hl k
 |N+1,h,l,hl,k=>Nk hm (N+1) h (fun l h' k=>Nl hm N (by omega) l (by omega) k) l hl k
theorem Yv {m:List (Tx×Fu)}{g gm:Nat}{ag:Bool}{ks:List Value}{rs:List (List AV)}(hm:TM m ag ks rs)(l:List Sy.St)(hl:stSize l<=1048576)(k:Nat):TC g gm ag ks rs k 172 [.ptr ⟨0,10012,0⟩ g 0,.sl false 5 (stRows l)] (bv (knSs m l)):=Nl hm 1048576 (Nat.le_refl _) l hl k
end Go.Proofs.YtpmoibjpjlhcgaaGreatDoor
namespace Go.Proofs.YtpmoibjpjlhcgaaGreatDoor
open Go Go.Ab Go.Ab.Sy
theorem Ni {m:List (Tx×Fu)}{g gm:Nat}{ag:Bool}{ks:List Value}{rs:List (List AV)}(hm:TM m ag ks rs)(fnm:Tx)(fps fls:List Tx)(fw:Bool)(fb:List Sy.St)(N:Nat)(hN:N<=1048576)(ih: ∀l:List Sy.St,stSize l<N-> ∀k,TC g gm ag ks rs k 173 [.ptr ⟨0,10012,0⟩ g 0,.agg [tz fnm.val,.sl false 1 (txRows fps),.sl false 1 (txRows fls),bz fw,.sl false 5 (stRows fb)],.sl false 5 (stRows l)] (bv (tySs m fw l)))(l:List Sy.St)(hl:stSize l<=N)(k:Nat):TC g gm ag ks rs k 173 [.ptr ⟨0,10012,0⟩ g 0,.agg [tz fnm.val,.sl false 1 (txRows fps),.sl false 1 (txRows fls),bz fw,.sl false 5 (stRows fb)],.sl false 5 (stRows l)] (bv (tySs m fw l)):=by
 refine TC.of fun d hp1 b1 m1=>?_
 refine Af (k1:=k+1) (PR:=fun _ _=>False) rfl Tryz.func173 (Ak (by decide)) rfl Xf rfl rvs_173 ?_
 have hlen:l.length<=1048576:=by have:=Cj l;omega
 repeat' (first|refine Zp ?_|refine Zr ?_ ?_|(intro h h';try simp[*,-h] at h'))
 generalize hg4:(hp1 ⟨k+1,4,0⟩).gen+1=g4 at*
 clear hg4
 refine Ah (n:=l.length) (fun s0 m' z=> ∃j:Nat,l.length - j<=m'/\j<=l.length/\z.fr 0= .ptr ⟨0,10012,0⟩ g 0/\z.fr 10= .sl false 5 (stRows l)/\z.fr 11=iv l.length/\z.fr 12=iv j/\z.hp ⟨0,10012,0⟩= .box g [.mp ⟨0,10010,0⟩ gm,.sc .nilFunc,.fn 246 [],.fn 246 [],.fn 1000248 [.ptr ⟨0,10012,0⟩ g 0],.fn 1000249 [.ptr ⟨0,10012,0⟩ g 0],.fn 246 [],.fn 1000250 [.ptr ⟨0,10012,0⟩ g 0],.fn 1000247 [.ptr ⟨0,10012,0⟩ g 0],.fn 1000247 [.ptr ⟨0,10012,0⟩ g 0],.fn 1000247 [.ptr ⟨0,10012,0⟩ g 0]] false/\z.hp ⟨0,10010,0⟩= .map gm ag ks rs false/\(∀d' i c,d'<=k->z.hp ⟨d',i,c⟩=hp1 ⟨d',i,c⟩)/\tySs m fw l=tySs m fw (l.drop j)/\z.fr 4= .ptr ⟨k+1,4,0⟩ g4 0/\z.hp ⟨k+1,4,0⟩= .box g4 [tz fnm.val,.sl false 1 (txRows fps),.sl false 1 (txRows fls),bz fw,.sl false 5 (stRows fb)] false) ⟨0,by omega,by omega,by simp (maxDischargeDepth:=8) [*],by simp (maxDischargeDepth:=8) [*],by simp (maxDischargeDepth:=8) [*],by simp (maxDischargeDepth:=8) [*],by simp (maxDischargeDepth:=8) [*],by simp (maxDischargeDepth:=8) [*],fun d' i c hd=>by have hd2:d'≠k+1:=(by omega);have hd3:d'<=k+1:=(by omega);simp (maxDischargeDepth:=8) [*],by simp,by simp (maxDischargeDepth:=8) [*],by simp (maxDischargeDepth:=8) [*]⟩ ?_
 rintro m' ⟨fr,hp⟩ ⟨j,hm',hj,f0,fl,fn,fi,b2,m2,HK,hd,f4,b4⟩
 simp only at f0 fl fn fi b2 m2 HK f4 b4
 clear b1 m1
 by_cases hlt:j<l.length
 ·have e1:(j:Int)<l.length:=by omega
  have hg:l[j]?=some l[j]:=List.getElem?_eq_getElem hlt
  have hwi:IntKind.i64.wrap ((j:Int)+1)=(j:Int)+1:=wrapN (by omega)
  rw[List.drop_eq_getElem_cons hlt,tySs_cn] at hd
  generalize l[j]=e at*
  have hgt:=L1 hg
  have hst:=Dt hg
  obtain⟨ek,ex,ee,eth,eel⟩:=e
  simp only[C3] at hgt
  simp only[Cl] at hst
  rw[tyS_mk] at hd
  have hel:ee.length<=1048576:=by have:=Bv ee;omega
  obtain(rfl|rfl|rfl|rfl|⟨n4,n5,n6,n7⟩):ek=4\/ek=5\/ek=6\/ek=7\/(ek≠4/\ek≠5/\ek≠6/\ek≠7):=by omega
  ·rw[if_pos (by simp:((4:Int)=4\/(4:Int)=5))] at hd
   have tcA:=E4 (g:=g) (gm:=gm) hm ee (by omega) 2 (k+1)
   have tcT:=ih eth (by omega) (k+1)
   have tcL:=ih eel (by omega) (k+1)
   have HD:=Lib.hid hd
   generalize tyAll m ee 2=ba at*
   generalize tySs m fw eth=bth at*
   generalize tySs m fw eel=bel at*
   clear hd
   have hd:=HD.out
   obtain⟨G1,a1,c1⟩:=tcA.rules
   obtain⟨G2,a2,c2⟩:=tcT.rules
   obtain⟨G3,a3,c3⟩:=tcL.rules
   clear tcA tcT tcL HD
   have HD:=Lib.hid hd
   have HK:=Lib.hid HK
   clear hd hg hlt
   repeat' (first|refine Zp ?_|refine Zr ?_ ?_|(intro h h';try simp[*,-h] at h'))
   all_goals have hd:=HD.out
   all_goals have HK:=HK.out
   all_goals first
    |exact⟨l.length - (j+1),by omega,j+1,by omega,by omega,by simp (maxDischargeDepth:=8) [*],by simp (maxDischargeDepth:=8) [*],by simp (maxDischargeDepth:=8) [*],by simp (maxDischargeDepth:=8) [*],by simp (maxDischargeDepth:=8) [*],by simp (maxDischargeDepth:=8) [*],fun d' i c hd=>by have hd2:d'≠k+1:=(by omega);have hd3:d'<=k+1:=(by omega);simp (maxDischargeDepth:=8) [*],by rw[hd];simp (maxDischargeDepth:=8) [*],by simp (maxDischargeDepth:=8) [*],by simp (maxDischargeDepth:=8) [*]⟩
    |exact⟨by rw[hd];simp (maxDischargeDepth:=8) [*],fun d' i c hd=>by have hd2:d'≠k+1:=(by omega);have hd3:d'<=k+1:=(by omega);simp (maxDischargeDepth:=8) [*]⟩
  ·rw[if_pos (by simp:((5:Int)=4\/(5:Int)=5))] at hd
   have tcA:=E4 (g:=g) (gm:=gm) hm ee (by omega) 2 (k+1)
   have tcT:=ih eth (by omega) (k+1)
   have tcL:=ih eel (by omega) (k+1)
   have HD:=Lib.hid hd
   generalize tyAll m ee 2=ba at*
   generalize tySs m fw eth=bth at*
   generalize tySs m fw eel=bel at*
   clear hd
   have hd:=HD.out
   obtain⟨G1,a1,c1⟩:=tcA.rules
   obtain⟨G2,a2,c2⟩:=tcT.rules
   obtain⟨G3,a3,c3⟩:=tcL.rules
   clear tcA tcT tcL HD
   have HD:=Lib.hid hd
   have HK:=Lib.hid HK
   clear hd hg hlt
   repeat' (first|refine Zp ?_|refine Zr ?_ ?_|(intro h h';try simp[*,-h] at h'))
   all_goals have hd:=HD.out
   all_goals have HK:=HK.out
   all_goals first
    |exact⟨l.length - (j+1),by omega,j+1,by omega,by omega,by simp (maxDischargeDepth:=8) [*],by simp (maxDischargeDepth:=8) [*],by simp (maxDischargeDepth:=8) [*],by simp (maxDischargeDepth:=8) [*],by simp (maxDischargeDepth:=8) [*],by simp (maxDischargeDepth:=8) [*],fun d' i c hd=>by have hd2:d'≠k+1:=(by omega);have hd3:d'<=k+1:=(by omega);simp (maxDischargeDepth:=8) [*],by rw[hd];simp (maxDischargeDepth:=8) [*],by simp (maxDischargeDepth:=8) [*],by simp (maxDischargeDepth:=8) [*]⟩
    |exact⟨by rw[hd];simp (maxDischargeDepth:=8) [*],fun d' i c hd=>by have hd2:d'≠k+1:=(by omega);have hd3:d'<=k+1:=(by omega);simp (maxDischargeDepth:=8) [*]⟩
  ·rw[if_neg (by simp: ¬((6:Int)=4\/(6:Int)=5))] at hd
   have tcA:=E4 (g:=g) (gm:=gm) hm ee (by omega) 1 (k+1)
   have tcT:=ih eth (by omega) (k+1)
   have tcL:=ih eel (by omega) (k+1)
   have HD:=Lib.hid hd
   generalize tyAll m ee 1=ba at*
   generalize tySs m fw eth=bth at*
   generalize tySs m fw eel=bel at*
   clear hd
   have hd:=HD.out
   obtain⟨G1,a1,c1⟩:=tcA.rules
   obtain⟨G2,a2,c2⟩:=tcT.rules
   obtain⟨G3,a3,c3⟩:=tcL.rules
   clear tcA tcT tcL HD
   have HD:=Lib.hid hd
   have HK:=Lib.hid HK
   clear hd hg hlt
   have hd:=HD.out
   unfold Dh at hd
   cases hlk:Sy.look m ex with
   |some t=>
    obtain⟨jj,k1,k2,hag⟩:=hm.some hlk
    obtain⟨r1,r2,r3,r4,r5⟩:=t
    simp only[A3] at k2
    rw[hlk] at hd
    simp only at hd
    have HD:=Lib.hid hd
    clear hd
    repeat' (first|refine Zp ?_|refine Zr ?_ ?_|(intro h h';try simp[*,-h] at h'))
    all_goals have hd:=HD.out
    all_goals have HK:=HK.out
    all_goals first
     |exact⟨l.length - (j+1),by omega,j+1,by omega,by omega,by simp (maxDischargeDepth:=8) [*],by simp (maxDischargeDepth:=8) [*],by simp (maxDischargeDepth:=8) [*],by simp (maxDischargeDepth:=8) [*],by simp (maxDischargeDepth:=8) [*],by simp (maxDischargeDepth:=8) [*],fun d' i c hd=>by have hd2:d'≠k+1:=(by omega);have hd3:d'<=k+1:=(by omega);simp (maxDischargeDepth:=8) [*],by rw[hd];simp (maxDischargeDepth:=8) [*],by simp (maxDischargeDepth:=8) [*],by simp (maxDischargeDepth:=8) [*]⟩
     |exact⟨by rw[hd];simp (maxDischargeDepth:=8) [*],fun d' i c hd=>by have hd2:d'≠k+1:=(by omega);have hd3:d'<=k+1:=(by omega);simp (maxDischargeDepth:=8) [*]⟩
   |none=>
    have k1:=hm.none hlk
    rw[hlk] at hd
    simp only at hd
    have HD:=Lib.hid hd
    clear hd
    repeat' (first|refine Zp ?_|refine Zr ?_ ?_|(intro h h';try simp[*,-h] at h'))
    all_goals have hd:=HD.out
    all_goals have HK:=HK.out
    all_goals first
     |exact⟨l.length - (j+1),by omega,j+1,by omega,by omega,by simp (maxDischargeDepth:=8) [*],by simp (maxDischargeDepth:=8) [*],by simp (maxDischargeDepth:=8) [*],by simp (maxDischargeDepth:=8) [*],by simp (maxDischargeDepth:=8) [*],by simp (maxDischargeDepth:=8) [*],fun d' i c hd=>by have hd2:d'≠k+1:=(by omega);have hd3:d'<=k+1:=(by omega);simp (maxDischargeDepth:=8) [*],by rw[hd];simp (maxDischargeDepth:=8) [*],by simp (maxDischargeDepth:=8) [*],by simp (maxDischargeDepth:=8) [*]⟩
     |exact⟨by rw[hd];simp (maxDischargeDepth:=8) [*],fun d' i c hd=>by have hd2:d'≠k+1:=(by omega);have hd3:d'<=k+1:=(by omega);simp (maxDischargeDepth:=8) [*]⟩
  ·rw[if_neg (by simp: ¬((7:Int)=4\/(7:Int)=5))] at hd
   cases hee:ee with
   |nil=>
    subst hee
    have tcA:=E4 (g:=g) (gm:=gm) hm [] (by omega) 1 (k+1)
    have tcT:=ih eth (by omega) (k+1)
    have tcL:=ih eel (by omega) (k+1)
    have HD:=Lib.hid hd
    generalize tyAll m [] 1=ba at*
    generalize tySs m fw eth=bth at*
    generalize tySs m fw eel=bel at*
    clear hd
    have hd:=HD.out
    obtain⟨G1,a1,c1⟩:=tcA.rules
    obtain⟨G2,a2,c2⟩:=tcT.rules
    obtain⟨G3,a3,c3⟩:=tcL.rules
    clear tcA tcT tcL HD
    have HD:=Lib.hid hd
    have HK:=Lib.hid HK
    clear hd hg hlt
    simp only[T9] at a1
    repeat' (first|refine Zp ?_|refine Zr ?_ ?_|(intro h h';try simp[*,-h] at h'))
    all_goals have hd:=HD.out
    all_goals have HK:=HK.out
    all_goals first
     |exact⟨l.length - (j+1),by omega,j+1,by omega,by omega,by simp (maxDischargeDepth:=8) [*],by simp (maxDischargeDepth:=8) [*],by simp (maxDischargeDepth:=8) [*],by simp (maxDischargeDepth:=8) [*],by simp (maxDischargeDepth:=8) [*],by simp (maxDischargeDepth:=8) [*],fun d' i c hd=>by have hd2:d'≠k+1:=(by omega);have hd3:d'<=k+1:=(by omega);simp (maxDischargeDepth:=8) [*],by rw[hd];simp (maxDischargeDepth:=8) [*],by simp (maxDischargeDepth:=8) [*],by simp (maxDischargeDepth:=8) [*]⟩
     |exact⟨by rw[hd];simp (maxDischargeDepth:=8) [*],fun d' i c hd=>by have hd2:d'≠k+1:=(by omega);have hd3:d'<=k+1:=(by omega);simp (maxDischargeDepth:=8) [*]⟩
   |cons e0 ee0=>
    have hne:(ee.length==0)=false:=by rw[hee];rfl
    have hpos:(0:Int)<ee.length:=by rw[hee];simp
    have hne2:ee≠[]:=by rw[hee];simp
    rw[<-hee] at*
    rw[hne] at hd
    clear hee
    obtain rfl|rfl:fw=false\/fw=true:=by cases fw<;>simp
    ·skip
     have tcA:=E4 (g:=g) (gm:=gm) hm ee (by omega) 1 (k+1)
     have tcT:=ih eth (by omega) (k+1)
     have tcL:=ih eel (by omega) (k+1)
     have HD:=Lib.hid hd
     generalize tyAll m ee 1=ba at*
     generalize tySs m false eth=bth at*
     generalize tySs m false eel=bel at*
     clear hd
     have hd:=HD.out
     obtain⟨G1,a1,c1⟩:=tcA.rules
     obtain⟨G2,a2,c2⟩:=tcT.rules
     obtain⟨G3,a3,c3⟩:=tcL.rules
     clear tcA tcT tcL HD
     have HD:=Lib.hid hd
     have HK:=Lib.hid HK
     clear hd hg hlt
     repeat' (first|refine Zp ?_|refine Zr ?_ ?_|(intro h h';try simp[*,-h] at h'))
     all_goals have hd:=HD.out
     all_goals have HK:=HK.out
     all_goals first
      |exact⟨l.length - (j+1),by omega,j+1,by omega,by omega,by simp (maxDischargeDepth:=8) [*],by simp (maxDischargeDepth:=8) [*],by simp (maxDischargeDepth:=8) [*],by simp (maxDischargeDepth:=8) [*],by simp (maxDischargeDepth:=8) [*],by simp (maxDischargeDepth:=8) [*],fun d' i c hd=>by have hd2:d'≠k+1:=(by omega);have hd3:d'<=k+1:=(by omega);simp (maxDischargeDepth:=8) [*],by rw[hd];simp (maxDischargeDepth:=8) [*],by simp (maxDischargeDepth:=8) [*],by simp (maxDischargeDepth:=8) [*]⟩
      |exact⟨by rw[hd];simp (maxDischargeDepth:=8) [*],fun d' i c hd=>by have hd2:d'≠k+1:=(by omega);have hd3:d'<=k+1:=(by omega);simp (maxDischargeDepth:=8) [*]⟩
    ·skip
     have tcA:=E4 (g:=g) (gm:=gm) hm ee (by omega) 1 (k+1)
     have tcT:=ih eth (by omega) (k+1)
     have tcL:=ih eel (by omega) (k+1)
     have HD:=Lib.hid hd
     generalize tyAll m ee 1=ba at*
     generalize tySs m true eth=bth at*
     generalize tySs m true eel=bel at*
     clear hd
     have hd:=HD.out
     obtain⟨G1,a1,c1⟩:=tcA.rules
     obtain⟨G2,a2,c2⟩:=tcT.rules
     obtain⟨G3,a3,c3⟩:=tcL.rules
     clear tcA tcT tcL HD
     have HD:=Lib.hid hd
     have HK:=Lib.hid HK
     clear hd hg hlt
     repeat' (first|refine Zp ?_|refine Zr ?_ ?_|(intro h h';try simp[*,-h] at h'))
     all_goals have hd:=HD.out
     all_goals have HK:=HK.out
     all_goals first
      |exact⟨l.length - (j+1),by omega,j+1,by omega,by omega,by simp (maxDischargeDepth:=8) [*],by simp (maxDischargeDepth:=8) [*],by simp (maxDischargeDepth:=8) [*],by simp (maxDischargeDepth:=8) [*],by simp (maxDischargeDepth:=8) [*],by simp (maxDischargeDepth:=8) [*],fun d' i c hd=>by have hd2:d'≠k+1:=(by omega);have hd3:d'<=k+1:=(by omega);simp (maxDischargeDepth:=8) [*],by rw[hd];simp (maxDischargeDepth:=8) [*],by simp (maxDischargeDepth:=8) [*],by simp (maxDischargeDepth:=8) [*]⟩
      |exact⟨by rw[hd];simp (maxDischargeDepth:=8) [*],fun d' i c hd=>by have hd2:d'≠k+1:=(by omega);have hd3:d'<=k+1:=(by omega);simp (maxDischargeDepth:=8) [*]⟩
  ·rw[if_neg (by simp[n4,n5]: ¬(ek=4\/ek=5))] at hd
   have tcA:=E4 (g:=g) (gm:=gm) hm ee (by omega) 1 (k+1)
   have tcT:=ih eth (by omega) (k+1)
   have tcL:=ih eel (by omega) (k+1)
   have HD:=Lib.hid hd
   generalize tyAll m ee 1=ba at*
   generalize tySs m fw eth=bth at*
   generalize tySs m fw eel=bel at*
   clear hd
   have hd:=HD.out
   obtain⟨G1,a1,c1⟩:=tcA.rules
   obtain⟨G2,a2,c2⟩:=tcT.rules
   obtain⟨G3,a3,c3⟩:=tcL.rules
   clear tcA tcT tcL HD
   have HD:=Lib.hid hd
   have HK:=Lib.hid HK
   clear hd hg hlt
   repeat' (first|refine Zp ?_|refine Zr ?_ ?_|(intro h h';try simp[*,-h] at h'))
   all_goals have hd:=HD.out
   all_goals have HK:=HK.out
   all_goals first
    |exact⟨l.length - (j+1),by omega,j+1,by omega,by omega,by simp (maxDischargeDepth:=8) [*],by simp (maxDischargeDepth:=8) [*],by simp (maxDischargeDepth:=8) [*],by simp (maxDischargeDepth:=8) [*],by simp (maxDischargeDepth:=8) [*],by simp (maxDischargeDepth:=8) [*],fun d' i c hd=>by have hd2:d'≠k+1:=(by omega);have hd3:d'<=k+1:=(by omega);simp (maxDischargeDepth:=8) [*],by rw[hd];simp (maxDischargeDepth:=8) [*],by simp (maxDischargeDepth:=8) [*],by simp (maxDischargeDepth:=8) [*]⟩
    |exact⟨by rw[hd];simp (maxDischargeDepth:=8) [*],fun d' i c hd=>by have hd2:d'≠k+1:=(by omega);have hd3:d'<=k+1:=(by omega);simp (maxDischargeDepth:=8) [*]⟩
 ·have e1: ¬(j:Int)<l.length:=by omega
  have hd2:tySs m fw l=true:=by rw[hd,List.drop_eq_nil_of_le (by omega),tySs_nl]
  clear hd
  repeat' (first|refine Zp ?_|refine Zr ?_ ?_|(intro h h';try simp[*,-h] at h'))
  exact⟨by rw[hd2],HK⟩
theorem Nj {m:List (Tx×Fu)}{g gm:Nat}{ag:Bool}{ks:List Value}{rs:List (List AV)}(hm:TM m ag ks rs)(fnm:Tx)(fps fls:List Tx)(fw:Bool)(fb:List Sy.St): ∀N,N<=1048576-> ∀l:List Sy.St,stSize l<=N-> ∀k:Nat,TC g gm ag ks rs k 173 [.ptr ⟨0,10012,0⟩ g 0,.agg [tz fnm.val,.sl false 1 (txRows fps),.sl false 1 (txRows fls),bz fw,.sl false 5 (stRows fb)],.sl false 5 (stRows l)] (bv (tySs m fw l))
 |0,h,l,hl,k=>Ni hm fnm fps fls fw fb 0 h (fun l h'=>by omega) l hl k
 |N+1,h,l,hl,k=>Ni hm fnm fps fls fw fb (N+1) h (fun l h' k=>Nj hm fnm fps fls fw fb N (by omega) l (by omega) k) l hl k
theorem Yu {m:List (Tx×Fu)}{g gm:Nat}{ag:Bool}{ks:List Value}{rs:List (List AV)}(hm:TM m ag ks rs)(fnm:Tx)(fps fls:List Tx)(fw:Bool)(fb:List Sy.St)(l:List Sy.St)(hl:stSize l<=1048576)(k:Nat):TC g gm ag ks rs k 173 [.ptr ⟨0,10012,0⟩ g 0,.agg [tz fnm.val,.sl false 1 (txRows fps),.sl false 1 (txRows fls),bz fw,.sl false 5 (stRows fb)],.sl false 5 (stRows l)] (bv (tySs m fw l)):=Nj hm fnm fps fls fw fb 1048576 (Nat.le_refl _) l hl k
end Go.Proofs.YtpmoibjpjlhcgaaGreatDoor
namespace Go.Proofs.YtpmoibjpjlhcgaaGreatDoor
open Go Go.Ab Go.Ab.Sy
theorem Eva (vs:List Tx)(ar:List (Tx×Int))(fs:List Fu)(hs:fuSize fs<=1048576){hp1:Hp}:HB Tryz.prog E47 (Lm X47) 0 9 171 [.agg [.sl false 1 (txRows vs),.sl false 2 (arRows ar),.sl false 5 (fs.map Fu.row)]] hp1 (fun v hp2=> ∃g gm ag ks rs,v= .ptr ⟨0,10012,0⟩ g 0/\hp2 ⟨0,10012,0⟩= .box g [.mp ⟨0,10010,0⟩ gm,.sc .nilFunc,.fn 246 [],.fn 246 [],.fn 1000248 [.ptr ⟨0,10012,0⟩ g 0],.fn 1000249 [.ptr ⟨0,10012,0⟩ g 0],.fn 246 [],.fn 1000250 [.ptr ⟨0,10012,0⟩ g 0],.fn 1000247 [.ptr ⟨0,10012,0⟩ g 0],.fn 1000247 [.ptr ⟨0,10012,0⟩ g 0],.fn 1000247 [.ptr ⟨0,10012,0⟩ g 0]] false/\hp2 ⟨0,10010,0⟩= .map gm ag ks rs false/\TM (funM fs) ag ks rs/\ ∀d i c,i<10000->hp2 ⟨d,i,c⟩=hp1 ⟨d,i,c⟩) (fun _ _=>False):=by
 obtain⟨v,hp2,h1,g,gm,h2,h3,h4,h5⟩:=Bca vs ar fs hs hp1
 exact .inl ⟨v,hp2,h1,g,gm,_,_,_,h2,h3,h4,⟨rfl,rfl,rfl⟩,h5⟩
theorem Ns (vs:List Tx)(ar:List (Tx×Int))(fs:List Fu)(hs:fuSize fs<=1048576):(Lm X47).dat 118 [.agg [.sl false 1 (txRows vs),.sl false 2 (arRows ar),.sl false 5 (fs.map Fu.row)]]=some [iv (typingS ⟨vs,ar,fs⟩)]:=by
 refine fnW (P:=Tryz.prog) (E:=E47) (X:=X47) Tryz.func118 (An _ _) rfl Yf rfl F2a rvs_118 ?_
 have hfl:=Bq fs
 repeat' (first|refine Zp ?_|refine Zr ?_ ?_|(intro h h';try simp[*,-h] at h')|((with_reducible apply Aa (f:=171));exact Z6;(exact Gqa);decide;exact rfl;exact Z6;(apply Eva vs ar fs hs);skip;rotate_left;(rintro _ _ h;exact h.elim);(rintro _ hp2 ⟨g,gm,ag,ks,rs,rfl,bx,mx,hm,hk⟩))|fail)
 have hts:typingS ⟨vs,ar,fs⟩=if fs.all (fun f:Fu=>knSs (funM fs) f.body)=false then 4 else if fs.all (fun f:Fu=>tySs (funM fs) f.word f.body)=false then 5 else 0:=rfl
 refine Ah (n:=fs.length) (fun s0 m' z=> ∃j:Nat,fs.length - j<=m'/\j<=fs.length/\z.fr 1= .ptr ⟨0,1,0⟩ 1 0/\z.fr 3= .ptr ⟨0,10012,0⟩ g 0/\z.fr 11= .sl false 5 (fs.map Fu.row)/\z.fr 12=iv fs.length/\z.fr 13=iv j/\z.hp ⟨0,1,0⟩= .box 1 [.sl false 1 (txRows vs),.sl false 2 (arRows ar),.sl false 5 (fs.map Fu.row)] false/\z.hp ⟨0,10012,0⟩= .box g [.mp ⟨0,10010,0⟩ gm,.sc .nilFunc,.fn 246 [],.fn 246 [],.fn 1000248 [.ptr ⟨0,10012,0⟩ g 0],.fn 1000249 [.ptr ⟨0,10012,0⟩ g 0],.fn 246 [],.fn 1000250 [.ptr ⟨0,10012,0⟩ g 0],.fn 1000247 [.ptr ⟨0,10012,0⟩ g 0],.fn 1000247 [.ptr ⟨0,10012,0⟩ g 0],.fn 1000247 [.ptr ⟨0,10012,0⟩ g 0]] false/\z.hp ⟨0,10010,0⟩= .map gm ag ks rs false/\fs.all (fun f:Fu=>knSs (funM fs) f.body)=(fs.drop j).all (fun f:Fu=>knSs (funM fs) f.body)) ⟨0,by omega,by omega,by simp (maxDischargeDepth:=8) [*],by simp (maxDischargeDepth:=8) [*],by simp (maxDischargeDepth:=8) [*],by simp (maxDischargeDepth:=8) [*],by simp (maxDischargeDepth:=8) [*],by simp (maxDischargeDepth:=8) [*],by simp (maxDischargeDepth:=8) [*],by simp (maxDischargeDepth:=8) [*],by rw[List.drop_zero]⟩ ?_
 rintro m' ⟨fr,hp⟩ ⟨j,hm',hj,f1,f3,fl,fn,fi,b1,b2,m2,hd⟩
 simp only at f1 f3 fl fn fi b1 b2 m2
 clear hk bx mx
 by_cases hlt:j<fs.length
 ·have e1:(j:Int)<fs.length:=by omega
  have hg:fs[j]?=some fs[j]:=List.getElem?_eq_getElem hlt
  have hwi:IntKind.i64.wrap ((j:Int)+1)=(j:Int)+1:=wrapN (by omega)
  rw[List.drop_eq_getElem_cons hlt,List.all_cons] at hd
  generalize fs[j]=t at*
  have hgt:=Eo hg
  have hst:=Cy hg
  obtain⟨t1,t2,t3,t4,t5⟩:=t
  simp only[A3] at hgt
  simp only[Br] at hst
  have tcE:=Yv (g:=g) (gm:=gm) hm t5 (by omega) 0
  simp only at hd
  generalize knSs (funM fs) t5=te at*
  obtain⟨G1,a1,c1⟩:=tcE.rules
  have HD:=Lib.hid hd
  clear hg hlt hd tcE
  repeat' (first|refine Zp ?_|refine Zr ?_ ?_|(intro h h';try simp[*,-h] at h'))
  all_goals have hd:=HD.out
  ·exact by rw[hts,hd];simp (maxDischargeDepth:=8) [*]
  ·exact⟨fs.length - (j+1),by omega,j+1,by omega,by omega,by simp (maxDischargeDepth:=8) [*],by simp (maxDischargeDepth:=8) [*],by simp (maxDischargeDepth:=8) [*],by simp (maxDischargeDepth:=8) [*],by simp (maxDischargeDepth:=8) [*],by simp (maxDischargeDepth:=8) [*],by simp (maxDischargeDepth:=8) [*],by simp (maxDischargeDepth:=8) [*],by rw[hd];simp (maxDischargeDepth:=8) [*]⟩
 have e1: ¬(j:Int)<fs.length:=by omega
 have hd1:fs.all (fun f:Fu=>knSs (funM fs) f.body)=true:=by rw[hd,List.drop_eq_nil_of_le (by omega)];rfl
 rw[hd1] at hts
 clear hd hd1
 repeat' (first|refine Zp ?_|refine Zr ?_ ?_|(intro h h';try simp[*,-h] at h'))
 clear e1
 have b1':=b1
 refine Ah (n:=fs.length) (fun s0 m' z=> ∃j:Nat,fs.length - j<=m'/\j<=fs.length/\z.fr 1= .ptr ⟨0,1,0⟩ 1 0/\z.fr 3= .ptr ⟨0,10012,0⟩ g 0/\z.fr 24= .sl false 5 (fs.map Fu.row)/\z.fr 25=iv fs.length/\z.fr 26=iv j/\z.hp ⟨0,1,0⟩= .box 1 [.sl false 1 (txRows vs),.sl false 2 (arRows ar),.sl false 5 (fs.map Fu.row)] false/\z.hp ⟨0,10012,0⟩= .box g [.mp ⟨0,10010,0⟩ gm,.sc .nilFunc,.fn 246 [],.fn 246 [],.fn 1000248 [.ptr ⟨0,10012,0⟩ g 0],.fn 1000249 [.ptr ⟨0,10012,0⟩ g 0],.fn 246 [],.fn 1000250 [.ptr ⟨0,10012,0⟩ g 0],.fn 1000247 [.ptr ⟨0,10012,0⟩ g 0],.fn 1000247 [.ptr ⟨0,10012,0⟩ g 0],.fn 1000247 [.ptr ⟨0,10012,0⟩ g 0]] false/\z.hp ⟨0,10010,0⟩= .map gm ag ks rs false/\fs.all (fun f:Fu=>tySs (funM fs) f.word f.body)=(fs.drop j).all (fun f:Fu=>tySs (funM fs) f.word f.body)) ⟨0,by omega,by omega,by simp (maxDischargeDepth:=8) [*],by simp (maxDischargeDepth:=8) [*],by simp (maxDischargeDepth:=8) [*],by simp (maxDischargeDepth:=8) [*],by simp (maxDischargeDepth:=8) [*],by simp (maxDischargeDepth:=8) [*],by simp (maxDischargeDepth:=8) [*],by simp (maxDischargeDepth:=8) [*],by rw[List.drop_zero]⟩ ?_
 rintro m' ⟨fr,hp⟩ ⟨j,hm',hj,f1,f3,fl,fn,fi,b1,b2,m2,hd⟩
 simp only at f1 f3 fl fn fi b1 b2 m2
 by_cases hlt:j<fs.length
 ·have e1:(j:Int)<fs.length:=by omega
  have hg:fs[j]?=some fs[j]:=List.getElem?_eq_getElem hlt
  have hwi:IntKind.i64.wrap ((j:Int)+1)=(j:Int)+1:=wrapN (by omega)
  rw[List.drop_eq_getElem_cons hlt,List.all_cons] at hd
  generalize fs[j]=t at*
  have hgt:=Eo hg
  have hst:=Cy hg
  obtain⟨t1,t2,t3,t4,t5⟩:=t
  simp only[A3] at hgt
  simp only[Br] at hst
  have tcE:=Yu (g:=g) (gm:=gm) hm t1 t2 t3 t4 t5 t5 (by omega) 0
  simp only at hd
  generalize tySs (funM fs) t4 t5=te at*
  obtain⟨G1,a1,c1⟩:=tcE.rules
  have HD:=Lib.hid hd
  clear hg hlt hd tcE
  repeat' (first|refine Zp ?_|refine Zr ?_ ?_|(intro h h';try simp[*,-h] at h'))
  all_goals have hd:=HD.out
  ·exact by rw[hts,hd];simp (maxDischargeDepth:=8) [*]
  ·exact⟨fs.length - (j+1),by omega,j+1,by omega,by omega,by simp (maxDischargeDepth:=8) [*],by simp (maxDischargeDepth:=8) [*],by simp (maxDischargeDepth:=8) [*],by simp (maxDischargeDepth:=8) [*],by simp (maxDischargeDepth:=8) [*],by simp (maxDischargeDepth:=8) [*],by simp (maxDischargeDepth:=8) [*],by simp (maxDischargeDepth:=8) [*],by rw[hd];simp (maxDischargeDepth:=8) [*]⟩
 have e1: ¬(j:Int)<fs.length:=by omega
 have hd1:fs.all (fun f:Fu=>tySs (funM fs) f.word f.body)=true:=by rw[hd,List.drop_eq_nil_of_le (by omega)];rfl
 rw[hd1] at hts
 clear hd hd1
 repeat' (first|refine Zp ?_|refine Zr ?_ ?_|(intro h h';try simp[*,-h] at h'))
 rw[hts]
 simp
theorem Ara (vs:List Tx)(ar:List (Tx×Int))(fs:List Fu)(hs:vs.length+ar.length+fuSize fs<=1048576):(Lm X47).dat 82 [.agg [.sl false 1 (txRows vs),.sl false 2 (arRows ar),.sl false 5 (fs.map Fu.row)]]=some [iv (soundS nbT ⟨vs,ar,fs⟩)]:=by
 refine fnW (P:=Tryz.prog) (E:=E47) (X:=X47) Tryz.func82 (An _ _) rfl Cza rfl rtys_82 rvs_82 ?_
 have rw1:=Asa vs ar fs hs
 unfold soundS
 cases hr:rP nbT ⟨vs,ar,fs⟩ with
 |false=>
  rw[hr] at rw1
  repeat' (first|refine Zp ?_|refine Zr ?_ ?_|(intro h h';try simp[*,-h] at h'))
  simp
 |true=>
  rw[hr] at rw1
  have h1:1<=fs.length:=by
   rw[rP_mk] at hr
   simp only[Bool.and_eq_true,decide_eq_true_eq] at hr
   exact hr.1.1.1.1
  have sc:=Pm vs ar fs h1 hs
  have ty:=Ns vs ar fs (by omega)
  generalize scopeS ⟨vs,ar,fs⟩=a at*
  generalize typingS ⟨vs,ar,fs⟩=b at*
  clear hr
  by_cases ha:a=0
  ·subst ha
   repeat' (first|refine Zp ?_|refine Zr ?_ ?_|(intro h h';try simp[*,-h] at h'))
   simp
  ·repeat' (first|refine Zp ?_|refine Zr ?_ ?_|(intro h h';try simp[*,-h] at h'))
   simp[ha]
end Go.Proofs.YtpmoibjpjlhcgaaGreatDoor
namespace Go.Proofs.YtpmoibjpjlhcgaaGreatDoor
open Go Go.Ab Go.Ab.Sy
theorem Sj (o i:List (Tx×Th))(s:Tx):(Lm X47).dat 119 [.agg [mpD thR o,mpD thR i],tv s.val]=some [.agg [iv (coFind i o s).1,iv (coFind i o s).2]]:=by
 refine fnW (P:=Tryz.prog) (E:=E47) (X:=X47) Tryz.func119 (An _ _) rfl Ye rfl F1a rvs_119 ?_
 unfold coFind mpD
 cases hi:Sy.look i s with
 |some t=>
  obtain⟨a,b⟩:=t
  obtain⟨j,h1,h2,_⟩:=Cp (r:=thR) hi 0
  have h3:=Eg hi
  simp only[thR,Nat.zero_add] at h1 h2
  exact ZS
 |none=>
  have h1:=Bi hi 0
  cases ho:Sy.look o s with
  |some t=>
   obtain⟨a,b⟩:=t
   obtain⟨j,h4,h2,_⟩:=Cp (r:=thR) ho 0
   have h3:=Eg ho
   simp only[thR,Nat.zero_add] at h4 h2
   exact ZS
  |none=>
   have h4:=Bi ho 0
   exact ZS
theorem Cia {fd:Tx->Th}{l:List Sy.Ex}{j:Nat}{e:Sy.Ex}(h:l[j]?=some e):coEs fd (l.take (j+1))=coEs fd (l.take j)++[coE fd e]:=by
 rw[List.take_add_one,h]
 simp[Qb]
theorem Cea {fd:Tx->Th}{l:List Sy.St}{j:Nat}{e:Sy.St}(h:l[j]?=some e):coSs fd (l.take (j+1))=coSs fd (l.take j)++[coS fd e]:=by
 rw[List.take_add_one,h]
 simp[Qa]
theorem coE_mk (fd:Tx->Th)(k o n:Int)(s:Tx)(l:List Sy.Ex):coE fd (.mk k o n s l)= .mk k o n (fd s).1 (fd s).2 (coEs fd l):=by rw[coE]
theorem coS_mk (fd:Tx->Th)(k:Int)(s:Tx)(e:List Sy.Ex)(t f:List Sy.St):coS fd (.mk k s e t f)= .mk k (fd s).1 (fd s).2 (coEs fd e) (coSs fd t) (coSs fd f):=by rw[coS]
theorem Cc (k o n s z:Int)(l:List Cx):(Cx.mk k o n s z l).row=[iz k,iz o,uz n,iz s,iz z,.sl false 6 (cxRows l)]:=by rw[Cx.row]
theorem Kg (k s z:Int)(e:List Cx)(t f:List Cs):(Cs.mk k s z e t f).row=[iz k,iz s,iz z,.sl false 6 (cxRows e),.sl false 6 (csRows t),.sl false 6 (csRows f)]:=by rw[Cs.row]
theorem Aha (l:List Cx):(cxRows l).take l.length=cxRows l:=by rw[List.take_of_length_le (by simp)]
theorem Aia (l:List Cs):(csRows l).take l.length=csRows l:=by rw[List.take_of_length_le (by simp)]
theorem O1 (o n:List (Tx×Th))(N:Nat)(hN:N<=1048576)(ih: ∀l:List Sy.Ex,exSize l<N->(Lm X47).dat 120 [.agg [mpD thR o,mpD thR n],.sl false 5 (exRows l)]=some [.vec 6 (cxRows (coEs (coFind n o) l))])(l:List Sy.Ex)(hl:exSize l<=N):(Lm X47).dat 120 [.agg [mpD thR o,mpD thR n],.sl false 5 (exRows l)]=some [.vec 6 (cxRows (coEs (coFind n o) l))]:=by
 refine fnW (P:=Tryz.prog) (E:=E47) (X:=X47) Tryz.func120 (An _ _) rfl Yd rfl F0a rvs_120 ?_
 have hlen:l.length<=1048576:=by have:=Bv l;omega
 have ff:=fun s=>Sj o n s
 obtain⟨ob,ok,or_,ho⟩: ∃b k r,mpD thR o= .dmp b k r:=⟨_,_,_,rfl⟩
 obtain⟨nb,nk,nr,hn⟩: ∃b k r,mpD thR n= .dmp b k r:=⟨_,_,_,rfl⟩
 simp only[ho,hn] at ff ih⊢
 generalize hfd:coFind n o=fd at*
 repeat' (first|refine ZN ?_|refine Z2 ?_ ?_|(intro h h';try simp[*,-h] at h'))
 refine Ah (n:=l.length) (fun s0 m z=> ∃j g:Nat,l.length - j<=m/\j<=l.length/\z.fr 2= .ptr ⟨0,2,0⟩ 1 0/\z.hp ⟨0,2,0⟩= .box 1 [.dmp ob ok or_,.dmp nb nk nr] false/\z.fr 9= .sl false 5 (exRows l)/\z.fr 10=iv l.length/\z.fr 11=iv j/\z.fr 5= .own ⟨0,5,0⟩ g (coEs fd (l.take j)).length/\z.hp ⟨0,5,0⟩= .arr g 6 309 (cxRows (coEs fd (l.take j))) false) ⟨0,1,by omega,by omega,by simp,by simp,by simp,by simp,by simp,by simp,by simp⟩ ?_
 rintro m ⟨fr,hp⟩ ⟨j,g,hm,hj,f2,b2,fl,fn,fi,f5,a5⟩
 simp only at f2 b2 fl fn fi f5 a5
 by_cases hlt:j<l.length
 ·have e1:(j:Int)<l.length:=by omega
  have hg:l[j]?=some l[j]:=List.getElem?_eq_getElem hlt
  have hwi:IntKind.i64.wrap ((j:Int)+1)=(j:Int)+1:=wrapN (by omega)
  generalize l[j]=e at*
  have hgt:=Ge hg
  have hst:=B5 hg
  have htk:=Cia (fd:=fd) hg
  have hle:(coEs fd (l.take j)).length<=1048576:=by simp;omega
  generalize coEs fd (l.take j)=S at*
  obtain⟨ek,eo,en,ex,ekids⟩:=e
  simp only[Au] at hgt
  simp only[A2] at hst
  rw[coE_mk] at htk
  have x1:(S.length+1)*64<=140737488355328:=by omega
  have x2:S.length<=9223372036854775806:=by omega
  have x3:=Aha S
  have fx:=ff ex
  have ik:=ih ekids (by omega)
  have x4:(cxRows (coEs fd ekids)).take ekids.length=cxRows (coEs fd ekids):=by rw[List.take_of_length_le (by simp)]
  generalize fd ex=t at*
  obtain⟨ta,tb⟩:=t
  simp only at fx
  have HT:=Lib.hid htk
  have IH:=Lib.hid ih
  have FF:=Lib.hid ff
  clear hg hlt htk ih ff ho hn
  repeat' (first|refine ZN ?_|refine Z2 ?_ ?_|(intro h h';try simp[*,-h] at h'))
  have htk:=HT.out
  exact⟨l.length - (j+1),by omega,j+1,g+1,by omega,by omega,by simp[*],by simp[*],by simp[*],by simp[*],by simp[*],by rw[htk];simp[*],by rw[htk];simp[*,Cc]⟩
 ·have e1: ¬(j:Int)<l.length:=by omega
  have hz:l.take j=l:=List.take_of_length_le (by omega)
  rw[hz] at f5 a5
  have x3:=Aha (coEs fd l)
  have IH:=Lib.hid ih
  clear ih ho hn
  repeat' (first|refine ZN ?_|refine Z2 ?_ ?_|(intro h h';try simp[*,-h] at h'))
  simp[*]
theorem O2 (o n:List (Tx×Th)): ∀N,N<=1048576-> ∀l:List Sy.Ex,exSize l<=N->(Lm X47).dat 120 [.agg [mpD thR o,mpD thR n],.sl false 5 (exRows l)]=some [.vec 6 (cxRows (coEs (coFind n o) l))]
 |0,h,l,hl=>O1 o n 0 h (fun l h'=>by omega) l hl
 |N+1,h,l,hl=>O1 o n (N+1) h (fun l h'=>O2 o n N (by omega) l (by omega)) l hl
theorem Cha (o n:List (Tx×Th))(l:List Sy.Ex)(hl:exSize l<=1048576):(Lm X47).dat 120 [.agg [mpD thR o,mpD thR n],.sl false 5 (exRows l)]=some [.vec 6 (cxRows (coEs (coFind n o) l))]:=O2 o n 1048576 (Nat.le_refl _) l hl
theorem Oy (o n:List (Tx×Th))(N:Nat)(hN:N<=1048576)(ih: ∀l:List Sy.St,stSize l<N->(Lm X47).dat 84 [.agg [mpD thR o,mpD thR n],.sl false 5 (stRows l)]=some [.vec 6 (csRows (coSs (coFind n o) l))])(l:List Sy.St)(hl:stSize l<=N):(Lm X47).dat 84 [.agg [mpD thR o,mpD thR n],.sl false 5 (stRows l)]=some [.vec 6 (csRows (coSs (coFind n o) l))]:=by
 refine fnW (P:=Tryz.prog) (E:=E47) (X:=X47) Tryz.func84 (An _ _) rfl Cxa rfl rtys_84 rvs_84 ?_
 have hlen:l.length<=1048576:=by have:=Cj l;omega
 have ff:=fun s=>Sj o n s
 obtain⟨ob,ok,or_,ho⟩: ∃b k r,mpD thR o= .dmp b k r:=⟨_,_,_,rfl⟩
 obtain⟨nb,nk,nr,hn⟩: ∃b k r,mpD thR n= .dmp b k r:=⟨_,_,_,rfl⟩
 simp only[ho,hn] at ff ih⊢
 generalize hfd:coFind n o=fd at*
 repeat' (first|refine ZN ?_|refine Z2 ?_ ?_|(intro h h';try simp[*,-h] at h'))
 refine Ah (n:=l.length) (fun s0 m z=> ∃j g:Nat,l.length - j<=m/\j<=l.length/\z.fr 2= .ptr ⟨0,2,0⟩ 1 0/\z.hp ⟨0,2,0⟩= .box 1 [.dmp ob ok or_,.dmp nb nk nr] false/\z.fr 9= .sl false 5 (stRows l)/\z.fr 10=iv l.length/\z.fr 11=iv j/\z.fr 5= .own ⟨0,5,0⟩ g (coSs fd (l.take j)).length/\z.hp ⟨0,5,0⟩= .arr g 6 222 (csRows (coSs fd (l.take j))) false) ⟨0,1,by omega,by omega,by simp,by simp,by simp,by simp,by simp,by simp,by simp⟩ ?_
 rintro m ⟨fr,hp⟩ ⟨j,g,hm,hj,f2,b2,fl,fn,fi,f5,a5⟩
 simp only at f2 b2 fl fn fi f5 a5
 by_cases hlt:j<l.length
 ·have e1:(j:Int)<l.length:=by omega
  have hg:l[j]?=some l[j]:=List.getElem?_eq_getElem hlt
  have hwi:IntKind.i64.wrap ((j:Int)+1)=(j:Int)+1:=wrapN (by omega)
  generalize l[j]=e at*
  have hgt:=L1 hg
  have hst:=Dt hg
  have htk:=Cea (fd:=fd) hg
  have hle:(coSs fd (l.take j)).length<=1048576:=by simp;omega
  generalize coSs fd (l.take j)=S at*
  obtain⟨ek,ex,ee,eth,eel⟩:=e
  simp only[C3] at hgt
  simp only[Cl] at hst
  rw[coS_mk] at htk
  have x1:(S.length+1)*96<=140737488355328:=by omega
  have x2:S.length<=9223372036854775806:=by omega
  have x3:=Aia S
  have fx:=ff ex
  have ie:=Cha o n ee (by omega)
  simp only[ho,hn] at ie
  rw[hfd] at ie
  have it:=ih eth (by omega)
  have il:=ih eel (by omega)
  have x4:(cxRows (coEs fd ee)).take ee.length=cxRows (coEs fd ee):=by rw[List.take_of_length_le (by simp)]
  have x5:(csRows (coSs fd eth)).take eth.length=csRows (coSs fd eth):=by rw[List.take_of_length_le (by simp)]
  have x6:(csRows (coSs fd eel)).take eel.length=csRows (coSs fd eel):=by rw[List.take_of_length_le (by simp)]
  generalize fd ex=t at*
  obtain⟨ta,tb⟩:=t
  simp only at fx
  have HT:=Lib.hid htk
  have IH:=Lib.hid ih
  have FF:=Lib.hid ff
  clear hg hlt htk ih ff ho hn
  repeat' (first|refine ZN ?_|refine Z2 ?_ ?_|(intro h h';try simp[*,-h] at h'))
  have htk:=HT.out
  exact⟨l.length - (j+1),by omega,j+1,g+1,by omega,by omega,by simp[*],by simp[*],by simp[*],by simp[*],by simp[*],by rw[htk];simp[*],by rw[htk];simp[*,Kg]⟩
 ·have e1: ¬(j:Int)<l.length:=by omega
  have hz:l.take j=l:=List.take_of_length_le (by omega)
  rw[hz] at f5 a5
  have x3:=Aia (coSs fd l)
  have IH:=Lib.hid ih
  clear ih ho hn
  repeat' (first|refine ZN ?_|refine Z2 ?_ ?_|(intro h h';try simp[*,-h] at h'))
  simp[*]
theorem Oz (o n:List (Tx×Th)): ∀N,N<=1048576-> ∀l:List Sy.St,stSize l<=N->(Lm X47).dat 84 [.agg [mpD thR o,mpD thR n],.sl false 5 (stRows l)]=some [.vec 6 (csRows (coSs (coFind n o) l))]
 |0,h,l,hl=>Oy o n 0 h (fun l h'=>by omega) l hl
 |N+1,h,l,hl=>Oy o n (N+1) h (fun l h'=>Oz o n N (by omega) l (by omega)) l hl
theorem Cda (o n:List (Tx×Th))(l:List Sy.St)(hl:stSize l<=1048576):(Lm X47).dat 84 [.agg [mpD thR o,mpD thR n],.sl false 5 (stRows l)]=some [.vec 6 (csRows (coSs (coFind n o) l))]:=Oz o n 1048576 (Nat.le_refl _) l hl
end Go.Proofs.YtpmoibjpjlhcgaaGreatDoor
namespace Go.Proofs.YtpmoibjpjlhcgaaGreatDoor
open Go Go.Ab Go.Ab.Sy
theorem Dz {T:Type}{m l:List (Tx×T)}{x:Tx×T}(h:((m++x::l).map (·.1)).Nodup):Sy.look m x.1=none:=by
 cases hl:Sy.look m x.1 with
 |none=>rfl
 |some t=>
  rw[List.map_append,List.nodup_append] at h
  exact(h.2.2 x.1 (List.mem_map.2 ⟨_,D3 hl,rfl⟩) x.1 (by simp) rfl).elim
theorem Eu {α β:Type}(f:Int->α->β): ∀(l:List α) (n i:Nat) {a:α},l[i]?=some a->num f n l=num f n (l.take i)++f ((n+i:Nat):Int) a::num f (n+i+1) (l.drop (i+1))
 |[],n,i,a,h=>by simp at h
 |x::l,n,0,a,h=>by
  simp only[List.getElem?_cons_zero,Option.some.injEq] at h
  subst h
  simp[num]
 |x::l,n,i+1,a,h=>by
  have:=Eu f l (n+1) i (a:=a) (by simpa using h)
  simp only[num,List.take_succ_cons,List.drop_succ_cons,List.cons_append]
  rw[this,show n+1+i=n+(i+1) from by omega]
theorem Pa : ∀(l:List (Tx×Int)) (w:Int) (i:Nat) {a:Tx×Int},l[i]?=some a->arL w l=arL w (l.take i)++(a.1,(w+arW (l.take i),a.2))::arL (w+arW (l.take i)+a.2) (l.drop (i+1))
 |[],w,i,a,h=>by simp at h
 |x::l,w,0,a,h=>by
  simp only[List.getElem?_cons_zero,Option.some.injEq] at h
  subst h
  simp[arL,arW]
 |x::l,w,i+1,a,h=>by
  have:=Pa l (w+x.2) i (a:=a) (by simpa using h)
  simp only[arL,arW,List.take_succ_cons,List.drop_succ_cons,List.cons_append]
  rw[this,Int.add_assoc w x.2]
theorem Sr : ∀(l:List (Tx×Int)) (w:Int) (i:Nat) {a:Tx×Int},l[i]?=some a->arL w (l.take (i+1))=arL w (l.take i)++[(a.1,(w+arW (l.take i),a.2))]
 |[],w,i,a,h=>by simp at h
 |x::l,w,0,a,h=>by
  simp only[List.getElem?_cons_zero,Option.some.injEq] at h
  subst h
  simp[arL,arW]
 |x::l,w,i+1,a,h=>by
  have:=Sr l (w+x.2) i (a:=a) (by simpa using h)
  simp only[arL,arW,List.take_succ_cons,List.cons_append]
  rw[this,Int.add_assoc w x.2]
theorem Sq : ∀(l:List (Tx×Int)) (i:Nat) {a:Tx×Int},l[i]?=some a->arW (l.take (i+1))=arW (l.take i)+a.2
 |[],i,a,h=>by simp at h
 |x::l,0,a,h=>by
  simp only[List.getElem?_cons_zero,Option.some.injEq] at h
  subst h
  simp[arW]
 |x::l,i+1,a,h=>by
  have:=Sq l i (a:=a) (by simpa using h)
  simp only[arW,List.take_succ_cons]
  omega
theorem Yr : ∀(l:List (Tx×Int)),(∀a∈l,1<=a.2/\a.2<=4096)->0<=arW l/\arW l<=4096*l.length
 |[],h=>by simp[arW]
 |x::l,h=>by
  have:=Yr l (fun a ha=>h a (List.mem_cons_of_mem _ ha))
  have:=h x (List.mem_cons_self ..)
  simp only[arW,List.length_cons]
  omega
theorem Sg (vs:List Tx)(ar:List (Tx×Int))(fs:List Fu)(hs:vs.length+ar.length+fuSize fs<=1048576)(har: ∀a∈ar,1<=a.2/\a.2<=4096)(hn:((coOutL ⟨vs,ar,fs⟩).map (·.1)).Nodup):(Lm X47).dat 83 [.agg [.sl false 1 (txRows vs),.sl false 2 (arRows ar),.sl false 5 (fs.map Fu.row)]]=some [mpD thR (coOutL ⟨vs,ar,fs⟩),iv (coOutW ⟨vs,ar,fs⟩)]:=by
 refine fnW (P:=Tryz.prog) (E:=E47) (X:=X47) Tryz.func83 (An _ _) rfl Cya rfl rtys_83 rvs_83 ?_
 unfold coOutL at hn⊢
 unfold coOutW
 simp only at hn⊢
 have hfl:=Bq fs
 repeat' (first|refine ZN ?_|refine Z2 ?_ ?_|(intro h h';try simp[*,-h] at h'))
 refine Ah (n:=vs.length) (fun s0 m z=> ∃i:Nat,vs.length - i<=m/\i<=vs.length/\z.fr 1= .ptr ⟨0,1,0⟩ 1 0/\z.hp ⟨0,1,0⟩= .box 1 [.sl false 1 (txRows vs),.sl false 2 (arRows ar),.sl false 5 (fs.map Fu.row)] false/\z.fr 4= .mp ⟨0,12,0⟩ 1/\z.fr 5=iv ((i:Int))/\z.fr 14= .sl false 1 (txRows vs)/\z.fr 15=iv vs.length/\z.fr 16=iv i/\z.hp ⟨0,12,0⟩=mpO thR 1 (num (fun i (s:Tx)=>(s,(i,(0:Int)))) 0 (vs.take i))) ⟨0,by omega,by omega,by simp[*],by simp[*],by simp[*],by simp[*,arW],by simp[*],by simp[*,arRows],by simp,(by first|(simp[*,num,arL];done)|(simp[*,num,arL];rfl))⟩ ?_
 rintro m ⟨fr,hp⟩ ⟨i,hm,hi,f1,b1,f4,f5,fl_,fn_,fi_,hq⟩
 simp only at f1 b1 f4 f5 fl_ fn_ fi_ hq
 by_cases hlt:i<vs.length
 ·have e1:(i:Int)<vs.length:=by omega
  have hg:vs[i]?=some vs[i]:=List.getElem?_eq_getElem hlt
  have hwi:IntKind.i64.wrap ((i:Int)+1)=(i:Int)+1:=wrapN (by omega)
  generalize vs[i]=t at*
  have hgt:=Jw hg
  have hpl:vs.length<=1048576:=by omega
  have hsp:=Eu (fun i (s:Tx)=>(s,(i,(0:Int)))) vs 0 i hg
  have hnt:=Cr (fun i (s:Tx)=>(s,(i,(0:Int)))) 0 vs i hg
  rw[hsp,List.append_assoc,List.append_assoc,List.cons_append] at hn
  have hlk:=Dz hn
  simp only at hlk
  have k1:=Bi hlk 0
  have hmk:=Bp (num (fun i (s:Tx)=>(s,(i,(0:Int)))) 0 (vs.take i))
  have hsn:=C5 thR 1 (num (fun i (s:Tx)=>(s,(i,(0:Int)))) 0 (vs.take i)) (t,(((0+i:Nat):Int),(0:Int)))
  unfold mpO at hq
  obtain⟨ks,hks⟩: ∃ks,mKeys (num (fun i (s:Tx)=>(s,(i,(0:Int)))) 0 (vs.take i))=ks:=⟨_,rfl⟩
  obtain⟨ag,hag⟩: ∃ag,(!(num (fun i (s:Tx)=>(s,(i,(0:Int)))) 0 (vs.take i)).isEmpty)=ag:=⟨_,rfl⟩
  obtain⟨rs,hrs⟩: ∃rs,mRows thR (num (fun i (s:Tx)=>(s,(i,(0:Int)))) 0 (vs.take i))=rs:=⟨_,rfl⟩
  rw[hks] at hmk k1 hq hsn
  rw[hag] at hmk hq
  rw[hrs] at hq hsn
  clear hks hag hrs hlk hn hsp
  have HS:=Lib.hid hsn
  have HT:=Lib.hid hnt
  clear hsn hnt hg hlt
  repeat' (first|refine ZN ?_|refine Z2 ?_ ?_|(intro h h';try simp[*,-h] at h'))
  have hsn:=HS.out
  have hnt:=HT.out
  exact⟨vs.length - (i+1),by omega,i+1,by omega,by omega,by simp[*],by simp[*],by simp[*],by simp[*],by simp[*],by simp[*],by simp[*],by rw[hnt,hsn];simp[*,thR]⟩
 have e1: ¬(i:Int)<vs.length:=by omega
 have hz:vs.take i=vs:=List.take_of_length_le (by omega)
 rw[hz] at hq
 have hi2:i=vs.length:=by omega
 subst hi2
 clear hz
 repeat' (first|refine ZN ?_|refine Z2 ?_ ?_|(intro h h';try simp[*,-h] at h'))
 refine Ah (n:=ar.length) (fun s0 m z=> ∃i:Nat,ar.length - i<=m/\i<=ar.length/\z.fr 1= .ptr ⟨0,1,0⟩ 1 0/\z.hp ⟨0,1,0⟩= .box 1 [.sl false 1 (txRows vs),.sl false 2 (arRows ar),.sl false 5 (fs.map Fu.row)] false/\z.fr 4= .mp ⟨0,12,0⟩ 1/\z.fr 5=iv ((vs.length:Int)+arW (ar.take i))/\z.fr 28= .sl false 2 (arRows ar)/\z.fr 29=iv ar.length/\z.fr 30=iv i/\z.hp ⟨0,12,0⟩=mpO thR 1 (num (fun i (s:Tx)=>(s,(i,(0:Int)))) 0 vs++arL vs.length (ar.take i))) ⟨0,by omega,by omega,by simp[*],by simp[*],by simp[*],by simp[*,arW],by simp[*],by simp[*,arRows],by simp,(by first|(simp[*,num,arL];done)|(simp[*,num,arL];rfl))⟩ ?_
 rintro m ⟨fr,hp⟩ ⟨i,hm,hi,f1,b1,f4,f5,fl_,fn_,fi_,hq⟩
 simp only at f1 b1 f4 f5 fl_ fn_ fi_ hq
 by_cases hlt:i<ar.length
 ·have e1:(i:Int)<ar.length:=by omega
  have hg:ar[i]?=some ar[i]:=List.getElem?_eq_getElem hlt
  have hwi:IntKind.i64.wrap ((i:Int)+1)=(i:Int)+1:=wrapN (by omega)
  generalize ar[i]=t at*
  have hgt:=Yq hg
  have hpl:ar.length<=1048576:=by omega
  have hsp:=Pa ar vs.length i hg
  have hnt:=Sr ar vs.length i hg
  have hwt:=Sq ar i hg
  have hb1:=Yr (ar.take i) (fun a ha=>har a (List.mem_of_mem_take ha))
  have hb2:=har _ (List.mem_of_getElem? hg)
  rw[hsp] at hn
  simp only[List.append_assoc,List.cons_append] at hn
  rw[<-List.append_assoc] at hn
  obtain⟨t1,t2⟩:=t
  have hlk:=Dz hn
  have hw3:IntKind.i64.wrap ((vs.length:Int)+arW (ar.take i)+t2)=(vs.length:Int)+arW (ar.take i)+t2:=Ag (by simp at hb1 hb2;omega) (by simp at hb1 hb2;omega)
  clear hb1 hb2
  simp only at hlk
  have k1:=Bi hlk 0
  have hmk:=Bp (num (fun i (s:Tx)=>(s,(i,(0:Int)))) 0 vs++arL vs.length (ar.take i))
  have hsn:=C5 thR 1 (num (fun i (s:Tx)=>(s,(i,(0:Int)))) 0 vs++arL vs.length (ar.take i)) (t1,((vs.length:Int)+arW (ar.take i),t2))
  unfold mpO at hq
  obtain⟨ks,hks⟩: ∃ks,mKeys (num (fun i (s:Tx)=>(s,(i,(0:Int)))) 0 vs++arL vs.length (ar.take i))=ks:=⟨_,rfl⟩
  obtain⟨ag,hag⟩: ∃ag,(!(num (fun i (s:Tx)=>(s,(i,(0:Int)))) 0 vs++arL vs.length (ar.take i)).isEmpty)=ag:=⟨_,rfl⟩
  obtain⟨rs,hrs⟩: ∃rs,mRows thR (num (fun i (s:Tx)=>(s,(i,(0:Int)))) 0 vs++arL vs.length (ar.take i))=rs:=⟨_,rfl⟩
  rw[hks] at hmk k1 hq hsn
  rw[hag] at hmk hq
  rw[hrs] at hq hsn
  clear hks hag hrs hlk hn hsp
  have HS:=Lib.hid hsn
  have HT:=Lib.hid hnt
  have HW:=Lib.hid hwt
  clear hwt
  clear hsn hnt hg hlt
  repeat' (first|refine ZN ?_|refine Z2 ?_ ?_|(intro h h';try simp[*,-h] at h'))
  have hsn:=HS.out
  have hnt:=HT.out
  have hwt:=HW.out
  exact⟨ar.length - (i+1),by omega,i+1,by omega,by omega,by simp[*],by simp[*],by simp[*],by rw[hwt];simp[*,Int.add_assoc],by simp[*],by simp[*],by simp[*],by rw[hnt,<-List.append_assoc,hsn];simp[*,thR]⟩
 have e1: ¬(i:Int)<ar.length:=by omega
 have hz:ar.take i=ar:=List.take_of_length_le (by omega)
 rw[hz] at hq f5
 have hi2:i=ar.length:=by omega
 clear hi2
 clear hz
 repeat' (first|refine ZN ?_|refine Z2 ?_ ?_|(intro h h';try simp[*,-h] at h'))
 refine Ah (n:=fs.length) (fun s0 m z=> ∃i:Nat,fs.length - i<=m/\i<=fs.length/\z.fr 1= .ptr ⟨0,1,0⟩ 1 0/\z.hp ⟨0,1,0⟩= .box 1 [.sl false 1 (txRows vs),.sl false 2 (arRows ar),.sl false 5 (fs.map Fu.row)] false/\z.fr 4= .mp ⟨0,12,0⟩ 1/\z.fr 5=iv ((vs.length:Int)+arW ar)/\z.fr 47= .sl false 5 (fs.map Fu.row)/\z.fr 48=iv fs.length/\z.fr 49=iv i/\z.hp ⟨0,12,0⟩=mpO thR 1 (num (fun i (s:Tx)=>(s,(i,(0:Int)))) 0 vs++arL vs.length ar++num (fun i (f:Fu)=>(f.name,(i,(0:Int)))) 0 (fs.take i))) ⟨0,by omega,by omega,by simp[*],by simp[*],by simp[*],by simp[*,arW],by simp[*],by simp[*,arRows],by simp,(by first|(simp[*,num,arL];done)|(simp[*,num,arL];rfl))⟩ ?_
 rintro m ⟨fr,hp⟩ ⟨i,hm,hi,f1,b1,f4,f5,fl_,fn_,fi_,hq⟩
 simp only at f1 b1 f4 f5 fl_ fn_ fi_ hq
 by_cases hlt:i<fs.length
 ·have e1:(i:Int)<fs.length:=by omega
  have hg:fs[i]?=some fs[i]:=List.getElem?_eq_getElem hlt
  have hwi:IntKind.i64.wrap ((i:Int)+1)=(i:Int)+1:=wrapN (by omega)
  generalize fs[i]=t at*
  have hgt:=Eo hg
  have hpl:fs.length<=1048576:=by omega
  have hsp:=Eu (fun i (f:Fu)=>(f.name,(i,(0:Int)))) fs 0 i hg
  have hnt:=Cr (fun i (f:Fu)=>(f.name,(i,(0:Int)))) 0 fs i hg
  rw[hsp,<-List.append_assoc] at hn
  obtain⟨t1,t2,t3,t4,t5⟩:=t
  simp only[A3] at hgt
  have hlk:=Dz hn
  simp only at hlk
  have k1:=Bi hlk 0
  have hmk:=Bp (num (fun i (s:Tx)=>(s,(i,(0:Int)))) 0 vs++arL vs.length ar++num (fun i (f:Fu)=>(f.name,(i,(0:Int)))) 0 (fs.take i))
  have hsn:=C5 thR 1 (num (fun i (s:Tx)=>(s,(i,(0:Int)))) 0 vs++arL vs.length ar++num (fun i (f:Fu)=>(f.name,(i,(0:Int)))) 0 (fs.take i)) (t1,(((0+i:Nat):Int),(0:Int)))
  unfold mpO at hq
  obtain⟨ks,hks⟩: ∃ks,mKeys (num (fun i (s:Tx)=>(s,(i,(0:Int)))) 0 vs++arL vs.length ar++num (fun i (f:Fu)=>(f.name,(i,(0:Int)))) 0 (fs.take i))=ks:=⟨_,rfl⟩
  obtain⟨ag,hag⟩: ∃ag,(!(num (fun i (s:Tx)=>(s,(i,(0:Int)))) 0 vs++arL vs.length ar++num (fun i (f:Fu)=>(f.name,(i,(0:Int)))) 0 (fs.take i)).isEmpty)=ag:=⟨_,rfl⟩
  obtain⟨rs,hrs⟩: ∃rs,mRows thR (num (fun i (s:Tx)=>(s,(i,(0:Int)))) 0 vs++arL vs.length ar++num (fun i (f:Fu)=>(f.name,(i,(0:Int)))) 0 (fs.take i))=rs:=⟨_,rfl⟩
  rw[hks] at hmk k1 hq hsn
  rw[hag] at hmk hq
  rw[hrs] at hq hsn
  clear hks hag hrs hlk hn hsp
  have HS:=Lib.hid hsn
  have HT:=Lib.hid hnt
  clear hsn hnt hg hlt
  repeat' (first|refine ZN ?_|refine Z2 ?_ ?_|(intro h h';try simp[*,-h] at h'))
  have hsn:=HS.out
  have hnt:=HT.out
  exact⟨fs.length - (i+1),by omega,i+1,by omega,by omega,by simp[*],by simp[*],by simp[*],by simp[*],by simp[*],by simp[*],by simp[*],by rw[hnt,<-List.append_assoc,hsn];simp[*,thR]⟩
 have e1: ¬(i:Int)<fs.length:=by omega
 have hz:fs.take i=fs:=List.take_of_length_le (by omega)
 rw[hz] at hq
 have hi2:i=fs.length:=by omega
 clear hi2
 clear hz
 generalize (num (fun i (s:Tx)=>(s,(i,(0:Int)))) 0 vs++arL vs.length ar++num (fun i (f:Fu)=>(f.name,(i,(0:Int)))) 0 fs)=PF at*
 unfold mpO at hq
 exact ZS
end Go.Proofs.YtpmoibjpjlhcgaaGreatDoor
namespace Go.Proofs.YtpmoibjpjlhcgaaGreatDoor
open Go Go.Ab Go.Ab.Sy
theorem Rj {nb:Tx->Bool}{p:Sy.Pr}(h:soundS nb p=0):((coOutL p).map (·.1)).Nodup/\ ∀(i:Nat) (f:Fu),p.funcs[i]?=some f-> ∀w,((coInL w f).map (·.1)).Nodup:=by
 obtain⟨hr,hs,ht⟩:=Ef h
 unfold scopeS at hs
 have hs1:(fnsStep p 0 p.funcs ((outM p).2,true)).1=true:=by
  cases hq:(fnsStep p 0 p.funcs ((outM p).2,true)).1
  ·rw[if_pos hq] at hs;cases hs
  ·rfl
 rw[if_neg (by rw[hs1];simp)] at hs
 have hs2:(fnsStep p 0 p.funcs ((outM p).2,true)).2=true:=by
  cases hq:(fnsStep p 0 p.funcs ((outM p).2,true)).2
  ·rw[if_pos (.inl hq)] at hs;cases hs
  ·rfl
 obtain⟨⟨o1,_⟩,hfn⟩:=Gb hs1 hs2
 obtain⟨_,oM,oN⟩:=Da (l:=outL p) (m:=([],true)) (by simp) o1
 simp only[List.nil_append] at oM oN
 refine⟨by rw[Fh,<-Dw];exact oN,fun i f hf w=>?_⟩
 obtain⟨s',n1,n2⟩:=hfn i f hf
 have hin:(inM f).2=true:=by
  have:=useAll_mono.1 n1
  simp only[Bool.and_eq_true] at this
  exact this.2
 obtain⟨_,iM,iN⟩:=Da (l:=inL f) (m:=([],true)) (by simp) hin
 simp only[List.nil_append] at iM iN
 rw[Gi,<-J6]
 exact iN
theorem O0 (out:List (Tx×Th)): ∀(l:List Fu) (w:Int) (j:Nat) {f:Fu},l[j]?=some f->coFs out w (l.take (j+1))=coFs out w (l.take j)++[coF out (w+coW (l.take j)) f]
 |[],w,j,f,h=>by simp at h
 |x::l,w,0,f,h=>by
  simp only[List.getElem?_cons_zero,Option.some.injEq] at h
  subst h
  simp[coFs,coW]
 |x::l,w,j+1,f,h=>by
  have:=O0 out l (w+slotsOf x) j (f:=f) (by simpa using h)
  simp only[coFs,coW,List.take_succ_cons,List.cons_append]
  rw[this,Int.add_assoc]
theorem Se : ∀(l:List Fu) (j:Nat) {f:Fu},l[j]?=some f->coW (l.take (j+1))=coW (l.take j)+slotsOf f
 |[],j,f,h=>by simp at h
 |x::l,0,f,h=>by
  simp only[List.getElem?_cons_zero,Option.some.injEq] at h
  subst h
  simp[coW]
 |x::l,j+1,f,h=>by
  have:=Se l j (f:=f) (by simpa using h)
  simp only[coW,List.take_succ_cons]
  omega
theorem Vf : ∀(l:List Fu),0<=coW l/\coW l<=fuSize l
 |[]=>by simp[coW]
 |x::l=>by
  have:=Vf l
  simp only[coW,Ky,Sy.slotsOf,Sy.Fu.size]
  omega
theorem Sd (l:List Fu)(j:Nat):0<=coW (l.take j)/\coW (l.take j)<=fuSize l:=by
 have h1:=Vf (l.take j)
 have h2:fuSize (l.take j)<=fuSize l:=by
  conv=>rhs;rw[<-List.take_append_drop j l,Hl]
  omega
 omega
theorem Jq (out:List (Tx×Th)): ∀(l:List Fu) (w:Int),(coFs out w l).length=l.length
 |[],_=>rfl
 |x::l,w=>by simp[coFs,Jq out l]
theorem N7 {T:Type}{l:List (Tx×T)}(h:(l.map (·.1)).Nodup):setAll l []=l:=by
 have:=Dk (l:=l) (m:=[]) (by simpa using h)
 simpa using this
theorem cf_take (l:List Cf):(l.map Cf.row).take l.length=l.map Cf.row:=by rw[List.take_of_length_le (by simp)]
theorem Jja (vs:List Tx)(ar:List (Tx×Int))(fs:List Fu)(hs:vs.length+ar.length+fuSize fs<=20000)(h0:soundS nbT ⟨vs,ar,fs⟩≠0):(Lm X47).dat 49 [.agg [.sl false 1 (txRows vs),.sl false 2 (arRows ar),.sl false 5 (fs.map Fu.row)]]=some [.agg [iv 0,.vec 5 []],iv (soundS nbT ⟨vs,ar,fs⟩)]:=by
 refine fnW (P:=Tryz.prog) (E:=E47) (X:=X47) Tryz.func49 (An _ _) rfl O6 rfl Za rvs_49 ?_
 have hsd:=Ara vs ar fs (by omega)
 generalize soundS nbT ⟨vs,ar,fs⟩=e at*
 exact ZS
theorem Cga (vs:List Tx)(ar:List (Tx×Int))(fs:List Fu)(hs:vs.length+ar.length+fuSize fs<=20000)(h0:soundS nbT ⟨vs,ar,fs⟩=0):(Lm X47).dat 49 [.agg [.sl false 1 (txRows vs),.sl false 2 (arRows ar),.sl false 5 (fs.map Fu.row)]]=some (if 32768<coWords ⟨vs,ar,fs⟩ then[.agg [iv 0,.vec 5 []],iv 2] else[.agg [iv (coWords ⟨vs,ar,fs⟩),.vec 5 ((coreS ⟨vs,ar,fs⟩).funcs.map Cf.row)],iv 0]):=by
 refine fnW (P:=Tryz.prog) (E:=E47) (X:=X47) Tryz.func49 (An _ _) rfl O6 rfl Za rvs_49 ?_
 have hsd:=Ara vs ar fs (by omega)
 obtain⟨hn,hin⟩:=Rj h0
 have hr:=(Ef h0).1
 have har: ∀a∈ar,1<=a.2/\a.2<=4096:=by
  intro a ha
  rw[rP_mk] at hr
  simp only[Bool.and_eq_true,List.all_eq_true] at hr
  have:=hr.1.2 a ha
  obtain⟨a1,a2⟩:=a
  rw[rA_mk] at this
  simp only[Bool.and_eq_true,decide_eq_true_eq] at this
  exact⟨this.1.2,this.2⟩
 have hgl:=Sg vs ar fs (by omega) har hn
 have hout:=N7 hn
 have hab:=Yr ar har
 have hW:0<=coOutW ⟨vs,ar,fs⟩/\coOutW ⟨vs,ar,fs⟩<=90000000:=by unfold coOutW;simp only;omega
 have hfl:=Bq fs
 have hcw:coWords ⟨vs,ar,fs⟩=coOutW ⟨vs,ar,fs⟩+coW fs:=rfl
 have hcs:(coreS ⟨vs,ar,fs⟩).funcs=coFs (coOutL ⟨vs,ar,fs⟩) (coOutW ⟨vs,ar,fs⟩) fs:=by show coFs (setAll (coOutL ⟨vs,ar,fs⟩) []) _ _=_;rw[hout]
 rw[h0] at hsd
 rw[hcw,hcs]
 simp only at hin
 generalize coOutL ⟨vs,ar,fs⟩=out at*
 generalize coOutW ⟨vs,ar,fs⟩=w0 at*
 obtain⟨ob,ok,or_,ho⟩: ∃b k r,mpD thR out= .dmp b k r:=⟨_,_,_,rfl⟩
 rw[ho] at hgl
 clear hr har hab hn hout hcw hcs h0
 repeat' (first|refine ZN ?_|refine Z2 ?_ ?_|(intro h h';try simp[*,-h] at h'))
 refine Ah (n:=fs.length) (fun s0 m z=> ∃j g:Nat,fs.length - j<=m/\j<=fs.length/\z.fr 1= .ptr ⟨0,1,0⟩ 1 0/\z.fr 2= .ptr ⟨0,2,0⟩ 1 0/\z.fr 5= .dmp ob ok or_/\z.fr 7= .ptr ⟨0,7,0⟩ 1 0/\z.fr 28= .sl false 5 (fs.map Fu.row)/\z.fr 29=iv fs.length/\z.fr 30=iv j/\z.fr 6=iv (w0+coW (fs.take j))/\z.hp ⟨0,1,0⟩= .box 1 [.sl false 1 (txRows vs),.sl false 2 (arRows ar),.sl false 5 (fs.map Fu.row)] false/\z.hp ⟨0,2,0⟩= .box 1 [iv 0,.own ⟨0,2,2⟩ 1 0] false/\z.hp ⟨0,2,2⟩= .arr 1 5 163 [] false/\z.hp ⟨0,7,0⟩= .box 1 [iv 0,.own ⟨0,7,2⟩ g (coFs out w0 (fs.take j)).length] false/\z.hp ⟨0,7,2⟩= .arr g 5 163 ((coFs out w0 (fs.take j)).map Cf.row) false) ⟨0,1,by omega,by omega,by simp[coW,coFs],by simp[coW,coFs],by simp[coW,coFs],by simp[coW,coFs],by simp[coW,coFs],by simp[coW,coFs],by simp[coW,coFs],by simp[coW,coFs],by simp[coW,coFs],by simp[coW,coFs],by simp[coW,coFs],by simp[coW,coFs],by simp[coW,coFs]⟩ ?_
 rintro m ⟨fr,hp⟩ ⟨j,g,hm,hj,F1,F2,F5,F7,F28,F29,F30,F6,H0,H1,H2,H3,H4⟩
 simp only at F1 F2 F5 F7 F28 F29 F30 F6 H0 H1 H2 H3 H4
 have hcj:=Sd fs j
 by_cases hlt:j<fs.length
 ·have e1:(j:Int)<fs.length:=by omega
  have hg:fs[j]?=some fs[j]:=List.getElem?_eq_getElem hlt
  have hwj:IntKind.i64.wrap ((j:Int)+1)=(j:Int)+1:=wrapN (by omega)
  generalize fs[j]=t at*
  have hgt:=Eo hg
  have hst:=Cy hg
  have hft:=O0 out fs w0 j hg
  have hwt:=Se fs j hg
  have hnd:=hin j t hg (w0+coW (fs.take j))
  have hls:(coFs out w0 (fs.take j)).length=j:=by rw[Jq,List.length_take];omega
  generalize coFs out w0 (fs.take j)=S at*
  generalize coW (fs.take j)=cw at*
  obtain⟨t1,ps,ls,t4,t5⟩:=t
  simp only[A3] at hgt
  simp only[Br] at hst
  simp only[Sy.slotsOf] at hwt
  obtain⟨W,hW2⟩: ∃W,W=w0+cw:=⟨_,rfl⟩
  have hWb:0<=W/\W<=90020000:=by omega
  rw[<-hW2] at F6 hft hnd
  have hsl:IntKind.i64.wrap ((ps.length:Int)+ls.length)=(ps.length:Int)+ls.length:=Ag (by omega) (by omega)
  have HI:=Lib.hid hin
  have HF:=Lib.hid hft
  have HWt:=Lib.hid hwt
  have HND:=Lib.hid hnd
  have HLS:=Lib.hid hls
  have HW2:=Lib.hid hW2
  clear hin hft hwt hnd hg hlt hls hW2
  repeat' (first|refine ZN ?_|refine Z2 ?_ ?_|(intro h h';try simp[*,-h] at h'))
  generalize hg9:(hp ⟨0,9,0⟩).gen+1=g9 at*
  generalize hg10:(hp ⟨0,10,0⟩).gen+1=g10 at*
  generalize hgm:(hp ⟨0,35,0⟩).gen+1=gm at*
  clear hg9 hg10 hgm
  refine Ah (n:=ps.length) (fun s0 m2 z=> ∃i:Nat,ps.length - i<=m2/\i<=ps.length/\z.fr 1= .ptr ⟨0,1,0⟩ 1 0/\z.fr 2= .ptr ⟨0,2,0⟩ 1 0/\z.fr 5= .dmp ob ok or_/\z.fr 7= .ptr ⟨0,7,0⟩ 1 0/\z.fr 28= .sl false 5 (fs.map Fu.row)/\z.fr 29=iv fs.length/\z.fr 30=iv j/\z.fr 6=iv (W)/\z.fr 9= .ptr ⟨0,9,0⟩ g9 0/\z.fr 10= .ptr ⟨0,10,0⟩ g10 0/\z.fr 11=iv ((ps.length:Int)+ls.length)/\z.fr 45= .sl false 1 (txRows ps)/\z.fr 46=iv ps.length/\z.fr 47=iv i/\z.hp ⟨0,1,0⟩= .box 1 [.sl false 1 (txRows vs),.sl false 2 (arRows ar),.sl false 5 (fs.map Fu.row)] false/\z.hp ⟨0,2,0⟩= .box 1 [iv 0,.own ⟨0,2,2⟩ 1 0] false/\z.hp ⟨0,2,2⟩= .arr 1 5 163 [] false/\z.hp ⟨0,7,0⟩= .box 1 [iv 0,.own ⟨0,7,2⟩ g (S).length] false/\z.hp ⟨0,7,2⟩= .arr g 5 163 ((S).map Cf.row) false/\z.hp ⟨0,9,0⟩= .box g9 [tz t1.val,.sl false 1 (txRows ps),.sl false 1 (txRows ls),bz t4,.sl false 5 (stRows t5)] false/\z.hp ⟨0,10,0⟩= .box g10 [.dmp ob ok or_,.mp ⟨0,35,0⟩ gm] false/\z.hp ⟨0,35,0⟩=mpO thR gm (num (fun i (s:Tx)=>(s,(W+i,(0:Int)))) 0 (ps.take i))) ⟨0,by omega,by omega,by simp[*],by simp[*],by simp[*],by simp[*],by simp[*],by simp[*],by simp[*],by simp[*],by simp[*],by simp[*],by simp[*],by simp[*],by simp[*],by simp[*],by simp[*],by simp[*],by simp[*],by simp[*],by simp[*],by simp[*],by simp[*],(by first|(simp[*,num];done)|(simp[*,num];rfl))⟩ ?_
  rintro m2' ⟨fr',hp'⟩ ⟨i',hm2',hi',F1',F2',F5',F7',F28',F29',F30',F6',F9',F10',F11',F45',F46',F47',H0',H1',H2',H3',H4',H5',H6',H7'⟩
  simp only at F1' F2' F5' F7' F28' F29' F30' F6' F9' F10' F11' F45' F46' F47' H0' H1' H2' H3' H4' H5' H6' H7'
  clear F1 F2 F5 F7 F28 F29 F30 F6 H0 H1 H2 H3 H4
  by_cases hlt':i'<ps.length
  ·have e2:(i':Int)<ps.length:=by omega
   have hg:ps[i']?=some ps[i']:=List.getElem?_eq_getElem hlt'
   have hwi:IntKind.i64.wrap ((i':Int)+1)=(i':Int)+1:=wrapN (by omega)
   generalize ps[i']=s at*
   have hgt2:=Jw hg
   have hnt:=Cr (fun i (s:Tx)=>(s,(W+i,(0:Int)))) 0 ps i' hg
   have hsp:=Eu (fun i (s:Tx)=>(s,(W+i,(0:Int)))) ps 0 i' hg
   have hnd:=HND.out
   unfold coInL at hnd
   simp only[Jf,Nat.zero_add] at hnd
   rw[hsp,List.append_assoc,List.cons_append] at hnd
   have hlk:=Dz hnd
   simp only at hlk
   have k1:=Bi hlk 0
   have hmk:=Bp (num (fun i (s:Tx)=>(s,(W+i,(0:Int)))) 0 (ps.take i'))
   have hsn:=C5 thR gm (num (fun i (s:Tx)=>(s,(W+i,(0:Int)))) 0 (ps.take i')) (s,(W+((0+i':Nat):Int),(0:Int)))
   have hadd:IntKind.i64.wrap (W+i')=W+i':=Ag (by omega) (by omega)
   have hadd2:IntKind.i64.wrap (W+ps.length+i')=W+ps.length+i':=Ag (by omega) (by omega)
   have hq:=H7'
   clear H7'
   unfold mpO at hq
   obtain⟨ks,hks⟩: ∃ks,mKeys (num (fun i (s:Tx)=>(s,(W+i,(0:Int)))) 0 (ps.take i'))=ks:=⟨_,rfl⟩
   obtain⟨ag,hag⟩: ∃ag,(!(num (fun i (s:Tx)=>(s,(W+i,(0:Int)))) 0 (ps.take i')).isEmpty)=ag:=⟨_,rfl⟩
   obtain⟨rs,hrs⟩: ∃rs,mRows thR (num (fun i (s:Tx)=>(s,(W+i,(0:Int)))) 0 (ps.take i'))=rs:=⟨_,rfl⟩
   rw[hks] at hmk k1 hq hsn
   rw[hag] at hmk hq
   rw[hrs] at hq hsn
   have HS:=Lib.hid hsn
   have HT:=Lib.hid hnt
   clear hks hag hrs hlk hnd hsp hsn hnt hg hlt'
   repeat' (first|refine ZN ?_|refine Z2 ?_ ?_|(intro h h';try simp[*,-h] at h'))
   have hsn:=HS.out
   have hnt:=HT.out
   exact⟨ps.length - (i'+1),by omega,i'+1,by omega,by omega,by simp[*],by simp[*],by simp[*],by simp[*],by simp[*],by simp[*],by simp[*],by simp[*],by simp[*],by simp[*],by simp[*],by simp[*],by simp[*],by simp[*],by simp[*],by simp[*],by simp[*],by simp[*],by simp[*],by simp[*],by simp[*],by rw[hnt,hsn];simp[*,thR,Int.add_assoc]⟩
  have e2': ¬(i':Int)<ps.length:=by omega
  have hz':ps.take i'=ps:=List.take_of_length_le (by omega)
  rw[hz'] at H7'
  clear hz'
  repeat' (first|refine ZN ?_|refine Z2 ?_ ?_|(intro h h';try simp[*,-h] at h'))
  refine Ah (n:=ls.length) (fun s0 m2 z=> ∃i:Nat,ls.length - i<=m2/\i<=ls.length/\z.fr 1= .ptr ⟨0,1,0⟩ 1 0/\z.fr 2= .ptr ⟨0,2,0⟩ 1 0/\z.fr 5= .dmp ob ok or_/\z.fr 7= .ptr ⟨0,7,0⟩ 1 0/\z.fr 28= .sl false 5 (fs.map Fu.row)/\z.fr 29=iv fs.length/\z.fr 30=iv j/\z.fr 6=iv (W)/\z.fr 9= .ptr ⟨0,9,0⟩ g9 0/\z.fr 10= .ptr ⟨0,10,0⟩ g10 0/\z.fr 11=iv ((ps.length:Int)+ls.length)/\z.fr 61= .sl false 1 (txRows ls)/\z.fr 62=iv ls.length/\z.fr 63=iv i/\z.hp ⟨0,1,0⟩= .box 1 [.sl false 1 (txRows vs),.sl false 2 (arRows ar),.sl false 5 (fs.map Fu.row)] false/\z.hp ⟨0,2,0⟩= .box 1 [iv 0,.own ⟨0,2,2⟩ 1 0] false/\z.hp ⟨0,2,2⟩= .arr 1 5 163 [] false/\z.hp ⟨0,7,0⟩= .box 1 [iv 0,.own ⟨0,7,2⟩ g (S).length] false/\z.hp ⟨0,7,2⟩= .arr g 5 163 ((S).map Cf.row) false/\z.hp ⟨0,9,0⟩= .box g9 [tz t1.val,.sl false 1 (txRows ps),.sl false 1 (txRows ls),bz t4,.sl false 5 (stRows t5)] false/\z.hp ⟨0,10,0⟩= .box g10 [.dmp ob ok or_,.mp ⟨0,35,0⟩ gm] false/\z.hp ⟨0,35,0⟩=mpO thR gm (num (fun i (s:Tx)=>(s,(W+i,(0:Int)))) 0 ps++num (fun i (s:Tx)=>(s,(W+i,(0:Int)))) ps.length (ls.take i))) ⟨0,by omega,by omega,by simp[*],by simp[*],by simp[*],by simp[*],by simp[*],by simp[*],by simp[*],by simp[*],by simp[*],by simp[*],by simp[*],by simp[*],by simp[*],by simp[*],by simp[*],by simp[*],by simp[*],by simp[*],by simp[*],by simp[*],by simp[*],(by first|(simp[*,num];done)|(simp[*,num];rfl))⟩ ?_
  rintro m2'' ⟨fr'',hp''⟩ ⟨i'',hm2'',hi'',F1'',F2'',F5'',F7'',F28'',F29'',F30'',F6'',F9'',F10'',F11'',F61'',F62'',F63'',H0'',H1'',H2'',H3'',H4'',H5'',H6'',H7''⟩
  simp only at F1'' F2'' F5'' F7'' F28'' F29'' F30'' F6'' F9'' F10'' F11'' F61'' F62'' F63'' H0'' H1'' H2'' H3'' H4'' H5'' H6'' H7''
  clear F1' F2' F5' F7' F28' F29' F30' F6' F9' F10' F11' F45' F46' F47' H0' H1' H2' H3' H4' H5' H6' H7'
  by_cases hlt'':i''<ls.length
  ·have e2:(i'':Int)<ls.length:=by omega
   have hg:ls[i'']?=some ls[i'']:=List.getElem?_eq_getElem hlt''
   have hwi:IntKind.i64.wrap ((i'':Int)+1)=(i'':Int)+1:=wrapN (by omega)
   generalize ls[i'']=s at*
   have hgt2:=Jw hg
   have hnt:=Cr (fun i (s:Tx)=>(s,(W+i,(0:Int)))) ps.length ls i'' hg
   have hsp:=Eu (fun i (s:Tx)=>(s,(W+i,(0:Int)))) ls ps.length i'' hg
   have hnd:=HND.out
   unfold coInL at hnd
   simp only[Jf,Nat.zero_add] at hnd
   rw[hsp,<-List.append_assoc] at hnd
   have hlk:=Dz hnd
   simp only at hlk
   have k1:=Bi hlk 0
   have hmk:=Bp (num (fun i (s:Tx)=>(s,(W+i,(0:Int)))) 0 ps++num (fun i (s:Tx)=>(s,(W+i,(0:Int)))) ps.length (ls.take i''))
   have hsn:=C5 thR gm (num (fun i (s:Tx)=>(s,(W+i,(0:Int)))) 0 ps++num (fun i (s:Tx)=>(s,(W+i,(0:Int)))) ps.length (ls.take i'')) (s,(W+((ps.length+i'':Nat):Int),(0:Int)))
   have hadd:IntKind.i64.wrap (W+ps.length)=W+ps.length:=Ag (by omega) (by omega)
   have hadd2:IntKind.i64.wrap (W+ps.length+i'')=W+ps.length+i'':=Ag (by omega) (by omega)
   have hq:=H7''
   clear H7''
   unfold mpO at hq
   obtain⟨ks,hks⟩: ∃ks,mKeys (num (fun i (s:Tx)=>(s,(W+i,(0:Int)))) 0 ps++num (fun i (s:Tx)=>(s,(W+i,(0:Int)))) ps.length (ls.take i''))=ks:=⟨_,rfl⟩
   obtain⟨ag,hag⟩: ∃ag,(!(num (fun i (s:Tx)=>(s,(W+i,(0:Int)))) 0 ps++num (fun i (s:Tx)=>(s,(W+i,(0:Int)))) ps.length (ls.take i'')).isEmpty)=ag:=⟨_,rfl⟩
   obtain⟨rs,hrs⟩: ∃rs,mRows thR (num (fun i (s:Tx)=>(s,(W+i,(0:Int)))) 0 ps++num (fun i (s:Tx)=>(s,(W+i,(0:Int)))) ps.length (ls.take i''))=rs:=⟨_,rfl⟩
   rw[hks] at hmk k1 hq hsn
   rw[hag] at hmk hq
   rw[hrs] at hq hsn
   have HS:=Lib.hid hsn
   have HT:=Lib.hid hnt
   clear hks hag hrs hlk hnd hsp hsn hnt hg hlt''
   repeat' (first|refine ZN ?_|refine Z2 ?_ ?_|(intro h h';try simp[*,-h] at h'))
   have hsn:=HS.out
   have hnt:=HT.out
   exact⟨ls.length - (i''+1),by omega,i''+1,by omega,by omega,by simp[*],by simp[*],by simp[*],by simp[*],by simp[*],by simp[*],by simp[*],by simp[*],by simp[*],by simp[*],by simp[*],by simp[*],by simp[*],by simp[*],by simp[*],by simp[*],by simp[*],by simp[*],by simp[*],by simp[*],by simp[*],by rw[hnt,<-List.append_assoc,hsn];simp[*,thR,Int.add_assoc]⟩
  have e2'': ¬(i'':Int)<ls.length:=by omega
  have hz'':ls.take i''=ls:=List.take_of_length_le (by omega)
  rw[hz''] at H7''
  clear hz''
  have hcs:=Cda out (num (fun i (s:Tx)=>(s,(W+i,(0:Int)))) 0 ps++num (fun i (s:Tx)=>(s,(W+i,(0:Int)))) ps.length ls) t5 (by omega)
  have hset:setAll (coInL W ⟨t1,ps,ls,t4,t5⟩) []=num (fun i (s:Tx)=>(s,(W+i,(0:Int)))) 0 ps++num (fun i (s:Tx)=>(s,(W+i,(0:Int)))) ps.length ls:=by
   rw[N7 HND.out]
   unfold coInL
   simp only[Jf,Nat.zero_add]
  have hcf:coF out W ⟨t1,ps,ls,t4,t5⟩=⟨ps.length,(ps.length+ls.length:Nat),W,t4,coSs (coFind (num (fun i (s:Tx)=>(s,(W+i,(0:Int)))) 0 ps++num (fun i (s:Tx)=>(s,(W+i,(0:Int)))) ps.length ls) out) t5⟩:=by
   unfold coF
   rw[hset]
   rfl
  have hft:=HF.out
  rw[hcf] at hft
  have HF2:=Lib.hid hft
  have hq:=H7''
  clear hft hcf hset HF H7''
  generalize (num (fun i (s:Tx)=>(s,(W+i,(0:Int)))) 0 ps++num (fun i (s:Tx)=>(s,(W+i,(0:Int)))) ps.length ls)=PF at*
  obtain⟨nb,nk,nr,hn⟩: ∃b k r,mpD thR PF= .dmp b k r:=⟨_,_,_,rfl⟩
  rw[ho,hn] at hcs
  have hq2:mpO thR gm PF= .map gm nb nk nr false:=by
   unfold mpD at hn
   cases hn
   rfl
  rw[hq2] at hq
  generalize coFind PF out=fd at*
  have x3:=cf_take S
  have x4:(csRows (coSs fd t5)).take t5.length=csRows (coSs fd t5):=by rw[List.take_of_length_le (by simp)]
  have hls:=HLS.out
  have x1:(S.length+1)*56<=140737488355328:=by omega
  have x2:S.length<=9223372036854775806:=by omega
  have hww:IntKind.i64.wrap (W+((ps.length:Int)+ls.length))=W+((ps.length:Int)+ls.length):=Ag (by omega) (by omega)
  clear hn hq2 hls
  repeat' (first|refine ZN ?_|refine Z2 ?_ ?_|(intro h h';try simp[*,-h] at h'))
  have hft:=HF2.out
  have hwt:=HWt.out
  have hW2:=HW2.out
  have hls:=HLS.out
  exact⟨fs.length - (j+1),by omega,j+1,g+1,by omega,by omega,by simp[*],by simp[*],by simp[*],by simp[*],by simp[*],by simp[*],by simp[*],by simp[hww];omega,by simp[*],by simp[*],by simp[*],by rw[hft];simp[*],by rw[hft];simp[*,Cf.row]⟩
 have e1: ¬(j:Int)<fs.length:=by omega
 have hz:fs.take j=fs:=List.take_of_length_le (by omega)
 rw[hz] at H3 H4 F6
 repeat' (first|refine ZN ?_|refine Z2 ?_ ?_|(intro h h';try simp[*,-h] at h'))
 ·rw[if_pos (by omega)]
 ·rw[if_neg (by omega)]
end Go.Proofs.YtpmoibjpjlhcgaaGreatDoor
