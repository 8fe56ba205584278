/- A part of the proof: So, Sp, Sq, Sr, Su, Jb, Jc, Jd, Je. -/
import Derived.Test.YtggghdmdjpianaaGreatDoorC17
import Derived.Test.YtggghdmdjpianaaGreatDoorC08
set_option linter.unusedSimpArgs false
set_option linter.unusedVariables false
set_option maxRecDepth 200000
set_option maxHeartbeats 8000000
namespace Go.Proofs.YtggghdmdjpianaaGreatDoor
section
open Go Go.Ab Go.Ab.Sy
variable {rs:List (List AV)}{m:List (Tx×Fu)}{ks:List Value}{g gm:Nat}
theorem Fva{ag:Bool}(hm:TM m ag ks rs)(ek eo en:Int)(ex:Tx)(l:List Sy.Ex)(ih: ∀k,TC g gm ag ks rs k 313 [.ptr ⟨0,10012,0⟩ g 0,.sl false 5 (In l),iv 1] (bv (Ud m l 1)))(k:Nat):TC g gm ag ks rs k 310 [.ptr ⟨0,10012,0⟩ g 0,.agg [iz ek,iz eo,uz en,tz ex.val,.sl false 5 (In l)]] (iv (if Di m ex=true/\Ud m l 1=true then 1 else 0)):=by
 refine TC.of fun d hp1 b1 m1=>?_
 refine hB (k1:=k+1) (PR:=fun _ _=>False) Tryz.func310 (B2 Zd) ?_;have tcA:=ih (k+1);obtain⟨G1,a1,c1⟩:=tcA.rules;clear ih tcA;unfold Di;generalize Ud m l 1=ta at*
 cases hl:Sy.look m ex with
 |some t=>
  obtain⟨j,k1,k2,rfl⟩:=hm.some hl;obtain⟨r1,r2,r3,r4,r5⟩:=t;simp only[A8] at k2;simp only
  repeat' first|refine ZN ?_|refine Z2 ?_ ?_|intro h h';try simp[*,-h] at h'
  all_goals refine⟨?_,fun d' i c hd=>by have Uc:d'≠k+1:=Zo;have gI:d'<=k+1:=Zo;simp[*]⟩
  all_goals (first|(simp[*];done)|(simp_all;done))
 |none=>
  have k1:=hm.none hl;simp only
  repeat' first|refine ZN ?_|refine Z2 ?_ ?_|intro h h';try simp[*,-h] at h'
  all_goals refine⟨?_,fun d' i c hd=>by have Uc:d'≠k+1:=Zo;have gI:d'<=k+1:=Zo;simp[*]⟩
  all_goals (first|(simp[*];done)|(simp_all;done))
theorem Ym (ek eo en:Int)(ex:Tx)(l:List Sy.Ex):(Lm X47).dat 307 [.agg [iz ek,iz eo,uz en,tz ex.val,.sl false 5 (In l)]]=some [iv 1]:=by
 refine fW Tryz.func307 (B3 _ _) ?_;exact ZS
theorem tyE_mk (m:List (Tx×Fu))(k o n:Int)(s:Tx)(l:List Sy.Ex):vC m (.mk k o n s l)=if k=1\/k=2\/k=5 then 1 else if k=3 then(if Ud m l 1 then 1 else 0) else if k=4 then(if Di m s=true/\Ud m l 1=true then 1 else 0)
   else if k=6 then(if Ud m l 1 then(if o=14\/o=15 then 2 else 1) else 0) else if k=7\/k=8\/k=9 then(if Ud m l 2 then 2 else 0) else 0:=by rw[vC]
theorem Fra{ag:Bool}(hm:TM m ag ks rs)(N:Nat)(ihL: ∀l:List Sy.Ex,Uv l<=N-> ∀(t:Int) (k:Nat),TC g gm ag ks rs k 313 [.ptr ⟨0,10012,0⟩ g 0,.sl false 5 (In l),iv t] (bv (Ud m l t)))(e:Sy.Ex)(he:e.size<=N+1)(k:Nat):TC g gm ag ks rs k 399 [.ptr ⟨0,10012,0⟩ g 0,.agg e.row] (iv (vC m e)):=by
 refine TC.of fun d hp1 b1 m1=>?_
 refine hB (k1:=k+1) (PR:=fun _ _=>False) Tryz.func399 (B2 Zd) ?_;obtain⟨ek,eo,en,ex,l⟩:=e;simp only[A0] at he;rw[Ag,tyE_mk];have t1:=ihL l Zo 1;have t2:=ihL l Zo 2;clear ihL;obtain(rfl|rfl|rfl|rfl|rfl|rfl|rfl|rfl|rfl|hk):ek=1\/ek=2\/ek=3\/ek=4\/ek=5\/ek=6\/ek=7\/ek=8\/ek=9\/(ek<1\/9<ek):=Zo
 ·have hw:=Ym 1 eo en ex l
  clear t1 t2
  repeat' first|refine ZN ?_|refine Z2 ?_ ?_|intro h h';try simp[*,-h] at h'
  exact⟨Zi,fun d' i c hd=>by have Uc:d'≠k+1:=Zo;have gI:d'<=k+1:=Zo;simp[*]⟩
 ·have hw:=Ym 2 eo en ex l
  clear t1 t2
  repeat' first|refine ZN ?_|refine Z2 ?_ ?_|intro h h';try simp[*,-h] at h'
  exact⟨Zi,fun d' i c hd=>by have Uc:d'≠k+1:=Zo;have gI:d'<=k+1:=Zo;simp[*]⟩
 ·have tcA:=Daa 3 eo en ex l t1 (k+1)
  obtain⟨G1,a1,c1⟩:=tcA.rules;clear t1 t2 tcA
  repeat' first|refine ZN ?_|refine Z2 ?_ ?_|intro h h';try simp[*,-h] at h'
  exact⟨Zi,fun d' i c hd=>by have Uc:d'≠k+1:=Zo;have gI:d'<=k+1:=Zo;simp[*]⟩
 ·have tcA:=Fva hm 4 eo en ex l t1 (k+1)
  obtain⟨G1,a1,c1⟩:=tcA.rules;clear t1 t2 tcA
  repeat' first|refine ZN ?_|refine Z2 ?_ ?_|intro h h';try simp[*,-h] at h'
  exact⟨Zi,fun d' i c hd=>by have Uc:d'≠k+1:=Zo;have gI:d'<=k+1:=Zo;simp[*]⟩
 ·have hw:=Ym 5 eo en ex l
  clear t1 t2
  repeat' first|refine ZN ?_|refine Z2 ?_ ?_|intro h h';try simp[*,-h] at h'
  exact⟨Zi,fun d' i c hd=>by have Uc:d'≠k+1:=Zo;have gI:d'<=k+1:=Zo;simp[*]⟩
 ·have tcA:=tyOp_w 6 eo en ex l t1 (k+1)
  obtain⟨G1,a1,c1⟩:=tcA.rules;clear t1 t2 tcA
  repeat' first|refine ZN ?_|refine Z2 ?_ ?_|intro h h';try simp[*,-h] at h'
  exact⟨Zi,fun d' i c hd=>by have Uc:d'≠k+1:=Zo;have gI:d'<=k+1:=Zo;simp[*]⟩
 ·have tcA:=Nn 7 eo en ex l t2 (k+1)
  obtain⟨G1,a1,c1⟩:=tcA.rules;clear t1 t2 tcA
  repeat' first|refine ZN ?_|refine Z2 ?_ ?_|intro h h';try simp[*,-h] at h'
  exact⟨Zi,fun d' i c hd=>by have Uc:d'≠k+1:=Zo;have gI:d'<=k+1:=Zo;simp[*]⟩
 ·have tcA:=Nn 8 eo en ex l t2 (k+1)
  obtain⟨G1,a1,c1⟩:=tcA.rules;clear t1 t2 tcA
  repeat' first|refine ZN ?_|refine Z2 ?_ ?_|intro h h';try simp[*,-h] at h'
  exact⟨Zi,fun d' i c hd=>by have Uc:d'≠k+1:=Zo;have gI:d'<=k+1:=Zo;simp[*]⟩
 ·have tcA:=Nn 9 eo en ex l t2 (k+1)
  obtain⟨G1,a1,c1⟩:=tcA.rules;clear t1 t2 tcA
  repeat' first|refine ZN ?_|refine Z2 ?_ ?_|intro h h';try simp[*,-h] at h'
  exact⟨Zi,fun d' i c hd=>by have Uc:d'≠k+1:=Zo;have gI:d'<=k+1:=Zo;simp[*]⟩
 ·clear t1 t2
  have z:ek≠1/\ek≠2/\ek≠3/\ek≠4/\ek≠5/\ek≠6/\ek≠7/\ek≠8/\ek≠9:=Zo;obtain⟨z1,z2,z3,z4,z5,z6,z7,z8,z9⟩:=z;rcases hk with hk|hk
  ·repeat' first|refine ZN ?_|refine Z2 ?_ ?_|intro h h';try simp[*,-h] at h'
   exact⟨Zm,fun d' i c hd=>by have Uc:d'≠k+1:=Zo;have gI:d'<=k+1:=Zo;simp[*]⟩
  ·have xF: ¬ek<1:=Zo
   repeat' first|refine ZN ?_|refine Z2 ?_ ?_|intro h h';try simp[*,-h] at h'
   exact⟨Zm,fun d' i c hd=>by have Uc:d'≠k+1:=Zo;have gI:d'<=k+1:=Zo;simp[*]⟩
theorem A9a {m:List (Tx×Fu)}{g gm:Nat}{ag:Bool}{ks:List Value}{rs:List (List AV)}(hm:TM m ag ks rs): ∀N,N<=1048576-> ∀l:List Sy.Ex,Uv l<=N-> ∀(t:Int) (k:Nat),TC g gm ag ks rs k 313 [.ptr ⟨0,10012,0⟩ g 0,.sl false 5 (In l),iv t] (bv (Ud m l t))
 |0,h,l,hl,t,k=>A8a 0 h (fun e he=>by have:=e.size_pos;omega) l hl t k
 |N+1,h,l,hl,t,k=>A8a (N+1) h (fun e he k=>Fra hm N (fun l hl t k=>A9a hm N Zo l hl t k) e he k) l hl t k
theorem F6{ag:Bool}(hm:TM m ag ks rs)(l:List Sy.Ex)(hl:Uv l<=1048576)(t:Int)(k:Nat):TC g gm ag ks rs k 313 [.ptr ⟨0,10012,0⟩ g 0,.sl false 5 (In l),iv t] (bv (Ud m l t)):=A9a hm 1048576 (D5 _) l hl t k
end
section
open Go Go.Ab Go.Ab.Sy
variable {rs:List (List AV)}{m:List (Tx×Fu)}{ks:List Value}{g gm:Nat}
theorem knE_mk (m:List (Tx×Fu))(k o n:Int)(s:Tx)(l:List Sy.Ex):wE m (.mk k o n s l)=((decide (k≠4)||(Sy.look m s).isSome)&&dB m l):=by rw[wE]
theorem knS_mk (m:List (Tx×Fu))(k:Int)(s:Tx)(e:List Sy.Ex)(t f:List Sy.St):LD m (.mk k s e t f)=((decide (k≠6)||(Sy.look m s).isSome)&&dB m e&&aU m t&&aU m f):=by rw[LD]
theorem tyS_mk (m:List (Tx×Fu))(w:Bool)(k:Int)(s:Tx)(e:List Sy.Ex)(t f:List Sy.St):tyS m w (.mk k s e t f)=((decide (k≠6)|| !Di m s)&&(decide (k≠7)||(e.length==0||w))&&Ud m e (if k=4\/k=5 then 2 else 1)&&Ui m w t&&Ui m w f):=by rw[tyS]
theorem M2 (m:List (Tx×Fu)):dB m []=true:=by rw[dB]
theorem M3 (m:List (Tx×Fu))(e:Sy.Ex)(l:List Sy.Ex):dB m (e::l)=(wE m e&&dB m l):=by rw[dB]
theorem KZ (m:List (Tx×Fu)):aU m []=true:=by rw[aU]
theorem LA (m:List (Tx×Fu))(e:Sy.St)(l:List Sy.St):aU m (e::l)=(LD m e&&aU m l):=by rw[aU]
theorem IC (m:List (Tx×Fu))(w:Bool):Ui m w []=true:=by rw[Ui]
theorem ID (m:List (Tx×Fu))(w:Bool)(e:Sy.St)(l:List Sy.St):Ui m w (e::l)=(tyS m w e&&Ui m w l):=by rw[Ui]
theorem KY{ag:Bool}(hm:TM m ag ks rs)(N:Nat)(hN:N<=1048576)(ih: ∀e:Sy.Ex,e.size<=N-> ∀k,TC g gm ag ks rs k 312 [.ptr ⟨0,10012,0⟩ g 0,.agg e.row] (bv (wE m e)))(e:Sy.Ex)(he:e.size<=N+1)(k:Nat):TC g gm ag ks rs k 312 [.ptr ⟨0,10012,0⟩ g 0,.agg e.row] (bv (wE m e)):=by
 refine TC.of fun d hp1 b1 m1=>?_
 refine hB (k1:=k+1) (PR:=fun _ _=>False) Tryz.func312 (B2 Zd) ?_;obtain⟨ek,eo,en,ex,l⟩:=e;simp only[A0] at he;have Ij:l.length<=1048576:=by have:=A4 l;omega
 rw[Ag,knE_mk];by_cases h4:ek=4
 ·subst h4
  cases hl:Sy.look m ex with
  |some t=>
   obtain⟨j,k1,k2,oM⟩:=hm.some hl;obtain⟨r1,r2,r3,r4,r5⟩:=t;simp only[A8] at k2
   repeat' (first|((with_reducible apply A7);refine Dx [(0,10),(1,10),(2,10),(3,10),(4,10),(5,10),(6,10),(7,10),(8,10),(9,10),(9,11)] ?_;(iterate 11 refine Zs ?_);exact Zz)|(refine Z1 ?_)|(refine Z2 ?_ ?_)|(intro h h';try simp[*,-h] at h'))
   refine Ac (n:=l.length) (fun s0 m' z=> ∃j:Nat,l.length - j<=m'/\j<=l.length/\z.fr 0= .ptr ⟨0,10012,0⟩ g 0/\z.fr 25= .sl false 5 (In l)/\z.fr 26=iv l.length/\z.fr 27=iv j/\z.hp ⟨0,10012,0⟩= .box g [.mp ⟨0,10010,0⟩ gm,.sc .nilFunc,.fn 307 [],.fn 307 [],.fn 1000309 [.ptr ⟨0,10012,0⟩ g 0],.fn 1000310 [.ptr ⟨0,10012,0⟩ g 0],.fn 307 [],.fn 1000311 [.ptr ⟨0,10012,0⟩ g 0],.fn 1000308 [.ptr ⟨0,10012,0⟩ g 0],.fn 1000308 [.ptr ⟨0,10012,0⟩ g 0],.fn 1000308 [.ptr ⟨0,10012,0⟩ g 0]] false/\z.hp ⟨0,10010,0⟩= .map gm ag ks rs false/\(∀d' i c,d'<=k->z.hp ⟨d',i,c⟩=hp1 ⟨d',i,c⟩)/\dB m l=dB m (l.drop j)) ⟨0,Zo,Zo,Zm,Zm,Zm,Zm,Zm,Zm,fun d' i c hd=>by have Uc:d'≠k+1:=Zo;have gI:d'<=k+1:=Zo;simp[*],Zi⟩ ?_;rintro m' ⟨fr,hp⟩ ⟨j,AJ,hj,f0,fl,fn,fi,b2,m2,HK,hd⟩;simp only at f0 fl fn fi b2 m2 HK;clear b1 m1;by_cases Ii:j<l.length
   ·have e1:(j:Int)<l.length:=Zo
    have hg:l[j]?=some l[j]:=Bs Ii;have oF:IntKind.i64.wrap ((j:Int)+1)=(j:Int)+1:=Iw Zo;rw[Ng Ii,M3] at hd;generalize l[j]=e at*;have jJ:=Jt hg;have dN:=C5 hg;have tcE:=ih e Zo (k+1);generalize wE m e=te at*;obtain⟨xk,xo,xn,xx,xkids⟩:=e;simp only[Ag] at jJ tcE;obtain⟨G1,a1,c1⟩:=tcE.rules;have HD:=Lib.hid hd;have HK:=Lib.hid HK;clear hg Ii hd tcE
    repeat' first|refine ZN ?_|refine Z2 ?_ ?_|intro h h';try simp[*,-h] at h'
    all_goals have hd:=HD.out
    all_goals have HK:=HK.out
    ·exact⟨by rw[hd];simp[*],fun d' i c hd=>by have Uc:d'≠k+1:=Zo;have gI:d'<=k+1:=Zo;simp[*]⟩
    ·exact⟨l.length - (j+1),Zo,j+1,Zo,Zo,Zm,Zm,Zm,Zm,Zm,Zm,fun d' i c hd=>by have Uc:d'≠k+1:=Zo;have gI:d'<=k+1:=Zo;simp[*],by rw[hd];simp[*]⟩
   ·have e1: ¬(j:Int)<l.length:=Zo
    have Uc:dB m l=true:=by rw[hd,zB Zo,M2]
    clear hd
    repeat' first|refine ZN ?_|refine Z2 ?_ ?_|intro h h';try simp[*,-h] at h'
    exact⟨by rw[Uc];simp[*],HK⟩
  |none=>
   have k1:=hm.none hl
   repeat' (first|((with_reducible apply A7);refine Dx [(0,10),(1,10),(2,10),(3,10),(4,10),(5,10),(6,10),(7,10),(8,10),(9,10),(9,11)] ?_;(iterate 11 refine Zs ?_);exact Zz)|(refine Z1 ?_)|(refine Z2 ?_ ?_)|(intro h h';try simp[*,-h] at h'))
   exact⟨Zi,fun d' i c hd=>by have Uc:d'≠k+1:=Zo;have gI:d'<=k+1:=Zo;simp[*]⟩
 ·repeat' first|refine ZN ?_|refine Z2 ?_ ?_|intro h h';try simp[*,-h] at h'
  refine Ac (n:=l.length) (fun s0 m' z=> ∃j:Nat,l.length - j<=m'/\j<=l.length/\z.fr 0= .ptr ⟨0,10012,0⟩ g 0/\z.fr 25= .sl false 5 (In l)/\z.fr 26=iv l.length/\z.fr 27=iv j/\z.hp ⟨0,10012,0⟩= .box g [.mp ⟨0,10010,0⟩ gm,.sc .nilFunc,.fn 307 [],.fn 307 [],.fn 1000309 [.ptr ⟨0,10012,0⟩ g 0],.fn 1000310 [.ptr ⟨0,10012,0⟩ g 0],.fn 307 [],.fn 1000311 [.ptr ⟨0,10012,0⟩ g 0],.fn 1000308 [.ptr ⟨0,10012,0⟩ g 0],.fn 1000308 [.ptr ⟨0,10012,0⟩ g 0],.fn 1000308 [.ptr ⟨0,10012,0⟩ g 0]] false/\z.hp ⟨0,10010,0⟩= .map gm ag ks rs false/\(∀d' i c,d'<=k->z.hp ⟨d',i,c⟩=hp1 ⟨d',i,c⟩)/\dB m l=dB m (l.drop j)) ⟨0,Zo,Zo,Zm,Zm,Zm,Zm,Zm,Zm,fun d' i c hd=>by have Uc:d'≠k+1:=Zo;have gI:d'<=k+1:=Zo;simp[*],Zi⟩ ?_;rintro m' ⟨fr,hp⟩ ⟨j,AJ,hj,f0,fl,fn,fi,b2,m2,HK,hd⟩;simp only at f0 fl fn fi b2 m2 HK;clear b1 m1;by_cases Ii:j<l.length
  ·have e1:(j:Int)<l.length:=Zo
   have hg:l[j]?=some l[j]:=Bs Ii;have oF:IntKind.i64.wrap ((j:Int)+1)=(j:Int)+1:=Iw Zo;rw[Ng Ii,M3] at hd;generalize l[j]=e at*;have jJ:=Jt hg;have dN:=C5 hg;have tcE:=ih e Zo (k+1);generalize wE m e=te at*;obtain⟨xk,xo,xn,xx,xkids⟩:=e;simp only[Ag] at jJ tcE;obtain⟨G1,a1,c1⟩:=tcE.rules;have HD:=Lib.hid hd;have HK:=Lib.hid HK;clear hg Ii hd tcE
   repeat' first|refine ZN ?_|refine Z2 ?_ ?_|intro h h';try simp[*,-h] at h'
   all_goals have hd:=HD.out
   all_goals have HK:=HK.out
   ·exact⟨by rw[hd];simp[*],fun d' i c hd=>by have Uc:d'≠k+1:=Zo;have gI:d'<=k+1:=Zo;simp[*]⟩
   ·exact⟨l.length - (j+1),Zo,j+1,Zo,Zo,Zm,Zm,Zm,Zm,Zm,Zm,fun d' i c hd=>by have Uc:d'≠k+1:=Zo;have gI:d'<=k+1:=Zo;simp[*],by rw[hd];simp[*]⟩
  ·have e1: ¬(j:Int)<l.length:=Zo
   have Uc:dB m l=true:=by rw[hd,zB Zo,M2]
   clear hd
   repeat' first|refine ZN ?_|refine Z2 ?_ ?_|intro h h';try simp[*,-h] at h'
   exact⟨by rw[Uc];simp[*],HK⟩
theorem B5a {m:List (Tx×Fu)}{g gm:Nat}{ag:Bool}{ks:List Value}{rs:List (List AV)}(hm:TM m ag ks rs): ∀N,N<=1048576-> ∀e:Sy.Ex,e.size<=N-> ∀k:Nat,TC g gm ag ks rs k 312 [.ptr ⟨0,10012,0⟩ g 0,.agg e.row] (bv (wE m e))
 |0,h,e,he,k=>by have:=e.size_pos;omega
 |N+1,h,e,he,k=>KY hm N Zo (fun e he k=>B5a hm N Zo e he k) e he k
theorem B4a{ag:Bool}(hm:TM m ag ks rs)(e:Sy.Ex)(he:e.size<=1048576)(k:Nat):TC g gm ag ks rs k 312 [.ptr ⟨0,10012,0⟩ g 0,.agg e.row] (bv (wE m e)):=B5a hm 1048576 (D5 _) e he k
end
section
open Go Go.Ab Go.Ab.Sy
variable {rs:List (List AV)}{m:List (Tx×Fu)}{ks:List Value}{g gm:Nat}
theorem Px{ag:Bool}(hm:TM m ag ks rs)(N:Nat)(hN:N<=1048576)(ih: ∀l:List Sy.St,Ix l<N-> ∀k,TC g gm ag ks rs k 234 [.ptr ⟨0,10012,0⟩ g 0,.sl false 5 (Ik l)] (bv (aU m l)))(l:List Sy.St)(hl:Ix l<=N)(k:Nat):TC g gm ag ks rs k 234 [.ptr ⟨0,10012,0⟩ g 0,.sl false 5 (Ik l)] (bv (aU m l)):=by
 refine TC.of fun d hp1 b1 m1=>?_
 refine hB (k1:=k+1) (PR:=fun _ _=>False) Tryz.func234 (B2 Zd) ?_;have Ij:l.length<=1048576:=by have:=A9 l;omega
 repeat' first|refine ZN ?_|refine Z2 ?_ ?_|intro h h';try simp[*,-h] at h'
 refine Ac (n:=l.length) (fun s0 m' z=> ∃j:Nat,l.length - j<=m'/\j<=l.length/\z.fr 0= .ptr ⟨0,10012,0⟩ g 0/\z.fr 11= .sl false 5 (Ik l)/\z.fr 12=iv l.length/\z.fr 13=iv j/\z.hp ⟨0,10012,0⟩= .box g [.mp ⟨0,10010,0⟩ gm,.sc .nilFunc,.fn 307 [],.fn 307 [],.fn 1000309 [.ptr ⟨0,10012,0⟩ g 0],.fn 1000310 [.ptr ⟨0,10012,0⟩ g 0],.fn 307 [],.fn 1000311 [.ptr ⟨0,10012,0⟩ g 0],.fn 1000308 [.ptr ⟨0,10012,0⟩ g 0],.fn 1000308 [.ptr ⟨0,10012,0⟩ g 0],.fn 1000308 [.ptr ⟨0,10012,0⟩ g 0]] false/\z.hp ⟨0,10010,0⟩= .map gm ag ks rs false/\(∀d' i c,d'<=k->z.hp ⟨d',i,c⟩=hp1 ⟨d',i,c⟩)/\aU m l=aU m (l.drop j)) ⟨0,Zo,Zo,Zm,Zm,Zm,Zm,Zm,Zm,fun d' i c hd=>by have Uc:d'≠k+1:=Zo;have gI:d'<=k+1:=Zo;simp[*],Zi⟩ ?_;rintro m' ⟨fr,hp⟩ ⟨j,AJ,hj,f0,fl,fn,fi,b2,m2,HK,hd⟩;simp only at f0 fl fn fi b2 m2 HK;clear b1 m1;by_cases Ii:j<l.length
 ·have e1:(j:Int)<l.length:=Zo
  have hg:l[j]?=some l[j]:=Bs Ii;have oF:IntKind.i64.wrap ((j:Int)+1)=(j:Int)+1:=Iw Zo;rw[Ng Ii,LA] at hd;generalize l[j]=e at*;have jJ:=Sw hg;have dN:=Gb hg;obtain⟨ek,ex,ee,eth,eel⟩:=e;simp only[Bo] at jJ;simp only[Bi] at dN;rw[knS_mk] at hd;have FY:ee.length<=1048576:=by have:=A4 ee;omega
  by_cases h6:ek=6
  ·subst h6
   cases iK:Sy.look m ex with
   |some t=>
    obtain⟨jj,k1,k2,oM⟩:=hm.some iK;obtain⟨r1,r2,r3,r4,r5⟩:=t;simp only[A8] at k2;rw[iK] at hd;have HD:=Lib.hid hd;have HK:=Lib.hid HK;clear hg Ii hd
    repeat' (first|((with_reducible apply A7);refine Dx [(0,10),(1,10),(2,10),(3,10),(4,10),(5,10),(6,10),(7,10),(8,10),(9,10),(9,11)] ?_;(iterate 11 refine Zs ?_);exact Zz)|(refine Z1 ?_)|(refine Z2 ?_ ?_)|(intro h h';try simp[*,-h] at h'))
    generalize hg6:(hp ⟨k+1,6,0⟩).gen+1=g6 at*;clear hg6;refine Ac (n:=ee.length) (fun s0 m'' z=> ∃i:Nat,ee.length - i<=m''/\i<=ee.length/\z.fr 0= .ptr ⟨0,10012,0⟩ g 0/\z.fr 6= .ptr ⟨k+1,6,0⟩ g6 0/\z.fr 11= .sl false 5 (Ik l)/\z.fr 12=iv l.length/\z.fr 13=iv j/\z.fr 33= .sl false 5 (In ee)/\z.fr 34=iv ee.length/\z.fr 35=iv i/\z.hp ⟨k+1,6,0⟩= .box g6 [iz 6,tz ex.val,.sl false 5 (In ee),.sl false 5 (Ik eth),.sl false 5 (Ik eel)] false/\z.hp ⟨0,10012,0⟩= .box g [.mp ⟨0,10010,0⟩ gm,.sc .nilFunc,.fn 307 [],.fn 307 [],.fn 1000309 [.ptr ⟨0,10012,0⟩ g 0],.fn 1000310 [.ptr ⟨0,10012,0⟩ g 0],.fn 307 [],.fn 1000311 [.ptr ⟨0,10012,0⟩ g 0],.fn 1000308 [.ptr ⟨0,10012,0⟩ g 0],.fn 1000308 [.ptr ⟨0,10012,0⟩ g 0],.fn 1000308 [.ptr ⟨0,10012,0⟩ g 0]] false/\z.hp ⟨0,10010,0⟩= .map gm ag ks rs false/\(∀d' i c,d'<=k->z.hp ⟨d',i,c⟩=hp1 ⟨d',i,c⟩)/\dB m ee=dB m (ee.drop i)) ⟨0,Zo,Zo,Zm,Zm,Zm,Zm,Zm,Zm,Zm,Zm,Zm,Zm,Zm,fun d' i c hd=>by have Uc:d'≠k+1:=Zo;simp[*];try exact HK.out d' i c hd,Zi⟩ ?_;rintro m'' ⟨fr',hp'⟩ ⟨i,hmi,hi,f0',f6',f11',f12',f13',f33',f34',f35',b6',b2',m2',HK',lB⟩;simp only at f0' f6' f11' f12' f13' f33' f34' f35' b6' b2' m2' HK';clear f0 fl fn fi b2 m2 HK;by_cases xE:i<ee.length
    ·have e1i:(i:Int)<ee.length:=Zo
     have hgi:ee[i]?=some ee[i]:=Bs xE;have hwii:IntKind.i64.wrap ((i:Int)+1)=(i:Int)+1:=Iw Zo;rw[Ng xE,M3] at lB;generalize ee[i]=e at*;have hgti:=Jt hgi;have hsti:=C5 hgi;have tcE:=B4a (g:=g) (gm:=gm) hm e Zo (k+1);generalize wE m e=te at*;obtain⟨xk,xo,xn,xx,xkids⟩:=e;simp only[Ag] at hgti tcE;obtain⟨G1,a1,c1⟩:=tcE.rules;have HDi:=Lib.hid lB;have HKi:=Lib.hid HK';clear hgi xE lB tcE HK'
     repeat' first|refine ZN ?_|refine Z2 ?_ ?_|intro h h';try simp[*,-h] at h'
     all_goals have lB:=HDi.out
     all_goals have HK':=HKi.out
     ·have hd:=HD.out
      exact⟨by rw[hd,lB];simp[*],fun d' i c hd=>by have Uc:d'≠k+1:=Zo;have gI:d'<=k+1:=Zo;simp[*]⟩
     ·exact⟨ee.length - (i+1),Zo,i+1,Zo,Zo,Zm,Zm,Zm,Zm,Zm,Zm,Zm,Zm,Zm,Zm,Zm,fun d' i c hd=>by have Uc:d'≠k+1:=Zo;have gI:d'<=k+1:=Zo;simp[*],by rw[lB];simp[*]⟩
    ·have e1i: ¬(i:Int)<ee.length:=Zo
     have Uc:dB m ee=true:=by rw[lB,zB Zo,M2]
     have HKi:=Lib.hid HK';have HK2:=Lib.hid Uc;clear lB Uc HK';have tcT:=ih eth Zo (k+1);have tcL:=ih eel Zo (k+1);generalize aU m eth=bth at*;generalize aU m eel=bel at*;obtain⟨G2,a2,c2⟩:=tcT.rules;obtain⟨G3,a3,c3⟩:=tcL.rules;clear tcT tcL
     repeat' first|refine ZN ?_|refine Z2 ?_ ?_|intro h h';try simp[*,-h] at h'
     all_goals have hd:=HD.out
     all_goals have Uc:=HK2.out
     all_goals have HK':=HKi.out
     all_goals first
      |exact⟨l.length - (j+1),Zo,j+1,Zo,Zo,Zm,Zm,Zm,Zm,Zm,Zm,fun d' i c hd=>by have Uc:d'≠k+1:=Zo;have gI:d'<=k+1:=Zo;simp[*],by rw[hd];simp[*]⟩
      |exact⟨by rw[hd];simp[*],fun d' i c hd=>by have Uc:d'≠k+1:=Zo;have gI:d'<=k+1:=Zo;simp[*]⟩
      |(refine⟨l.length - (j+1),Zo,j+1,Zo,Zo,?_,?_,?_,?_,?_,?_,fun d' i c hd=>by have Uc:d'≠k+1:=Zo;have gI:d'<=k+1:=Zo;simp[*],?_⟩<;>(first|(simp[*];done)|(rw[hd];simp[*];done)))
   |none=>
    have k1:=hm.none iK;rw[iK] at hd;have HD:=Lib.hid hd;have HK:=Lib.hid HK;clear hg Ii hd
    repeat' (first|((with_reducible apply A7);refine Dx [(0,10),(1,10),(2,10),(3,10),(4,10),(5,10),(6,10),(7,10),(8,10),(9,10),(9,11)] ?_;(iterate 11 refine Zs ?_);exact Zz)|(refine Z1 ?_)|(refine Z2 ?_ ?_)|(intro h h';try simp[*,-h] at h'))
    have hd:=HD.out;have HK:=HK.out;exact⟨by rw[hd];simp,fun d' i c hd=>by have Uc:d'≠k+1:=Zo;have gI:d'<=k+1:=Zo;simp[*]⟩
  ·have HD:=Lib.hid hd
   have HK:=Lib.hid HK;clear hg Ii hd
   repeat' first|refine ZN ?_|refine Z2 ?_ ?_|intro h h';try simp[*,-h] at h'
   generalize hg6:(hp ⟨k+1,6,0⟩).gen+1=g6 at*;clear hg6;refine Ac (n:=ee.length) (fun s0 m'' z=> ∃i:Nat,ee.length - i<=m''/\i<=ee.length/\z.fr 0= .ptr ⟨0,10012,0⟩ g 0/\z.fr 6= .ptr ⟨k+1,6,0⟩ g6 0/\z.fr 11= .sl false 5 (Ik l)/\z.fr 12=iv l.length/\z.fr 13=iv j/\z.fr 33= .sl false 5 (In ee)/\z.fr 34=iv ee.length/\z.fr 35=iv i/\z.hp ⟨k+1,6,0⟩= .box g6 [iz ek,tz ex.val,.sl false 5 (In ee),.sl false 5 (Ik eth),.sl false 5 (Ik eel)] false/\z.hp ⟨0,10012,0⟩= .box g [.mp ⟨0,10010,0⟩ gm,.sc .nilFunc,.fn 307 [],.fn 307 [],.fn 1000309 [.ptr ⟨0,10012,0⟩ g 0],.fn 1000310 [.ptr ⟨0,10012,0⟩ g 0],.fn 307 [],.fn 1000311 [.ptr ⟨0,10012,0⟩ g 0],.fn 1000308 [.ptr ⟨0,10012,0⟩ g 0],.fn 1000308 [.ptr ⟨0,10012,0⟩ g 0],.fn 1000308 [.ptr ⟨0,10012,0⟩ g 0]] false/\z.hp ⟨0,10010,0⟩= .map gm ag ks rs false/\(∀d' i c,d'<=k->z.hp ⟨d',i,c⟩=hp1 ⟨d',i,c⟩)/\dB m ee=dB m (ee.drop i)) ⟨0,Zo,Zo,Zm,Zm,Zm,Zm,Zm,Zm,Zm,Zm,Zm,Zm,Zm,fun d' i c hd=>by have Uc:d'≠k+1:=Zo;simp[*];try exact HK.out d' i c hd,Zi⟩ ?_;rintro m'' ⟨fr',hp'⟩ ⟨i,hmi,hi,f0',f6',f11',f12',f13',f33',f34',f35',b6',b2',m2',HK',lB⟩;simp only at f0' f6' f11' f12' f13' f33' f34' f35' b6' b2' m2' HK';clear f0 fl fn fi b2 m2 HK;by_cases xE:i<ee.length
   ·have e1i:(i:Int)<ee.length:=Zo
    have hgi:ee[i]?=some ee[i]:=Bs xE;have hwii:IntKind.i64.wrap ((i:Int)+1)=(i:Int)+1:=Iw Zo;rw[Ng xE,M3] at lB;generalize ee[i]=e at*;have hgti:=Jt hgi;have hsti:=C5 hgi;have tcE:=B4a (g:=g) (gm:=gm) hm e Zo (k+1);generalize wE m e=te at*;obtain⟨xk,xo,xn,xx,xkids⟩:=e;simp only[Ag] at hgti tcE;obtain⟨G1,a1,c1⟩:=tcE.rules;have HDi:=Lib.hid lB;have HKi:=Lib.hid HK';clear hgi xE lB tcE HK'
    repeat' first|refine ZN ?_|refine Z2 ?_ ?_|intro h h';try simp[*,-h] at h'
    all_goals have lB:=HDi.out
    all_goals have HK':=HKi.out
    ·have hd:=HD.out
     exact⟨by rw[hd,lB];simp[*],fun d' i c hd=>by have Uc:d'≠k+1:=Zo;have gI:d'<=k+1:=Zo;simp[*]⟩
    ·exact⟨ee.length - (i+1),Zo,i+1,Zo,Zo,Zm,Zm,Zm,Zm,Zm,Zm,Zm,Zm,Zm,Zm,Zm,fun d' i c hd=>by have Uc:d'≠k+1:=Zo;have gI:d'<=k+1:=Zo;simp[*],by rw[lB];simp[*]⟩
   ·have e1i: ¬(i:Int)<ee.length:=Zo
    have Uc:dB m ee=true:=by rw[lB,zB Zo,M2]
    have HKi:=Lib.hid HK';have HK2:=Lib.hid Uc;clear lB Uc HK';have tcT:=ih eth Zo (k+1);have tcL:=ih eel Zo (k+1);generalize aU m eth=bth at*;generalize aU m eel=bel at*;obtain⟨G2,a2,c2⟩:=tcT.rules;obtain⟨G3,a3,c3⟩:=tcL.rules;clear tcT tcL
    repeat' first|refine ZN ?_|refine Z2 ?_ ?_|intro h h';try simp[*,-h] at h'
    all_goals have hd:=HD.out
    all_goals have Uc:=HK2.out
    all_goals have HK':=HKi.out
    all_goals first
     |exact⟨l.length - (j+1),Zo,j+1,Zo,Zo,Zm,Zm,Zm,Zm,Zm,Zm,fun d' i c hd=>by have Uc:d'≠k+1:=Zo;have gI:d'<=k+1:=Zo;simp[*],by rw[hd];simp[*]⟩
     |exact⟨by rw[hd];simp[*],fun d' i c hd=>by have Uc:d'≠k+1:=Zo;have gI:d'<=k+1:=Zo;simp[*]⟩
     |(refine⟨l.length - (j+1),Zo,j+1,Zo,Zo,?_,?_,?_,?_,?_,?_,fun d' i c hd=>by have Uc:d'≠k+1:=Zo;have gI:d'<=k+1:=Zo;simp[*],?_⟩<;>(first|(simp[*];done)|(rw[hd];simp[*];done)))
 ·have e1: ¬(j:Int)<l.length:=Zo
  have Uc:aU m l=true:=by rw[hd,zB Zo,KZ]
  clear hd
  repeat' first|refine ZN ?_|refine Z2 ?_ ?_|intro h h';try simp[*,-h] at h'
  exact⟨by rw[Uc],HK⟩
theorem Py {m:List (Tx×Fu)}{g gm:Nat}{ag:Bool}{ks:List Value}{rs:List (List AV)}(hm:TM m ag ks rs): ∀N,N<=1048576-> ∀l:List Sy.St,Ix l<=N-> ∀k:Nat,TC g gm ag ks rs k 234 [.ptr ⟨0,10012,0⟩ g 0,.sl false 5 (Ik l)] (bv (aU m l))
 |0,h,l,hl,k=>Px hm 0 h (fun l h'=>Zo) l hl k
 |N+1,h,l,hl,k=>Px hm (N+1) h (fun l h' k=>Py hm N Zo l Zo k) l hl k
theorem A4a{ag:Bool}(hm:TM m ag ks rs)(l:List Sy.St)(hl:Ix l<=1048576)(k:Nat):TC g gm ag ks rs k 234 [.ptr ⟨0,10012,0⟩ g 0,.sl false 5 (Ik l)] (bv (aU m l)):=Py hm 1048576 (D5 _) l hl k
end
section
open Go Go.Ab Go.Ab.Sy
variable {rs:List (List AV)}{m:List (Tx×Fu)}{ks:List Value}{g gm:Nat}
theorem Pv{ag:Bool}(hm:TM m ag ks rs)(fnm:Tx)(fps fls:List Tx)(fw:Bool)(fb:List Sy.St)(N:Nat)(hN:N<=1048576)(ih: ∀l:List Sy.St,Ix l<N-> ∀k,TC g gm ag ks rs k 235 [.ptr ⟨0,10012,0⟩ g 0,.agg [tz fnm.val,.sl false 1 (Ib fps),.sl false 1 (Ib fls),bz fw,.sl false 5 (Ik fb)],.sl false 5 (Ik l)] (bv (Ui m fw l)))(l:List Sy.St)(hl:Ix l<=N)(k:Nat):TC g gm ag ks rs k 235 [.ptr ⟨0,10012,0⟩ g 0,.agg [tz fnm.val,.sl false 1 (Ib fps),.sl false 1 (Ib fls),bz fw,.sl false 5 (Ik fb)],.sl false 5 (Ik l)] (bv (Ui m fw l)):=by
 refine TC.of fun d hp1 b1 m1=>?_
 refine hB (k1:=k+1) (PR:=fun _ _=>False) Tryz.func235 (B2 Zd) ?_;have Ij:l.length<=1048576:=by have:=A9 l;omega
 repeat' (first|refine Zp ?_|refine Zr ?_ ?_|(intro h h';try simp[*,-h] at h'))
 generalize hg4:(hp1 ⟨k+1,4,0⟩).gen+1=g4 at*;clear hg4;refine Ac (n:=l.length) (fun s0 m' z=> ∃j:Nat,l.length - j<=m'/\j<=l.length/\z.fr 0= .ptr ⟨0,10012,0⟩ g 0/\z.fr 10= .sl false 5 (Ik l)/\z.fr 11=iv l.length/\z.fr 12=iv j/\z.hp ⟨0,10012,0⟩= .box g [.mp ⟨0,10010,0⟩ gm,.sc .nilFunc,.fn 307 [],.fn 307 [],.fn 1000309 [.ptr ⟨0,10012,0⟩ g 0],.fn 1000310 [.ptr ⟨0,10012,0⟩ g 0],.fn 307 [],.fn 1000311 [.ptr ⟨0,10012,0⟩ g 0],.fn 1000308 [.ptr ⟨0,10012,0⟩ g 0],.fn 1000308 [.ptr ⟨0,10012,0⟩ g 0],.fn 1000308 [.ptr ⟨0,10012,0⟩ g 0]] false/\z.hp ⟨0,10010,0⟩= .map gm ag ks rs false/\(∀d' i c,d'<=k->z.hp ⟨d',i,c⟩=hp1 ⟨d',i,c⟩)/\Ui m fw l=Ui m fw (l.drop j)/\z.fr 4= .ptr ⟨k+1,4,0⟩ g4 0/\z.hp ⟨k+1,4,0⟩= .box g4 [tz fnm.val,.sl false 1 (Ib fps),.sl false 1 (Ib fls),bz fw,.sl false 5 (Ik fb)] false) ⟨0,Zo,Zo,Z8,Z8,Z8,Z8,Z8,Z8,fun d' i c hd=>by have Uc:d'≠k+1:=Zo;have gI:d'<=k+1:=Zo;simp (maxDischargeDepth:=8) [*],Zi,Z8,Z8⟩ ?_;rintro m' ⟨fr,hp⟩ ⟨j,AJ,hj,f0,fl,fn,fi,b2,m2,HK,hd,f4,b4⟩;simp only at f0 fl fn fi b2 m2 HK f4 b4;clear b1 m1;by_cases Ii:j<l.length
 ·have e1:(j:Int)<l.length:=Zo
  have hg:l[j]?=some l[j]:=Bs Ii;have oF:IntKind.i64.wrap ((j:Int)+1)=(j:Int)+1:=Iw Zo;rw[Ng Ii,ID] at hd;generalize l[j]=e at*;have jJ:=Sw hg;have dN:=Gb hg;obtain⟨ek,ex,ee,eth,eel⟩:=e;simp only[Bo] at jJ;simp only[Bi] at dN;rw[tyS_mk] at hd;have FY:ee.length<=1048576:=by have:=A4 ee;omega
  obtain(rfl|rfl|rfl|rfl|⟨n4,n5,n6,n7⟩):ek=4\/ek=5\/ek=6\/ek=7\/(ek≠4/\ek≠5/\ek≠6/\ek≠7):=Zo
  ·rw[Ka (by simp:((4:Int)=4\/(4:Int)=5))] at hd
   have tcA:=F6 (g:=g) (gm:=gm) hm ee Zo 2 (k+1);have tcT:=ih eth Zo (k+1);have tcL:=ih eel Zo (k+1);have HD:=Lib.hid hd;generalize Ud m ee 2=ba at*;generalize Ui m fw eth=bth at*;generalize Ui m fw eel=bel at*;clear hd;have hd:=HD.out;obtain⟨G1,a1,c1⟩:=tcA.rules;obtain⟨G2,a2,c2⟩:=tcT.rules;obtain⟨G3,a3,c3⟩:=tcL.rules;clear tcA tcT tcL HD;have HD:=Lib.hid hd;have HK:=Lib.hid HK;clear hd hg Ii
   repeat' (first|refine Zp ?_|refine Zr ?_ ?_|(intro h h';try simp[*,-h] at h'))
   all_goals have hd:=HD.out
   all_goals have HK:=HK.out
   all_goals first
    |exact⟨l.length - (j+1),Zo,j+1,Zo,Zo,Z8,Z8,Z8,Z8,Z8,Z8,fun d' i c hd=>by have Uc:d'≠k+1:=Zo;have gI:d'<=k+1:=Zo;simp (maxDischargeDepth:=8) [*],by rw[hd];simp (maxDischargeDepth:=8) [*],Z8,Z8⟩
    |exact⟨by rw[hd];simp (maxDischargeDepth:=8) [*],fun d' i c hd=>by have Uc:d'≠k+1:=Zo;have gI:d'<=k+1:=Zo;simp (maxDischargeDepth:=8) [*]⟩
  ·rw[Ka (by simp:((5:Int)=4\/(5:Int)=5))] at hd
   have tcA:=F6 (g:=g) (gm:=gm) hm ee Zo 2 (k+1);have tcT:=ih eth Zo (k+1);have tcL:=ih eel Zo (k+1);have HD:=Lib.hid hd;generalize Ud m ee 2=ba at*;generalize Ui m fw eth=bth at*;generalize Ui m fw eel=bel at*;clear hd;have hd:=HD.out;obtain⟨G1,a1,c1⟩:=tcA.rules;obtain⟨G2,a2,c2⟩:=tcT.rules;obtain⟨G3,a3,c3⟩:=tcL.rules;clear tcA tcT tcL HD;have HD:=Lib.hid hd;have HK:=Lib.hid HK;clear hd hg Ii
   repeat' (first|refine Zp ?_|refine Zr ?_ ?_|(intro h h';try simp[*,-h] at h'))
   all_goals have hd:=HD.out
   all_goals have HK:=HK.out
   all_goals first
    |exact⟨l.length - (j+1),Zo,j+1,Zo,Zo,Z8,Z8,Z8,Z8,Z8,Z8,fun d' i c hd=>by have Uc:d'≠k+1:=Zo;have gI:d'<=k+1:=Zo;simp (maxDischargeDepth:=8) [*],by rw[hd];simp (maxDischargeDepth:=8) [*],Z8,Z8⟩
    |exact⟨by rw[hd];simp (maxDischargeDepth:=8) [*],fun d' i c hd=>by have Uc:d'≠k+1:=Zo;have gI:d'<=k+1:=Zo;simp (maxDischargeDepth:=8) [*]⟩
  ·rw[Jx (by simp: ¬((6:Int)=4\/(6:Int)=5))] at hd
   have tcA:=F6 (g:=g) (gm:=gm) hm ee Zo 1 (k+1);have tcT:=ih eth Zo (k+1);have tcL:=ih eel Zo (k+1);have HD:=Lib.hid hd;generalize Ud m ee 1=ba at*;generalize Ui m fw eth=bth at*;generalize Ui m fw eel=bel at*;clear hd;have hd:=HD.out;obtain⟨G1,a1,c1⟩:=tcA.rules;obtain⟨G2,a2,c2⟩:=tcT.rules;obtain⟨G3,a3,c3⟩:=tcL.rules;clear tcA tcT tcL HD;have HD:=Lib.hid hd;have HK:=Lib.hid HK;clear hd hg Ii;have hd:=HD.out;unfold Di at hd
   cases iK:Sy.look m ex with
   |some t=>
    obtain⟨jj,k1,k2,oM⟩:=hm.some iK;obtain⟨r1,r2,r3,r4,r5⟩:=t;simp only[A8] at k2;rw[iK] at hd;simp only at hd;have HD:=Lib.hid hd;clear hd
    repeat' (first|refine Zp ?_|refine Zr ?_ ?_|(intro h h';try simp[*,-h] at h'))
    all_goals have hd:=HD.out
    all_goals have HK:=HK.out
    all_goals first
     |exact⟨l.length - (j+1),Zo,j+1,Zo,Zo,Z8,Z8,Z8,Z8,Z8,Z8,fun d' i c hd=>by have Uc:d'≠k+1:=Zo;have gI:d'<=k+1:=Zo;simp (maxDischargeDepth:=8) [*],by rw[hd];simp (maxDischargeDepth:=8) [*],Z8,Z8⟩
     |exact⟨by rw[hd];simp (maxDischargeDepth:=8) [*],fun d' i c hd=>by have Uc:d'≠k+1:=Zo;have gI:d'<=k+1:=Zo;simp (maxDischargeDepth:=8) [*]⟩
   |none=>
    have k1:=hm.none iK;rw[iK] at hd;simp only at hd;have HD:=Lib.hid hd;clear hd
    repeat' (first|refine Zp ?_|refine Zr ?_ ?_|(intro h h';try simp[*,-h] at h'))
    all_goals have hd:=HD.out
    all_goals have HK:=HK.out
    all_goals first
     |exact⟨l.length - (j+1),Zo,j+1,Zo,Zo,Z8,Z8,Z8,Z8,Z8,Z8,fun d' i c hd=>by have Uc:d'≠k+1:=Zo;have gI:d'<=k+1:=Zo;simp (maxDischargeDepth:=8) [*],by rw[hd];simp (maxDischargeDepth:=8) [*],Z8,Z8⟩
     |exact⟨by rw[hd];simp (maxDischargeDepth:=8) [*],fun d' i c hd=>by have Uc:d'≠k+1:=Zo;have gI:d'<=k+1:=Zo;simp (maxDischargeDepth:=8) [*]⟩
  ·rw[Jx (by simp: ¬((7:Int)=4\/(7:Int)=5))] at hd
   cases FZ:ee with
   |nil=>
    subst FZ;have tcA:=F6 (g:=g) (gm:=gm) hm [] Zo 1 (k+1);have tcT:=ih eth Zo (k+1);have tcL:=ih eel Zo (k+1);have HD:=Lib.hid hd;generalize Ud m [] 1=ba at*;generalize Ui m fw eth=bth at*;generalize Ui m fw eel=bel at*;clear hd;have hd:=HD.out;obtain⟨G1,a1,c1⟩:=tcA.rules;obtain⟨G2,a2,c2⟩:=tcT.rules;obtain⟨G3,a3,c3⟩:=tcL.rules;clear tcA tcT tcL HD;have HD:=Lib.hid hd;have HK:=Lib.hid HK;clear hd hg Ii;simp only[Ara] at a1
    repeat' (first|refine Zp ?_|refine Zr ?_ ?_|(intro h h';try simp[*,-h] at h'))
    all_goals have hd:=HD.out
    all_goals have HK:=HK.out
    all_goals first
     |exact⟨l.length - (j+1),Zo,j+1,Zo,Zo,Z8,Z8,Z8,Z8,Z8,Z8,fun d' i c hd=>by have Uc:d'≠k+1:=Zo;have gI:d'<=k+1:=Zo;simp (maxDischargeDepth:=8) [*],by rw[hd];simp (maxDischargeDepth:=8) [*],Z8,Z8⟩
     |exact⟨by rw[hd];simp (maxDischargeDepth:=8) [*],fun d' i c hd=>by have Uc:d'≠k+1:=Zo;have gI:d'<=k+1:=Zo;simp (maxDischargeDepth:=8) [*]⟩
   |cons e0 ee0=>
    have Ir:(ee.length==0)=false:=by rw[FZ];rfl
    have gX:(0:Int)<ee.length:=by rw[FZ];simp
    have hne2:ee≠[]:=by rw[FZ];simp
    rw[<-FZ] at*;rw[Ir] at hd;clear FZ;obtain rfl|rfl:fw=false\/fw=true:=by cases fw<;>simp
    ·skip
     have tcA:=F6 (g:=g) (gm:=gm) hm ee Zo 1 (k+1);have tcT:=ih eth Zo (k+1);have tcL:=ih eel Zo (k+1);have HD:=Lib.hid hd;generalize Ud m ee 1=ba at*;generalize Ui m false eth=bth at*;generalize Ui m false eel=bel at*;clear hd;have hd:=HD.out;obtain⟨G1,a1,c1⟩:=tcA.rules;obtain⟨G2,a2,c2⟩:=tcT.rules;obtain⟨G3,a3,c3⟩:=tcL.rules;clear tcA tcT tcL HD;have HD:=Lib.hid hd;have HK:=Lib.hid HK;clear hd hg Ii
     repeat' (first|refine Zp ?_|refine Zr ?_ ?_|(intro h h';try simp[*,-h] at h'))
     all_goals have hd:=HD.out
     all_goals have HK:=HK.out
     all_goals first
      |exact⟨l.length - (j+1),Zo,j+1,Zo,Zo,Z8,Z8,Z8,Z8,Z8,Z8,fun d' i c hd=>by have Uc:d'≠k+1:=Zo;have gI:d'<=k+1:=Zo;simp (maxDischargeDepth:=8) [*],by rw[hd];simp (maxDischargeDepth:=8) [*],Z8,Z8⟩
      |exact⟨by rw[hd];simp (maxDischargeDepth:=8) [*],fun d' i c hd=>by have Uc:d'≠k+1:=Zo;have gI:d'<=k+1:=Zo;simp (maxDischargeDepth:=8) [*]⟩
    ·skip
     have tcA:=F6 (g:=g) (gm:=gm) hm ee Zo 1 (k+1);have tcT:=ih eth Zo (k+1);have tcL:=ih eel Zo (k+1);have HD:=Lib.hid hd;generalize Ud m ee 1=ba at*;generalize Ui m true eth=bth at*;generalize Ui m true eel=bel at*;clear hd;have hd:=HD.out;obtain⟨G1,a1,c1⟩:=tcA.rules;obtain⟨G2,a2,c2⟩:=tcT.rules;obtain⟨G3,a3,c3⟩:=tcL.rules;clear tcA tcT tcL HD;have HD:=Lib.hid hd;have HK:=Lib.hid HK;clear hd hg Ii
     repeat' (first|refine Zp ?_|refine Zr ?_ ?_|(intro h h';try simp[*,-h] at h'))
     all_goals have hd:=HD.out
     all_goals have HK:=HK.out
     all_goals first
      |exact⟨l.length - (j+1),Zo,j+1,Zo,Zo,Z8,Z8,Z8,Z8,Z8,Z8,fun d' i c hd=>by have Uc:d'≠k+1:=Zo;have gI:d'<=k+1:=Zo;simp (maxDischargeDepth:=8) [*],by rw[hd];simp (maxDischargeDepth:=8) [*],Z8,Z8⟩
      |exact⟨by rw[hd];simp (maxDischargeDepth:=8) [*],fun d' i c hd=>by have Uc:d'≠k+1:=Zo;have gI:d'<=k+1:=Zo;simp (maxDischargeDepth:=8) [*]⟩
  ·rw[Jx (by simp[n4,n5]: ¬(ek=4\/ek=5))] at hd
   have tcA:=F6 (g:=g) (gm:=gm) hm ee Zo 1 (k+1);have tcT:=ih eth Zo (k+1);have tcL:=ih eel Zo (k+1);have HD:=Lib.hid hd;generalize Ud m ee 1=ba at*;generalize Ui m fw eth=bth at*;generalize Ui m fw eel=bel at*;clear hd;have hd:=HD.out;obtain⟨G1,a1,c1⟩:=tcA.rules;obtain⟨G2,a2,c2⟩:=tcT.rules;obtain⟨G3,a3,c3⟩:=tcL.rules;clear tcA tcT tcL HD;have HD:=Lib.hid hd;have HK:=Lib.hid HK;clear hd hg Ii
   repeat' (first|refine Zp ?_|refine Zr ?_ ?_|(intro h h';try simp[*,-h] at h'))
   all_goals have hd:=HD.out
   all_goals have HK:=HK.out
   all_goals first
    |exact⟨l.length - (j+1),Zo,j+1,Zo,Zo,Z8,Z8,Z8,Z8,Z8,Z8,fun d' i c hd=>by have Uc:d'≠k+1:=Zo;have gI:d'<=k+1:=Zo;simp (maxDischargeDepth:=8) [*],by rw[hd];simp (maxDischargeDepth:=8) [*],Z8,Z8⟩
    |exact⟨by rw[hd];simp (maxDischargeDepth:=8) [*],fun d' i c hd=>by have Uc:d'≠k+1:=Zo;have gI:d'<=k+1:=Zo;simp (maxDischargeDepth:=8) [*]⟩
 ·have e1: ¬(j:Int)<l.length:=Zo
  have Uc:Ui m fw l=true:=by rw[hd,zB Zo,IC]
  clear hd
  repeat' (first|refine Zp ?_|refine Zr ?_ ?_|(intro h h';try simp[*,-h] at h'))
  exact⟨by rw[Uc],HK⟩
theorem Pw {m:List (Tx×Fu)}{g gm:Nat}{ag:Bool}{ks:List Value}{rs:List (List AV)}(hm:TM m ag ks rs)(fnm:Tx)(fps fls:List Tx)(fw:Bool)(fb:List Sy.St): ∀N,N<=1048576-> ∀l:List Sy.St,Ix l<=N-> ∀k:Nat,TC g gm ag ks rs k 235 [.ptr ⟨0,10012,0⟩ g 0,.agg [tz fnm.val,.sl false 1 (Ib fps),.sl false 1 (Ib fls),bz fw,.sl false 5 (Ik fb)],.sl false 5 (Ik l)] (bv (Ui m fw l))
 |0,h,l,hl,k=>Pv hm fnm fps fls fw fb 0 h (fun l h'=>Zo) l hl k
 |N+1,h,l,hl,k=>Pv hm fnm fps fls fw fb (N+1) h (fun l h' k=>Pw hm fnm fps fls fw fb N Zo l Zo k) l hl k
theorem A3a{ag:Bool}(hm:TM m ag ks rs)(fnm:Tx)(fps fls:List Tx)(fw:Bool)(fb:List Sy.St)(l:List Sy.St)(hl:Ix l<=1048576)(k:Nat):TC g gm ag ks rs k 235 [.ptr ⟨0,10012,0⟩ g 0,.agg [tz fnm.val,.sl false 1 (Ib fps),.sl false 1 (Ib fls),bz fw,.sl false 5 (Ik fb)],.sl false 5 (Ik l)] (bv (Ui m fw l)):=Pw hm fnm fps fls fw fb 1048576 (D5 _) l hl k
end
section
open Go Go.Ab Go.Ab.Sy
theorem Gfa (vs:List Tx)(ar:List (Tx×Int))(fs:List Fu)(hs:cV fs<=1048576){hp1:Hp}:HB P0 Un (Lm X47) 0 9 233 [.agg [.sl false 1 (Ib vs),.sl false 2 (Ih ar),.sl false 5 (fs.map Fu.row)]] hp1 (fun v If=> ∃g gm ag ks rs,v= .ptr ⟨0,10012,0⟩ g 0/\If ⟨0,10012,0⟩= .box g [.mp ⟨0,10010,0⟩ gm,.sc .nilFunc,.fn 307 [],.fn 307 [],.fn 1000309 [.ptr ⟨0,10012,0⟩ g 0],.fn 1000310 [.ptr ⟨0,10012,0⟩ g 0],.fn 307 [],.fn 1000311 [.ptr ⟨0,10012,0⟩ g 0],.fn 1000308 [.ptr ⟨0,10012,0⟩ g 0],.fn 1000308 [.ptr ⟨0,10012,0⟩ g 0],.fn 1000308 [.ptr ⟨0,10012,0⟩ g 0]] false/\If ⟨0,10010,0⟩= .map gm ag ks rs false/\TM (Ip fs) ag ks rs/\ ∀d i c,i<10000->If ⟨d,i,c⟩=hp1 ⟨d,i,c⟩) (fun _ _=>False):=by
 obtain⟨v,If,h1,g,gm,h2,h3,h4,h5⟩:=Dma vs ar fs hs hp1;exact .inl ⟨v,If,h1,g,gm,_,_,_,h2,h3,h4,⟨rfl,rfl,rfl⟩,h5⟩
theorem P6 (vs:List Tx)(ar:List (Tx×Int))(fs:List Fu)(hs:cV fs<=1048576):(Lm X47).dat 159 [.agg [.sl false 1 (Ib vs),.sl false 2 (Ih ar),.sl false 5 (fs.map Fu.row)]]=some [iv (kN ⟨vs,ar,fs⟩)]:=by
 refine fW Tryz.func159 (B3 _ _) ?_;have AL:=Bq fs
 repeat' (first|refine Zp ?_|refine Zr ?_ ?_|(intro h h';try simp[*,-h] at h')|((with_reducible apply Va (f:=233));exact Z6;exact G4a;decide;exact rfl;exact Z6;apply Gfa vs ar fs hs;skip;rotate_left;exact ZF;rintro _ If ⟨g,gm,ag,ks,rs,rfl,bx,mx,hm,hk⟩)|fail)
 have hts:kN ⟨vs,ar,fs⟩=if fs.all (fun f:Fu=>aU (Ip fs) f.body)=false then 4 else if fs.all (fun f:Fu=>Ui (Ip fs) f.word f.body)=false then 5 else 0:=rfl;refine Ac (n:=fs.length) (fun s0 m' z=> ∃j:Nat,fs.length - j<=m'/\j<=fs.length/\z.fr 1= .ptr ⟨0,1,0⟩ 1 0/\z.fr 3= .ptr ⟨0,10012,0⟩ g 0/\z.fr 11= .sl false 5 (fs.map Fu.row)/\z.fr 12=iv fs.length/\z.fr 13=iv j/\z.hp ⟨0,1,0⟩= .box 1 [.sl false 1 (Ib vs),.sl false 2 (Ih ar),.sl false 5 (fs.map Fu.row)] false/\z.hp ⟨0,10012,0⟩= .box g [.mp ⟨0,10010,0⟩ gm,.sc .nilFunc,.fn 307 [],.fn 307 [],.fn 1000309 [.ptr ⟨0,10012,0⟩ g 0],.fn 1000310 [.ptr ⟨0,10012,0⟩ g 0],.fn 307 [],.fn 1000311 [.ptr ⟨0,10012,0⟩ g 0],.fn 1000308 [.ptr ⟨0,10012,0⟩ g 0],.fn 1000308 [.ptr ⟨0,10012,0⟩ g 0],.fn 1000308 [.ptr ⟨0,10012,0⟩ g 0]] false/\z.hp ⟨0,10010,0⟩= .map gm ag ks rs false/\fs.all (fun f:Fu=>aU (Ip fs) f.body)=(fs.drop j).all (fun f:Fu=>aU (Ip fs) f.body)) ⟨0,Zo,Zo,Z8,Z8,Z8,Z8,Z8,Z8,Z8,Z8,by rw[List.drop_zero]⟩ ?_;rintro m' ⟨fr,hp⟩ ⟨j,AJ,hj,f1,f3,fl,fn,fi,b1,b2,m2,hd⟩;simp only at f1 f3 fl fn fi b1 b2 m2;clear hk bx mx;by_cases Ii:j<fs.length
 ·have e1:(j:Int)<fs.length:=Zo
  have hg:fs[j]?=some fs[j]:=Bs Ii;have oF:IntKind.i64.wrap ((j:Int)+1)=(j:Int)+1:=Iw Zo;rw[Ng Ii,uZ] at hd;generalize fs[j]=t at*;have jJ:=Hj hg;have dN:=Ew hg;obtain⟨t1,t2,t3,t4,t5⟩:=t;simp only[A8] at jJ;simp only[B1] at dN;have tcE:=A4a (g:=g) (gm:=gm) hm t5 Zo 0;simp only at hd;generalize aU (Ip fs) t5=te at*;obtain⟨G1,a1,c1⟩:=tcE.rules;have HD:=Lib.hid hd;clear hg Ii hd tcE
  repeat' (first|refine Zp ?_|refine Zr ?_ ?_|(intro h h';try simp[*,-h] at h'))
  all_goals have hd:=HD.out
  ·exact by rw[hts,hd];simp (maxDischargeDepth:=8) [*]
  ·exact⟨fs.length - (j+1),Zo,j+1,Zo,Zo,Z8,Z8,Z8,Z8,Z8,Z8,Z8,Z8,by rw[hd];simp (maxDischargeDepth:=8) [*]⟩
 have e1: ¬(j:Int)<fs.length:=Zo;have nX:fs.all (fun f:Fu=>aU (Ip fs) f.body)=true:=by rw[hd,zB Zo];rfl
 rw[nX] at hts;clear hd nX
 repeat' (first|refine Zp ?_|refine Zr ?_ ?_|(intro h h';try simp[*,-h] at h'))
 clear e1;have b1':=b1;refine Ac (n:=fs.length) (fun s0 m' z=> ∃j:Nat,fs.length - j<=m'/\j<=fs.length/\z.fr 1= .ptr ⟨0,1,0⟩ 1 0/\z.fr 3= .ptr ⟨0,10012,0⟩ g 0/\z.fr 24= .sl false 5 (fs.map Fu.row)/\z.fr 25=iv fs.length/\z.fr 26=iv j/\z.hp ⟨0,1,0⟩= .box 1 [.sl false 1 (Ib vs),.sl false 2 (Ih ar),.sl false 5 (fs.map Fu.row)] false/\z.hp ⟨0,10012,0⟩= .box g [.mp ⟨0,10010,0⟩ gm,.sc .nilFunc,.fn 307 [],.fn 307 [],.fn 1000309 [.ptr ⟨0,10012,0⟩ g 0],.fn 1000310 [.ptr ⟨0,10012,0⟩ g 0],.fn 307 [],.fn 1000311 [.ptr ⟨0,10012,0⟩ g 0],.fn 1000308 [.ptr ⟨0,10012,0⟩ g 0],.fn 1000308 [.ptr ⟨0,10012,0⟩ g 0],.fn 1000308 [.ptr ⟨0,10012,0⟩ g 0]] false/\z.hp ⟨0,10010,0⟩= .map gm ag ks rs false/\fs.all (fun f:Fu=>Ui (Ip fs) f.word f.body)=(fs.drop j).all (fun f:Fu=>Ui (Ip fs) f.word f.body)) ⟨0,Zo,Zo,Z8,Z8,Z8,Z8,Z8,Z8,Z8,Z8,by rw[List.drop_zero]⟩ ?_;rintro m' ⟨fr,hp⟩ ⟨j,AJ,hj,f1,f3,fl,fn,fi,b1,b2,m2,hd⟩;simp only at f1 f3 fl fn fi b1 b2 m2;by_cases Ii:j<fs.length
 ·have e1:(j:Int)<fs.length:=Zo
  have hg:fs[j]?=some fs[j]:=Bs Ii;have oF:IntKind.i64.wrap ((j:Int)+1)=(j:Int)+1:=Iw Zo;rw[Ng Ii,uZ] at hd;generalize fs[j]=t at*;have jJ:=Hj hg;have dN:=Ew hg;obtain⟨t1,t2,t3,t4,t5⟩:=t;simp only[A8] at jJ;simp only[B1] at dN;have tcE:=A3a (g:=g) (gm:=gm) hm t1 t2 t3 t4 t5 t5 Zo 0;simp only at hd;generalize Ui (Ip fs) t4 t5=te at*;obtain⟨G1,a1,c1⟩:=tcE.rules;have HD:=Lib.hid hd;clear hg Ii hd tcE
  repeat' (first|refine Zp ?_|refine Zr ?_ ?_|(intro h h';try simp[*,-h] at h'))
  all_goals have hd:=HD.out
  ·exact by rw[hts,hd];simp (maxDischargeDepth:=8) [*]
  ·exact⟨fs.length - (j+1),Zo,j+1,Zo,Zo,Z8,Z8,Z8,Z8,Z8,Z8,Z8,Z8,by rw[hd];simp (maxDischargeDepth:=8) [*]⟩
 have e1: ¬(j:Int)<fs.length:=Zo;have nX:fs.all (fun f:Fu=>Ui (Ip fs) f.word f.body)=true:=by rw[hd,zB Zo];rfl
 rw[nX] at hts;clear hd nX
 repeat' (first|refine Zp ?_|refine Zr ?_ ?_|(intro h h';try simp[*,-h] at h'))
 rw[hts];simp
theorem Csa (vs:List Tx)(ar:List (Tx×Int))(fs:List Fu)(hs:vs.length+ar.length+cV fs<=1048576):(Lm X47).dat 98 [.agg [.sl false 1 (Ib vs),.sl false 2 (Ih ar),.sl false 5 (fs.map Fu.row)]]=some [iv (fE iZ ⟨vs,ar,fs⟩)]:=by
 refine fW Tryz.func98 (B3 _ _) ?_;have rw1:=Cta vs ar fs hs;unfold fE
 cases hr:rP iZ ⟨vs,ar,fs⟩ with
 |false=>
  rw[hr] at rw1
  repeat' (first|refine Zp ?_|refine Zr ?_ ?_|(intro h h';try simp[*,-h] at h'))
  simp
 |true=>
  rw[hr] at rw1;have h1:1<=fs.length:=by
   rw[rP_mk] at hr;simp only[Ed,oW] at hr;exact hr.1.1.1.1
  have sc:=S6 vs ar fs h1 hs;have ty:=P6 vs ar fs Zo;generalize lQ ⟨vs,ar,fs⟩=a at*;generalize kN ⟨vs,ar,fs⟩=b at*;clear hr;by_cases ha:a=0
  ·subst ha
   repeat' (first|refine Zp ?_|refine Zr ?_ ?_|(intro h h';try simp[*,-h] at h'))
   simp
  ·repeat' (first|refine Zp ?_|refine Zr ?_ ?_|(intro h h';try simp[*,-h] at h'))
   simp[ha]
theorem Hh (vs:List Tx)(ar:List (Tx×Int))(fs:List Sy.Fu):(Us ⟨vs,ar,fs⟩).length=vs.length+(ar.length+fs.length):=by simp[Us]
theorem EW {X:aS}(hX: ∀f a,X.dat f a=none)(vs:List Tx)(ar:List (Tx×Int))(fs:List Sy.Fu)(hv:vs.length<=1048576)(ha:ar.length<=1048576)(hf:fs.length<=1048576)(i:Nat)(f:Sy.Fu)(s:Tx)(hi:fs[i]?=some f)(aZ:f.params.length<=1048576/\f.locals.length<=1048576):(Lm X).dat 75 [.agg [.sl false 1 (Ib vs),.sl false 2 (Ih ar),.sl false 5 (fs.map Sy.Fu.row)],iv i,tv s.val]=some [iv (Ut ⟨vs,ar,fs⟩ f s).1,iv (Ut ⟨vs,ar,fs⟩ f s).2]:=by
 refine fW Tryz.func75 (hX _ _) ?_;have hil:=(Oh.1 hi).1;obtain⟨fn,fp,fl,fw,fb⟩:=f;obtain⟨z1,z2⟩:=aZ;have e1:(i:Int)<fs.length:=Zo;have hg:=Bw fn fp fl fw fb;simp only at z1 z2;have nq:=Cua hX fn fp fl fw fb z1 z2;have gq:=So hX vs ar fs hv ha hf;have p1:=Lg hX (fp++fl) s (by rw[X3];omega);have p2:=Lg hX (Us ⟨vs,ar,fs⟩) s (by rw[Hh];omega);have uW:(Ih ar).length=ar.length:=by simp[Ih]
 have hk: ∀k,I4 (Us ⟨vs,ar,fs⟩) s=some k->k<vs.length+(ar.length+fs.length):=fun k h=>by rw[<-Hh];exact Cw h
 have t7: ∀l:List Tx,(Ib l).take l.length=Ib l:=fun l=>Kb Zi
 clear hil;unfold Ut;simp only[bI];generalize fp++fl=nl at*
 cases h1:I4 nl s with
 |some k=>
  rw[h1] at p1;simp only[Kk] at p1;clear h1 hk
  repeat' first|refine ZN ?_|refine Z2 ?_ ?_|intro h h';try simp[*,-h] at h'
  all_goals first|rfl|(exfalso;omega)
 |none=>
  rw[h1] at p1;simp only[Ob] at p1;clear h1
  cases h2:I4 (Us ⟨vs,ar,fs⟩) s with
  |none=>
   rw[h2] at p2;simp only[Ob] at p2;clear h2 hk
   repeat' first|refine ZN ?_|refine Z2 ?_ ?_|intro h h';try simp[*,-h] at h'
   all_goals first|rfl|(exfalso;omega)
  |some k=>
   have hk':=hk k h2;rw[h2] at p2;simp only[Kk] at p2;clear h2 hk;simp only;by_cases k1:k<vs.length
   ·have e2:(k:Int)<vs.length:=Zo
    rw[Ka k1];clear k1 hk'
    repeat' first|refine ZN ?_|refine Z2 ?_ ?_|intro h h';try simp[*,-h] at h'
    all_goals first|rfl|(exfalso;omega)
   ·have e2: ¬(k:Int)<vs.length:=Zo
    rw[Jx k1];have w1:IntKind.i64.wrap ((k:Int) - vs.length)=((k - vs.length:Nat):Int):=by rw[Bu Zo Zo];omega
    by_cases k2:k - vs.length<ar.length
    ·have e3:((k - vs.length:Nat):Int)<ar.length:=Zo
     rw[Ka k2];clear k1 k2 hk'
     repeat' first|refine ZN ?_|refine Z2 ?_ ?_|intro h h';try simp[*,-h] at h'
     all_goals first|rfl|(exfalso;omega)
    ·have e3: ¬((k - vs.length:Nat):Int)<ar.length:=Zo
     rw[Jx k2];have w2:IntKind.i64.wrap (((k - vs.length:Nat):Int) - ar.length)=((k - vs.length - ar.length:Nat):Int):=by rw[Bu Zo Zo];omega
     generalize k - vs.length - ar.length=k4 at*;generalize k - vs.length=k3 at*;clear k1 k2 hk'
     repeat' first|refine ZN ?_|refine Z2 ?_ ?_|intro h h';try simp[*,-h] at h'
     all_goals first|rfl|(exfalso;omega)
end
section
open Go Go.Ab Go.Ab.Sy
variable {l:List Sy.Ex}{i:Nat}
def rG (u:qV):List AV:=[tz u.name.val,iz (if u.kind=2 then 1 else u.kind),iz u.args]
abbrev fP (l:List qV):List (List AV):=l.map rG
theorem BD (s:Tx)(n:Int):rG ⟨2,s,n⟩=[tz s.val,iz 1,iz n]:=rfl
theorem BC (s:Tx)(n:Int):rG ⟨3,s,n⟩=[tz s.val,iz 3,iz n]:=rfl
theorem BB (s:Tx)(n:Int):rG ⟨4,s,n⟩=[tz s.val,iz 4,iz n]:=rfl
mutual
theorem Fna : ∀e:Sy.Ex,(rD e).length<=e.size
 | .mk k o n s l=>by
  have h:=Ee l;rw[rD,Sy.Ex.size,X3];have:(lF (.mk k o n s l)).length<=1:=by unfold lF;(repeat' split)<;>simp
  omega
theorem Ee : ∀l:List Sy.Ex,(Iz l).length<=Uv l
 |[]=>by simp[Iz]
 |e::l=>by
  have h1:=Fna e;have h2:=Ee l;rw[Iz,X3,Xs];omega
end
theorem Nl{k o n:Int}{s:Tx}{kd:List Sy.Ex}(hi:i<l.length)(h:l[i]= .mk k o n s kd)(U:List qV):U++Iz (l.drop i)=(U++lF (.mk k o n s kd)++Iz kd)++Iz (l.drop (i+1)):=by
 rw[Ng hi,Iz,h,rD,tI,tI,tI]
theorem M9(h:i<l.length):(In l)[i]?=some l[i].row:=by simp[Bv,h]
theorem Ry {X:aS}(hX: ∀f a,X.dat f a=none)(l:List Sy.Ex)(hl:Uv l<=1048576)(ih: ∀kd:List Sy.Ex,Uv kd<Uv l->(Lm X).dat 126 [.sl false 5 (In kd)]=some [.vec 3 (fP (Iz kd))]):(Lm X).dat 126 [.sl false 5 (In l)]=some [.vec 3 (fP (Iz l))]:=by
 refine fW Tryz.func126 (hX _ _) ?_;have zN:=A4 l;have FY:(In l).length=l.length:=by simp[Bv]
 repeat' first|refine ZN ?_|refine Z2 ?_ ?_|intro h h';try simp[*,-h] at h'
 all_goals (refine Ac (n:=l.length) (fun s0 m z=> ∃(i g:Nat) (U:List qV),l.length - i<=m/\i<=l.length/\Iz l=U++Iz (l.drop i)/\z.fr 0= .sl false 5 (In l)/\z.fr 3= .own ⟨0,3,0⟩ g U.length/\z.fr 4=iv i/\z.hp ⟨0,3,0⟩= .arr g 3 115 (fP U) false) ⟨0,1,[],Zo,Zo,Zi,Zi,Zi,Zi,Zi⟩ ?_)
 rintro m ⟨fr,hp⟩ ⟨i,g,U,hm,hi,hU,f0,f3,f4,h3⟩;simp at f0 f3 f4 h3;have DH:U.length<=1048576:=by have:=Ee l;rw[hU,X3] at this;omega
 by_cases Ii:i<l.length
 ·have e1:(i:Int)<l.length:=Zo
  have hg:=M9 Ii;have w1:=Iw (k:=i) Zo;have x1:(U.length+1)*32<=140737488355328:=Zo;have x2:U.length<=9223372036854775806:=Zo;have aZ:=Ba (oY Ii);have hD:=hU;generalize hq:l[i]=t at*;obtain⟨tk,to',tn,ts,tl⟩:=t;rw[Nl Ii hq] at hD;simp only[Ag] at hg;rw[Sy.Ex.size] at aZ;have hL:=Ee tl;have nt:=ih tl Zo;have t8: ∀V:List qV,(fP V).take V.length=V.map rG:=fun V=>Kb Zi
  clear ih hq Ii;by_cases k2:tk=2
  ·subst k2
   have hO:lF (.mk 2 to' tn ts tl)=[⟨2,ts,0⟩]:=rfl;rw[hO] at hD;have hN:=Lib.hid hD;have x3:(U.length+1+(Iz tl).length)*32<=140737488355328:=Zo;have x4:U.length+1+(Iz tl).length<=9223372036854775807:=Zo;clear hD hO hL DH hU
   repeat' first|refine ZN ?_|refine Z2 ?_ ?_|intro h h';try simp[*,-h] at h'
   all_goals exact⟨l.length - (i+1),Zo,i+1,g+1+1,U++[⟨2,ts,0⟩]++Iz tl,Zo,Zo,hN.out,Zm,by simp[*];omega,Zm,by simp[*,BD]⟩
  by_cases k3:tk=3
  ·subst k3
   have hO:lF (.mk 3 to' tn ts tl)=[⟨3,ts,0⟩]:=rfl;rw[hO] at hD;have hN:=Lib.hid hD;have x3:(U.length+1+(Iz tl).length)*32<=140737488355328:=Zo;have x4:U.length+1+(Iz tl).length<=9223372036854775807:=Zo;clear hD hO hL DH hU
   repeat' first|refine ZN ?_|refine Z2 ?_ ?_|intro h h';try simp[*,-h] at h'
   all_goals exact⟨l.length - (i+1),Zo,i+1,g+1+1,U++[⟨3,ts,0⟩]++Iz tl,Zo,Zo,hN.out,Zm,by simp[*];omega,Zm,by simp[*,BC]⟩
  by_cases k4:tk=4
  ·subst k4
   have hO:lF (.mk 4 to' tn ts tl)=[⟨4,ts,tl.length⟩]:=rfl;rw[hO] at hD;have hN:=Lib.hid hD;have x3:(U.length+1+(Iz tl).length)*32<=140737488355328:=Zo;have x4:U.length+1+(Iz tl).length<=9223372036854775807:=Zo;clear hD hO hL DH hU
   repeat' first|refine ZN ?_|refine Z2 ?_ ?_|intro h h';try simp[*,-h] at h'
   all_goals exact⟨l.length - (i+1),Zo,i+1,g+1+1,U++[⟨4,ts,tl.length⟩]++Iz tl,Zo,Zo,hN.out,Zm,by simp[*];omega,Zm,by simp[*,BB]⟩
  have hO:lF (.mk tk to' tn ts tl)=[]:=by unfold lF;exact(Jx k2).trans ((Jx k3).trans (Jx k4))
  rw[hO,Acn] at hD;have hN:=Lib.hid hD;have x3:(U.length+(Iz tl).length)*32<=140737488355328:=Zo;have x4:U.length+(Iz tl).length<=9223372036854775807:=Zo;clear hD hO hL DH hU
  repeat' first|refine ZN ?_|refine Z2 ?_ ?_|intro h h';try simp[*,-h] at h'
  all_goals exact⟨l.length - (i+1),Zo,i+1,g+1,U++Iz tl,Zo,Zo,hN.out,Zm,Zm,Zm,Zm⟩
 ·have e1: ¬(i:Int)<l.length:=Zo
  have hN:=Lib.hid (show Iz l=U by rw[hU,wO Zo];simp[Iz]);clear hU ih
  repeat' first|refine ZN ?_|refine Z2 ?_ ?_|intro h h';try simp[*,-h] at h'
  all_goals (have t9:(fP U).take U.length=fP U:=Kb Zi)
  all_goals (rw[hN.out];try simp[t9])
theorem Rz {X:aS}(hX: ∀f a,X.dat f a=none): ∀(N:Nat) (l:List Sy.Ex),Uv l<=N->Uv l<=1048576->(Lm X).dat 126 [.sl false 5 (In l)]=some [.vec 3 (fP (Iz l))]
 |0,l,h,h2=>Ry hX l h2 fun kd hk=>Zo
 |N+1,l,h,h2=>Ry hX l h2 fun kd hk=>Rz hX N kd Zo Zo
end
section
open Go Go.Ab Go.Ab.Sy
variable {l:List Sy.St}{i:Nat}
mutual
theorem Fla : ∀e:Sy.St,(rC e).length<=e.size
 | .mk k s e t f=>by
  have h:=Ee e;have h1:=C7 t;have h2:=C7 f;rw[rC,Bi,X3,X3,X3];have:(lE (.mk k s e t f)).length<=1:=by unfold lE;(repeat' split)<;>simp
  omega
theorem C7 : ∀l:List Sy.St,(I9 l).length<=Ix l
 |[]=>by simp[I9]
 |e::l=>by
  have h1:=Fla e;have h2:=C7 l;rw[I9,X3,Vl];omega
end
theorem Nk{k:Int}{s:Tx}{e:List Sy.Ex}{t f:List Sy.St}(hi:i<l.length)(h:l[i]= .mk k s e t f)(U:List qV):U++I9 (l.drop i)=(U++lE (.mk k s e t f)++Iz e++I9 t++I9 f)++I9 (l.drop (i+1)):=by
 rw[Ng hi,I9,h,rC];simp only[tI]
theorem Sx(h:i<l.length):(Ik l)[i]?=some l[i].row:=by simp[B5,h]
theorem Yg {X:aS}(hX: ∀f a,X.dat f a=none)(l:List Sy.St)(hl:Ix l<=1048576)(ih: ∀kd:List Sy.St,Ix kd<Ix l->(Lm X).dat 74 [.sl false 5 (Ik kd)]=some [.vec 3 (fP (I9 kd))]):(Lm X).dat 74 [.sl false 5 (Ik l)]=some [.vec 3 (fP (I9 l))]:=by
 refine fW Tryz.func74 (hX _ _) ?_;have zN:=A9 l;have FY:(Ik l).length=l.length:=by simp[B5]
 repeat' first|refine ZN ?_|refine Z2 ?_ ?_|intro h h';try simp[*,-h] at h'
 all_goals (refine Ac (n:=l.length) (fun s0 m z=> ∃(i g:Nat) (U:List qV),l.length - i<=m/\i<=l.length/\I9 l=U++I9 (l.drop i)/\z.fr 0= .sl false 5 (Ik l)/\z.fr 3= .own ⟨0,3,0⟩ g U.length/\z.fr 4=iv i/\z.hp ⟨0,3,0⟩= .arr g 3 115 (fP U) false) ⟨0,1,[],Zo,Zo,Zi,Zi,Zi,Zi,Zi⟩ ?_)
 rintro m ⟨fr,hp⟩ ⟨i,g,U,hm,hi,hU,f0,f3,f4,h3⟩;simp at f0 f3 f4 h3;have DH:U.length<=1048576:=by have:=C7 l;rw[hU,X3] at this;omega
 by_cases Ii:i<l.length
 ·have e1:(i:Int)<l.length:=Zo
  have hg:=Sx Ii;have w1:=Iw (k:=i) Zo;have x1:(U.length+1)*32<=140737488355328:=Zo;have x2:U.length<=9223372036854775806:=Zo;have aZ:=Bp (oY Ii);have hD:=hU;generalize hq:l[i]=t at*;obtain⟨tk,ts,te,tt,tf⟩:=t;rw[Nk Ii hq] at hD;simp only[Bo] at hg;rw[Bi] at aZ;have hL:=Ee te;have hL1:=C7 tt;have aB:=C7 tf;have n0:=Rz hX _ te (D5 _) Zo;have n1:=ih tt Zo;have n2:=ih tf Zo;have t8: ∀V:List qV,(fP V).take V.length=V.map rG:=fun V=>Kb Zi
  clear ih hq Ii;by_cases k1:tk=1
  ·subst k1
   have hO:lE (.mk 1 ts te tt tf)=[⟨2,ts,0⟩]:=rfl;rw[hO] at hD;have hN:=Lib.hid hD;have x3:(U.length+1+(Iz te).length)*32<=140737488355328:=Zo;have x4:U.length+1+(Iz te).length<=9223372036854775807:=Zo;have q1:U.length+((Iz te).length+1)=U.length+1+(Iz te).length:=Zo;have q2:U.length+((Iz te).length+(I9 tt).length+1)=U.length+1+(Iz te).length+(I9 tt).length:=Zo;have x5:(U.length+1+(Iz te).length+(I9 tt).length)*32<=140737488355328:=Zo;have x6:U.length+1+(Iz te).length+(I9 tt).length<=9223372036854775807:=Zo;have x7:(U.length+1+(Iz te).length+(I9 tt).length+(I9 tf).length)*32<=140737488355328:=Zo;have x8:U.length+1+(Iz te).length+(I9 tt).length+(I9 tf).length<=9223372036854775807:=Zo;clear hD hO hL hL1 aB DH hU zN aZ
   repeat' first|refine ZN ?_|refine Z2 ?_ ?_|intro h h';try simp[*,-h] at h'
   all_goals exact⟨l.length - (i+1),Zo,i+1,g+1+1+1+1,U++[⟨2,ts,0⟩]++Iz te++I9 tt++I9 tf,Zo,Zo,hN.out,Zm,by simp[*];omega,Zm,by simp[*,BD]⟩
  by_cases k2:tk=2
  ·subst k2
   have hO:lE (.mk 2 ts te tt tf)=[⟨3,ts,0⟩]:=rfl;rw[hO] at hD;have hN:=Lib.hid hD;have x3:(U.length+1+(Iz te).length)*32<=140737488355328:=Zo;have x4:U.length+1+(Iz te).length<=9223372036854775807:=Zo;have q1:U.length+((Iz te).length+1)=U.length+1+(Iz te).length:=Zo;have q2:U.length+((Iz te).length+(I9 tt).length+1)=U.length+1+(Iz te).length+(I9 tt).length:=Zo;have x5:(U.length+1+(Iz te).length+(I9 tt).length)*32<=140737488355328:=Zo;have x6:U.length+1+(Iz te).length+(I9 tt).length<=9223372036854775807:=Zo;have x7:(U.length+1+(Iz te).length+(I9 tt).length+(I9 tf).length)*32<=140737488355328:=Zo;have x8:U.length+1+(Iz te).length+(I9 tt).length+(I9 tf).length<=9223372036854775807:=Zo;clear hD hO hL hL1 aB DH hU zN aZ
   repeat' first|refine ZN ?_|refine Z2 ?_ ?_|intro h h';try simp[*,-h] at h'
   all_goals exact⟨l.length - (i+1),Zo,i+1,g+1+1+1+1,U++[⟨3,ts,0⟩]++Iz te++I9 tt++I9 tf,Zo,Zo,hN.out,Zm,by simp[*];omega,Zm,by simp[*,BC]⟩
  by_cases k6:tk=6
  ·subst k6
   have hO:lE (.mk 6 ts te tt tf)=[⟨4,ts,te.length⟩]:=rfl;rw[hO] at hD;have hN:=Lib.hid hD;have x3:(U.length+1+(Iz te).length)*32<=140737488355328:=Zo;have x4:U.length+1+(Iz te).length<=9223372036854775807:=Zo;have q1:U.length+((Iz te).length+1)=U.length+1+(Iz te).length:=Zo;have q2:U.length+((Iz te).length+(I9 tt).length+1)=U.length+1+(Iz te).length+(I9 tt).length:=Zo;have x5:(U.length+1+(Iz te).length+(I9 tt).length)*32<=140737488355328:=Zo;have x6:U.length+1+(Iz te).length+(I9 tt).length<=9223372036854775807:=Zo;have x7:(U.length+1+(Iz te).length+(I9 tt).length+(I9 tf).length)*32<=140737488355328:=Zo;have x8:U.length+1+(Iz te).length+(I9 tt).length+(I9 tf).length<=9223372036854775807:=Zo;clear hD hO hL hL1 aB DH hU zN aZ
   repeat' first|refine ZN ?_|refine Z2 ?_ ?_|intro h h';try simp[*,-h] at h'
   all_goals exact⟨l.length - (i+1),Zo,i+1,g+1+1+1+1,U++[⟨4,ts,te.length⟩]++Iz te++I9 tt++I9 tf,Zo,Zo,hN.out,Zm,by simp[*];omega,Zm,by simp[*,BB]⟩
  have hO:lE (.mk tk ts te tt tf)=[]:=by unfold lE;exact(Jx k1).trans ((Jx k2).trans (Jx k6))
  rw[hO,Acn] at hD;have hN:=Lib.hid hD;have x3:(U.length+(Iz te).length)*32<=140737488355328:=Zo;have x4:U.length+(Iz te).length<=9223372036854775807:=Zo;have q2:U.length+((Iz te).length+(I9 tt).length)=U.length+(Iz te).length+(I9 tt).length:=Zo;have x5:(U.length+(Iz te).length+(I9 tt).length)*32<=140737488355328:=Zo;have x6:U.length+(Iz te).length+(I9 tt).length<=9223372036854775807:=Zo;have x7:(U.length+(Iz te).length+(I9 tt).length+(I9 tf).length)*32<=140737488355328:=Zo;have x8:U.length+(Iz te).length+(I9 tt).length+(I9 tf).length<=9223372036854775807:=Zo;clear hD hO hL hL1 aB DH hU zN aZ
  repeat' first|refine ZN ?_|refine Z2 ?_ ?_|intro h h';try simp[*,-h] at h'
  all_goals exact⟨l.length - (i+1),Zo,i+1,g+1+1+1,U++Iz te++I9 tt++I9 tf,Zo,Zo,hN.out,Zm,by simp[*];try omega,Zm,Zm⟩
 ·have e1: ¬(i:Int)<l.length:=Zo
  have hN:=Lib.hid (show I9 l=U by rw[hU,wO Zo];simp[I9]);clear hU ih
  repeat' first|refine ZN ?_|refine Z2 ?_ ?_|intro h h';try simp[*,-h] at h'
  all_goals (have t9:(fP U).take U.length=fP U:=Kb Zi)
  all_goals (rw[hN.out];try simp[t9])
theorem P3 {X:aS}(hX: ∀f a,X.dat f a=none): ∀(N:Nat) (l:List Sy.St),Ix l<=N->Ix l<=1048576->(Lm X).dat 74 [.sl false 5 (Ik l)]=some [.vec 3 (fP (I9 l))]
 |0,l,h,h2=>Yg hX l h2 fun kd hk=>Zo
 |N+1,l,h,h2=>Yg hX l h2 fun kd hk=>P3 hX N kd Zo Zo
end
section
open Go Go.Ab Go.Ab.Sy
variable {l:List Tx}{i j:Nat}{p:Sy.Pr}{α:Type}
theorem C8a(hi:i<l.length)(h: ¬I4 l l[i]=some i):bH l=false:=by
 unfold bH;rw[List.all_eq_false];exact⟨i,sJ.2 hi,by simpa[FL,hi] using h⟩
theorem Yr(h: ∀j,(hj:j<l.length)->I4 l l[j]=some j):bH l=true:=by
 unfold bH;rw[nU];intro j hj;have hj:=sJ.1 hj;simpa[FL,hj] using h j hj
theorem plZ_ne {o:Option Nat}(h: ¬o=some i): ¬plZ o=(i:Int):=by
 cases o with
 |none=>simp only[Ob];omega
 |some k=>simp only[Kk];intro e;exact h (by congr 1;omega)
theorem Jxa{f:Sy.Fu}(hi:p.funcs[i]?=some f):cY p i (p.funcs.drop i)=(tE p i f&&cY p (i+1) (p.funcs.drop (i+1))):=by
 obtain⟨h1,h2⟩:=Oh.1 hi;rw[Ng h1,cY,h2]
theorem MO(h: ¬i<p.funcs.length):cY p i (p.funcs.drop i)=true:=by rw[wO Zo];rfl
theorem Hq{P:α->Bool}{l:List α}(h:j<l.length):(l.drop j).all P=(P l[j]&&(l.drop (j+1)).all P):=by rw[Ng h,uZ]
theorem K7{P:α->Bool}{l:List α}(h: ¬j<l.length):(l.drop j).all P=true:=by rw[wO Zo];rfl
mutual
theorem C6a : ∀(e:Sy.Ex),∀u∈rD e,u.kind=2\/u.kind=3\/u.kind=4
 | .mk k o n s l=>fun u hu=>by
  rw[rD] at hu;rcases nA.1 hu with hu|hu
  ·unfold lF at hu
   (repeat' split at hu)<;>simp at hu<;>subst hu<;>simp
  ·exact Jn l u hu
theorem Jn : ∀(l:List Sy.Ex),∀u∈Iz l,u.kind=2\/u.kind=3\/u.kind=4
 |[]=>fun u hu=>by simp[Iz] at hu
 |e::l=>fun u hu=>by
  rw[Iz] at hu;exact(nA.1 hu).elim (C6a e u) (Jn l u)
end
mutual
theorem C5a : ∀(e:Sy.St),∀u∈rC e,u.kind=2\/u.kind=3\/u.kind=4
 | .mk k s e t f=>fun u hu=>by
  rw[rC] at hu;rcases nA.1 hu with hu|hu
  ·unfold lE at hu
   (repeat' split at hu)<;>simp at hu<;>subst hu<;>simp
  ·rcases nA.1 hu with hu|hu
   ·exact Jn e u hu
   ·exact(nA.1 hu).elim (En t u) (En f u)
theorem En : ∀(l:List Sy.St),∀u∈I9 l,u.kind=2\/u.kind=3\/u.kind=4
 |[]=>fun u hu=>by simp[I9] at hu
 |e::l=>fun u hu=>by
  rw[I9] at hu;exact(nA.1 hu).elim (C5a e u) (En l u)
end
theorem u_at {l:List qV}(h:i<l.length):(fP l)[i]?=some (rG l[i]):=by simp[h]
theorem Vh {X:aS}(hX: ∀f a,X.dat f a=none)(l:List Tx)(hl:l.length<=2199023255552):(Lm X).dat 71 [.sl false 1 (Ib l)]=some [bv (bH l)]:=by
 refine fW Tryz.func71 (hX _ _) ?_;have pq:=fun s:Tx=>Lg hX l s hl
 repeat' first|refine ZN ?_|refine Z2 ?_ ?_|intro h h';try simp[*,-h] at h'
 all_goals (refine Ac (n:=l.length) (fun s0 m z=> ∃i:Nat,l.length - i<=m/\i<=l.length/\(∀j,(hj:j<l.length)->j<i->I4 l l[j]=some j)/\z.fr 0= .sl false 1 (Ib l)/\z.fr 3=iv i) ⟨0,Zo,Zo,fun j hj h=>Zo,Zi,Zi⟩ ?_)
 rintro m ⟨fr,hp⟩ ⟨i,hm,hi,hI,f0,f3⟩;simp at f0 f3;by_cases Ii:i<l.length
 ·have e1:(i:Int)<l.length:=Zo
  have hg:=tx_at Ii;have w1:=Iw (k:=i) Zo;have p1:=pq l[i];clear pq;by_cases ht:I4 l l[i]=some i
  ·have HE:=Lib.hid (show∀j,(hj:j<l.length)->j<i+1->I4 l l[j]=some j from fun j hj h=>by
    rcases Nat.lt_succ_iff_lt_or_eq.1 h with h|rfl
    ·exact hI j hj h
    ·exact ht)
   rw[ht,Kk] at p1;clear ht hI;generalize l[i]=t at*;clear Ii
   repeat' first|refine ZN ?_|refine Z2 ?_ ?_|intro h h';try simp[*,-h] at h'
   all_goals exact⟨l.length - (i+1),Zo,i+1,Zo,Zo,HE.out,Zm,Zm⟩
  ·rw[C8a Ii ht]
   have Ir:=plZ_ne ht;generalize plZ (I4 l l[i])=q at*;clear ht hI;generalize l[i]=t at*;clear Ii;exact ZS
 ·have e1: ¬(i:Int)<l.length:=Zo
  rw[Yr (fun j hj=>hI j hj Zo)];clear hI pq;exact ZS
end
end Go.Proofs.YtggghdmdjpianaaGreatDoor
