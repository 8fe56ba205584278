/- A part of the proof: Sl, So, Sp, Sq, Sr, Su, Sv, Sw. -/
import Derived.Test.YtpmoibjpjlhcgaaGreatDoorZ17
set_option linter.unusedSimpArgs false
set_option linter.unusedVariables false
set_option maxRecDepth 200000
set_option maxHeartbeats 8000000
namespace Go.Proofs.YtpmoibjpjlhcgaaGreatDoor
open Go Go.Ab Go.Ab.Sy
@[simp] theorem lk_0 {k i j c c':Nat}:((⟨0,i,c⟩:Nm)=⟨k+1,j,c'⟩)=False:=by simp
def TC (g gm:Nat)(ag:Bool)(ks:List Value)(rs:List (List AV))(k f:Nat)(args:List AV)(val:AV):Prop:= ∃G:Nat→Hp→Hp,∀d hp,hp ⟨0,10012,0⟩= .box g [.mp ⟨0,10010,0⟩ gm,.sc .nilFunc,.fn 246 [],.fn 246 [],.fn 1000248 [.ptr ⟨0,10012,0⟩ g 0],.fn 1000249 [.ptr ⟨0,10012,0⟩ g 0],.fn 246 [],.fn 1000250 [.ptr ⟨0,10012,0⟩ g 0],.fn 1000247 [.ptr ⟨0,10012,0⟩ g 0],.fn 1000247 [.ptr ⟨0,10012,0⟩ g 0],.fn 1000247 [.ptr ⟨0,10012,0⟩ g 0]] false→hp ⟨0,10010,0⟩= .map gm ag ks rs false→
 (Lm X47).hpc k d f args hp=some (val,G d hp)∧ ∀d' i c,d'≤k→G d hp ⟨d',i,c⟩=hp ⟨d',i,c⟩
theorem TC.of {g gm:Nat}{ag:Bool}{ks:List Value}{rs:List (List AV)}{k f:Nat}{args:List AV}{val:AV}(h: ∀d hp,hp ⟨0,10012,0⟩= .box g [.mp ⟨0,10010,0⟩ gm,.sc .nilFunc,.fn 246 [],.fn 246 [],.fn 1000248 [.ptr ⟨0,10012,0⟩ g 0],.fn 1000249 [.ptr ⟨0,10012,0⟩ g 0],.fn 246 [],.fn 1000250 [.ptr ⟨0,10012,0⟩ g 0],.fn 1000247 [.ptr ⟨0,10012,0⟩ g 0],.fn 1000247 [.ptr ⟨0,10012,0⟩ g 0],.fn 1000247 [.ptr ⟨0,10012,0⟩ g 0]] false→hp ⟨0,10010,0⟩= .map gm ag ks rs false→
  HB Tryz.prog E47 (Lm X47) k d f args hp (fun v hp2=>v=val∧ ∀d' i c,d'≤k→hp2 ⟨d',i,c⟩=hp ⟨d',i,c⟩) (fun _ _=>False)):TC g gm ag ks rs k f args val:=by
 have h': ∀d hp,∃hp2,hp ⟨0,10012,0⟩= .box g [.mp ⟨0,10010,0⟩ gm,.sc .nilFunc,.fn 246 [],.fn 246 [],.fn 1000248 [.ptr ⟨0,10012,0⟩ g 0],.fn 1000249 [.ptr ⟨0,10012,0⟩ g 0],.fn 246 [],.fn 1000250 [.ptr ⟨0,10012,0⟩ g 0],.fn 1000247 [.ptr ⟨0,10012,0⟩ g 0],.fn 1000247 [.ptr ⟨0,10012,0⟩ g 0],.fn 1000247 [.ptr ⟨0,10012,0⟩ g 0]] false→hp ⟨0,10010,0⟩= .map gm ag ks rs false→(Lm X47).hpc k d f args hp=some (val,hp2)∧ ∀d' i c,d'≤k→hp2 ⟨d',i,c⟩=hp ⟨d',i,c⟩:=by
  intro d hp
  by_cases h1:hp ⟨0,10012,0⟩= .box g [.mp ⟨0,10010,0⟩ gm,.sc .nilFunc,.fn 246 [],.fn 246 [],.fn 1000248 [.ptr ⟨0,10012,0⟩ g 0],.fn 1000249 [.ptr ⟨0,10012,0⟩ g 0],.fn 246 [],.fn 1000250 [.ptr ⟨0,10012,0⟩ g 0],.fn 1000247 [.ptr ⟨0,10012,0⟩ g 0],.fn 1000247 [.ptr ⟨0,10012,0⟩ g 0],.fn 1000247 [.ptr ⟨0,10012,0⟩ g 0]] false∧hp ⟨0,10010,0⟩= .map gm ag ks rs false
  ·rcases h d hp h1.1 h1.2 with⟨v,hp2,h2,rfl,h3⟩|⟨_,_,_,_,h2⟩
   ·exact⟨hp2,fun _ _=>⟨h2,h3⟩⟩
   ·exact h2.elim
  ·exact⟨hp,fun x y=>(h1 ⟨x,y⟩).elim⟩
 exact⟨fun d hp=>Classical.choose (h' d hp),fun d hp=>Classical.choose_spec (h' d hp)⟩
theorem TC.rules {g gm:Nat}{ag:Bool}{ks:List Value}{rs:List (List AV)}{k f:Nat}{args:List AV}{val:AV}(h:TC g gm ag ks rs k f args val): ∃G:Nat→Hp→Hp,(∀(d:Nat) (hp:Hp),hp ⟨0,10012,0⟩= .box g [.mp ⟨0,10010,0⟩ gm,.sc .nilFunc,.fn 246 [],.fn 246 [],.fn 1000248 [.ptr ⟨0,10012,0⟩ g 0],.fn 1000249 [.ptr ⟨0,10012,0⟩ g 0],.fn 246 [],.fn 1000250 [.ptr ⟨0,10012,0⟩ g 0],.fn 1000247 [.ptr ⟨0,10012,0⟩ g 0],.fn 1000247 [.ptr ⟨0,10012,0⟩ g 0],.fn 1000247 [.ptr ⟨0,10012,0⟩ g 0]] false→hp ⟨0,10010,0⟩= .map gm ag ks rs false→(Lm X47).hpc k d f args hp=some (val,G d hp))∧
  (∀(d:Nat) (hp:Hp),hp ⟨0,10012,0⟩= .box g [.mp ⟨0,10010,0⟩ gm,.sc .nilFunc,.fn 246 [],.fn 246 [],.fn 1000248 [.ptr ⟨0,10012,0⟩ g 0],.fn 1000249 [.ptr ⟨0,10012,0⟩ g 0],.fn 246 [],.fn 1000250 [.ptr ⟨0,10012,0⟩ g 0],.fn 1000247 [.ptr ⟨0,10012,0⟩ g 0],.fn 1000247 [.ptr ⟨0,10012,0⟩ g 0],.fn 1000247 [.ptr ⟨0,10012,0⟩ g 0]] false→hp ⟨0,10010,0⟩= .map gm ag ks rs false→ ∀(d' i c:Nat),d'≤k→G d hp ⟨d',i,c⟩=hp ⟨d',i,c⟩):=by
 obtain⟨G,hG⟩:=h
 exact⟨G,fun d hp x y=>(hG d hp x y).1,fun d hp x y=>(hG d hp x y).2⟩
structure TM (m:List (Tx×Fu))(ag:Bool)(ks:List Value)(rs:List (List AV)):Prop where
 a:ag= !m.isEmpty
 k:ks=mKeys m
 r:rs=mRows Fu.row m
theorem TM.some {m:List (Tx×Fu)}{ag:Bool}{ks:List Value}{rs:List (List AV)}(h:TM m ag ks rs){s:Tx}{t:Fu}(hl:Sy.look m s=Option.some t): ∃j,findK (.string s.val) ks 0=Option.some (Option.some j)∧rs[j]?=Option.some t.row∧ag=true:=by
 obtain⟨rfl,rfl,rfl⟩:=h
 obtain⟨j,h1,h2,_⟩:=find_some (r:=Fu.row) hl 0
 exact⟨j,by simpa using h1,h2,look_ne hl⟩
theorem TM.none {m:List (Tx×Fu)}{ag:Bool}{ks:List Value}{rs:List (List AV)}(h:TM m ag ks rs){s:Tx}(hl:Sy.look m s=Option.none):findK (.string s.val) ks 0=Option.some Option.none:=by
 obtain⟨rfl,rfl,rfl⟩:=h
 exact find_none hl 0
theorem tyAll_s {m:List (Tx×Fu)}{g gm:Nat}{ag:Bool}{ks:List Value}{rs:List (List AV)}(N:Nat)(hN:N≤1048576)(ih: ∀e:Sy.Ex,e.size≤N→ ∀k,TC g gm ag ks rs k 293 [.ptr ⟨0,10012,0⟩ g 0,.agg e.row] (iv (tyE m e)))(l:List Sy.Ex)(hl:exSize l≤N)(t:Int)(k:Nat):TC g gm ag ks rs k 252 [.ptr ⟨0,10012,0⟩ g 0,.sl false 5 (exRows l),iv t] (bv (tyAll m l t)):=by
 refine TC.of fun d hp1 b1 m1=>?_
 refine lim_hpcBk (k1:=k+1) (PR:=fun _ _=>False) rfl Tryz.func252 (X47_hpc (by decide)) rfl bodyOk_252 rfl rvs_252 ?_
 have hlen:l.length≤1048576:=by have:=exSize_len l;omega
 repeat' (first|(refine ZN ?_)|(refine Z2 ?_ ?_)|(intro h h';try simp[*,-h] at h'))
 refine W_loopS (n:=l.length) (fun s0 m' z=> ∃j:Nat,l.length - j≤m'∧j≤l.length∧z.fr 0= .ptr ⟨0,10012,0⟩ g 0∧z.fr 2=iv t∧z.fr 9= .sl false 5 (exRows l)∧z.fr 10=iv l.length∧z.fr 11=iv j∧z.hp ⟨0,10012,0⟩= .box g [.mp ⟨0,10010,0⟩ gm,.sc .nilFunc,.fn 246 [],.fn 246 [],.fn 1000248 [.ptr ⟨0,10012,0⟩ g 0],.fn 1000249 [.ptr ⟨0,10012,0⟩ g 0],.fn 246 [],.fn 1000250 [.ptr ⟨0,10012,0⟩ g 0],.fn 1000247 [.ptr ⟨0,10012,0⟩ g 0],.fn 1000247 [.ptr ⟨0,10012,0⟩ g 0],.fn 1000247 [.ptr ⟨0,10012,0⟩ g 0]] false∧z.hp ⟨0,10010,0⟩= .map gm ag ks rs false∧(∀d' i c,d'≤k→z.hp ⟨d',i,c⟩=hp1 ⟨d',i,c⟩)∧tyAll m l t=tyAll m (l.drop j) t) ⟨0,by omega,by omega,by simp,by simp,by simp,by simp,by simp,by simpa using b1,by simpa using m1,fun _ _ _ _=>rfl,by simp⟩ ?_
 rintro m' ⟨fr,hp⟩ ⟨j,hm,hj,f0,f2,f9,f10,f11,b2,m2,HK,hd⟩
 simp only at f0 f2 f9 f10 f11 b2 m2 HK
 by_cases hlt:j<l.length
 ·have e1:(j:Int)<l.length:=by omega
  have hg:l[j]?=some l[j]:=List.getElem?_eq_getElem hlt
  have hwi:IntKind.i64.wrap ((j:Int)+1)=(j:Int)+1:=wrapN (by omega)
  rw[List.drop_eq_getElem_cons hlt] at hd
  generalize l[j]=e at*
  have hgt:=ex_get hg
  have hst:=exSize_get hg
  have tcE:=ih e (by omega) (k+1)
  rw[tyAll_cons] at hd
  generalize tyE m e=te at*
  obtain⟨ek,eo,en,ex,ekids⟩:=e
  simp only[Ex_row_mk] at hgt tcE
  obtain⟨G1,a1,c1⟩:=tcE.rules
  have HD:=Lib.hid hd
  have HK:=Lib.hid HK
  clear hg hlt hd b1 m1
  repeat' (first|(refine ZN ?_)|(refine Z2 ?_ ?_)|(intro h h';try simp[*,-h] at h'))
  all_goals have hd:=HD.out
  all_goals have HK:=HK.out
  ·exact⟨by rw[hd];simp[*],fun d' i c hd=>by have hd2:d'≠k+1:=(by omega);have hd3:d'≤k+1:=(by omega);simp[*]⟩
  ·exact⟨l.length - (j+1),by omega,j+1,by omega,by omega,by simp[*],by simp[*],by simp[*],by simp[*],by simp[*],by simp[*],by simp[*],fun d' i c hd=>by have hd2:d'≠k+1:=(by omega);have hd3:d'≤k+1:=(by omega);simp[*],by rw[hd];simp[*]⟩
 ·have e1: ¬(j:Int)<l.length:=by omega
  have hd2:tyAll m l t=true:=by rw[hd,List.drop_eq_nil_of_le (by omega)];simp
  clear hd
  repeat' (first|(refine ZN ?_)|(refine Z2 ?_ ?_)|(intro h h';try simp[*,-h] at h'))
  exact⟨by rw[hd2],HK⟩
theorem tyIndex_w {m:List (Tx×Fu)}{g gm:Nat}{ag:Bool}{ks:List Value}{rs:List (List AV)}(ek eo en:Int)(ex:Tx)(l:List Sy.Ex)(ih: ∀k,TC g gm ag ks rs k 252 [.ptr ⟨0,10012,0⟩ g 0,.sl false 5 (exRows l),iv 1] (bv (tyAll m l 1)))(k:Nat):TC g gm ag ks rs k 248 [.ptr ⟨0,10012,0⟩ g 0,.agg [iz ek,iz eo,uz en,tz ex.val,.sl false 5 (exRows l)]] (iv (if tyAll m l 1 then 1 else 0)):=by
 refine TC.of fun d hp1 b1 m1=>?_
 refine lim_hpcBk (k1:=k+1) (PR:=fun _ _=>False) rfl Tryz.func248 (X47_hpc (by decide)) rfl bodyOk_248 rfl rvs_248 ?_
 have tcA:=ih (k+1)
 obtain⟨G1,a1,c1⟩:=tcA.rules
 clear ih
 generalize tyAll m l 1=ta at*
 repeat' (first|(refine ZN ?_)|(refine Z2 ?_ ?_)|(intro h h';try simp[*,-h] at h'))
 all_goals refine⟨?_,fun d' i c hd=>by have hd2:d'≠k+1:=(by omega);have hd3:d'≤k+1:=(by omega);simp[*]⟩
 all_goals (first|(simp[*];done)|(simp_all;done))
theorem tyBoth_w {m:List (Tx×Fu)}{g gm:Nat}{ag:Bool}{ks:List Value}{rs:List (List AV)}(ek eo en:Int)(ex:Tx)(l:List Sy.Ex)(ih: ∀k,TC g gm ag ks rs k 252 [.ptr ⟨0,10012,0⟩ g 0,.sl false 5 (exRows l),iv 2] (bv (tyAll m l 2)))(k:Nat):TC g gm ag ks rs k 247 [.ptr ⟨0,10012,0⟩ g 0,.agg [iz ek,iz eo,uz en,tz ex.val,.sl false 5 (exRows l)]] (iv (if tyAll m l 2 then 2 else 0)):=by
 refine TC.of fun d hp1 b1 m1=>?_
 refine lim_hpcBk (k1:=k+1) (PR:=fun _ _=>False) rfl Tryz.func247 (X47_hpc (by decide)) rfl bodyOk_247 rfl rvs_247 ?_
 have tcA:=ih (k+1)
 obtain⟨G1,a1,c1⟩:=tcA.rules
 clear ih
 generalize tyAll m l 2=ta at*
 repeat' (first|(refine ZN ?_)|(refine Z2 ?_ ?_)|(intro h h';try simp[*,-h] at h'))
 all_goals refine⟨?_,fun d' i c hd=>by have hd2:d'≠k+1:=(by omega);have hd3:d'≤k+1:=(by omega);simp[*]⟩
 all_goals (first|(simp[*];done)|(simp_all;done))
theorem tyOp_w {m:List (Tx×Fu)}{g gm:Nat}{ag:Bool}{ks:List Value}{rs:List (List AV)}(ek eo en:Int)(ex:Tx)(l:List Sy.Ex)(ih: ∀k,TC g gm ag ks rs k 252 [.ptr ⟨0,10012,0⟩ g 0,.sl false 5 (exRows l),iv 1] (bv (tyAll m l 1)))(k:Nat):TC g gm ag ks rs k 250 [.ptr ⟨0,10012,0⟩ g 0,.agg [iz ek,iz eo,uz en,tz ex.val,.sl false 5 (exRows l)]] (iv (if tyAll m l 1 then(if eo=14∨eo=15 then 2 else 1) else 0)):=by
 refine TC.of fun d hp1 b1 m1=>?_
 refine lim_hpcBk (k1:=k+1) (PR:=fun _ _=>False) rfl Tryz.func250 (X47_hpc (by decide)) rfl bodyOk_250 rfl rvs_250 ?_
 have tcA:=ih (k+1)
 obtain⟨G1,a1,c1⟩:=tcA.rules
 clear ih
 generalize tyAll m l 1=ta at*
 repeat' (first|(refine ZN ?_)|(refine Z2 ?_ ?_)|(intro h h';try simp[*,-h] at h'))
 all_goals refine⟨?_,fun d' i c hd=>by have hd2:d'≠k+1:=(by omega);have hd3:d'≤k+1:=(by omega);simp[*]⟩
 all_goals (first|(simp[*];done)|(simp_all;done))
end Go.Proofs.YtpmoibjpjlhcgaaGreatDoor
namespace Go.Proofs.YtpmoibjpjlhcgaaGreatDoor
open Go Go.Ab Go.Ab.Sy
theorem tyCall_w {m:List (Tx×Fu)}{g gm:Nat}{ag:Bool}{ks:List Value}{rs:List (List AV)}(hm:TM m ag ks rs)(ek eo en:Int)(ex:Tx)(l:List Sy.Ex)(ih: ∀k,TC g gm ag ks rs k 252 [.ptr ⟨0,10012,0⟩ g 0,.sl false 5 (exRows l),iv 1] (bv (tyAll m l 1)))(k:Nat):TC g gm ag ks rs k 249 [.ptr ⟨0,10012,0⟩ g 0,.agg [iz ek,iz eo,uz en,tz ex.val,.sl false 5 (exRows l)]] (iv (if wordOf m ex=true∧tyAll m l 1=true then 1 else 0)):=by
 refine TC.of fun d hp1 b1 m1=>?_
 refine lim_hpcBk (k1:=k+1) (PR:=fun _ _=>False) rfl Tryz.func249 (X47_hpc (by decide)) rfl bodyOk_249 rfl rvs_249 ?_
 have tcA:=ih (k+1)
 obtain⟨G1,a1,c1⟩:=tcA.rules
 clear ih tcA
 unfold wordOf
 generalize tyAll m l 1=ta at*
 cases hl:Sy.look m ex with
 |some t=>
  obtain⟨j,k1,k2,rfl⟩:=hm.some hl
  obtain⟨r1,r2,r3,r4,r5⟩:=t
  simp only[Fu_row_mk] at k2
  simp only
  repeat' (first|(refine ZN ?_)|(refine Z2 ?_ ?_)|(intro h h';try simp[*,-h] at h'))
  all_goals refine⟨?_,fun d' i c hd=>by have hd2:d'≠k+1:=(by omega);have hd3:d'≤k+1:=(by omega);simp[*]⟩
  all_goals (first|(simp[*];done)|(simp_all;done))
 |none=>
  have k1:=hm.none hl
  simp only
  repeat' (first|(refine ZN ?_)|(refine Z2 ?_ ?_)|(intro h h';try simp[*,-h] at h'))
  all_goals refine⟨?_,fun d' i c hd=>by have hd2:d'≠k+1:=(by omega);have hd3:d'≤k+1:=(by omega);simp[*]⟩
  all_goals (first|(simp[*];done)|(simp_all;done))
theorem word_w (ek eo en:Int)(ex:Tx)(l:List Sy.Ex):(Lm X47).dat 246 [.agg [iz ek,iz eo,uz en,tz ex.val,.sl false 5 (exRows l)]]=some [iv 1]:=by
 refine fnW (P:=Tryz.prog) (E:=E47) (X:=X47) Tryz.func246 (X47_dat _ _) rfl bodyOk_246 rfl rtys_246 rvs_246 ?_
 repeat' (first|(refine ZN ?_)|(refine Z2 ?_ ?_)|(intro h h';try simp[*,-h] at h'))
 all_goals rfl
theorem tyE_mk (m:List (Tx×Fu))(k o n:Int)(s:Tx)(l:List Sy.Ex):tyE m (.mk k o n s l)=if k=1∨k=2∨k=5 then 1 else if k=3 then(if tyAll m l 1 then 1 else 0) else if k=4 then(if wordOf m s=true∧tyAll m l 1=true then 1 else 0)
   else if k=6 then(if tyAll m l 1 then(if o=14∨o=15 then 2 else 1) else 0) else if k=7∨k=8∨k=9 then(if tyAll m l 2 then 2 else 0) else 0:=by rw[tyE]
theorem typeOf_s {m:List (Tx×Fu)}{g gm:Nat}{ag:Bool}{ks:List Value}{rs:List (List AV)}(hm:TM m ag ks rs)(N:Nat)(ihL: ∀l:List Sy.Ex,exSize l≤N→ ∀(t:Int) (k:Nat),TC g gm ag ks rs k 252 [.ptr ⟨0,10012,0⟩ g 0,.sl false 5 (exRows l),iv t] (bv (tyAll m l t)))(e:Sy.Ex)(he:e.size≤N+1)(k:Nat):TC g gm ag ks rs k 293 [.ptr ⟨0,10012,0⟩ g 0,.agg e.row] (iv (tyE m e)):=by
 refine TC.of fun d hp1 b1 m1=>?_
 refine lim_hpcBk (k1:=k+1) (PR:=fun _ _=>False) rfl Tryz.func293 (X47_hpc (by decide)) rfl bodyOk_293 rfl rvs_293 ?_
 obtain⟨ek,eo,en,ex,l⟩:=e
 simp only[Ex_size_mk] at he
 rw[Ex_row_mk,tyE_mk]
 have t1:=ihL l (by omega) 1
 have t2:=ihL l (by omega) 2
 clear ihL
 obtain(rfl|rfl|rfl|rfl|rfl|rfl|rfl|rfl|rfl|hk):ek=1∨ek=2∨ek=3∨ek=4∨ek=5∨ek=6∨ek=7∨ek=8∨ek=9∨(ek<1∨9<ek):=by omega
 ·have hw:=word_w 1 eo en ex l
  clear t1 t2
  repeat' (first|(refine ZN ?_)|(refine Z2 ?_ ?_)|(intro h h';try simp[*,-h] at h'))
  exact⟨by simp,fun d' i c hd=>by have hd2:d'≠k+1:=(by omega);have hd3:d'≤k+1:=(by omega);simp[*]⟩
 ·have hw:=word_w 2 eo en ex l
  clear t1 t2
  repeat' (first|(refine ZN ?_)|(refine Z2 ?_ ?_)|(intro h h';try simp[*,-h] at h'))
  exact⟨by simp,fun d' i c hd=>by have hd2:d'≠k+1:=(by omega);have hd3:d'≤k+1:=(by omega);simp[*]⟩
 ·have tcA:=tyIndex_w 3 eo en ex l t1 (k+1)
  obtain⟨G1,a1,c1⟩:=tcA.rules
  clear t1 t2 tcA
  repeat' (first|(refine ZN ?_)|(refine Z2 ?_ ?_)|(intro h h';try simp[*,-h] at h'))
  exact⟨by simp,fun d' i c hd=>by have hd2:d'≠k+1:=(by omega);have hd3:d'≤k+1:=(by omega);simp[*]⟩
 ·have tcA:=tyCall_w hm 4 eo en ex l t1 (k+1)
  obtain⟨G1,a1,c1⟩:=tcA.rules
  clear t1 t2 tcA
  repeat' (first|(refine ZN ?_)|(refine Z2 ?_ ?_)|(intro h h';try simp[*,-h] at h'))
  exact⟨by simp,fun d' i c hd=>by have hd2:d'≠k+1:=(by omega);have hd3:d'≤k+1:=(by omega);simp[*]⟩
 ·have hw:=word_w 5 eo en ex l
  clear t1 t2
  repeat' (first|(refine ZN ?_)|(refine Z2 ?_ ?_)|(intro h h';try simp[*,-h] at h'))
  exact⟨by simp,fun d' i c hd=>by have hd2:d'≠k+1:=(by omega);have hd3:d'≤k+1:=(by omega);simp[*]⟩
 ·have tcA:=tyOp_w 6 eo en ex l t1 (k+1)
  obtain⟨G1,a1,c1⟩:=tcA.rules
  clear t1 t2 tcA
  repeat' (first|(refine ZN ?_)|(refine Z2 ?_ ?_)|(intro h h';try simp[*,-h] at h'))
  exact⟨by simp,fun d' i c hd=>by have hd2:d'≠k+1:=(by omega);have hd3:d'≤k+1:=(by omega);simp[*]⟩
 ·have tcA:=tyBoth_w 7 eo en ex l t2 (k+1)
  obtain⟨G1,a1,c1⟩:=tcA.rules
  clear t1 t2 tcA
  repeat' (first|(refine ZN ?_)|(refine Z2 ?_ ?_)|(intro h h';try simp[*,-h] at h'))
  exact⟨by simp,fun d' i c hd=>by have hd2:d'≠k+1:=(by omega);have hd3:d'≤k+1:=(by omega);simp[*]⟩
 ·have tcA:=tyBoth_w 8 eo en ex l t2 (k+1)
  obtain⟨G1,a1,c1⟩:=tcA.rules
  clear t1 t2 tcA
  repeat' (first|(refine ZN ?_)|(refine Z2 ?_ ?_)|(intro h h';try simp[*,-h] at h'))
  exact⟨by simp,fun d' i c hd=>by have hd2:d'≠k+1:=(by omega);have hd3:d'≤k+1:=(by omega);simp[*]⟩
 ·have tcA:=tyBoth_w 9 eo en ex l t2 (k+1)
  obtain⟨G1,a1,c1⟩:=tcA.rules
  clear t1 t2 tcA
  repeat' (first|(refine ZN ?_)|(refine Z2 ?_ ?_)|(intro h h';try simp[*,-h] at h'))
  exact⟨by simp,fun d' i c hd=>by have hd2:d'≠k+1:=(by omega);have hd3:d'≤k+1:=(by omega);simp[*]⟩
 ·clear t1 t2
  have z:ek≠1∧ek≠2∧ek≠3∧ek≠4∧ek≠5∧ek≠6∧ek≠7∧ek≠8∧ek≠9:=by omega
  obtain⟨z1,z2,z3,z4,z5,z6,z7,z8,z9⟩:=z
  rcases hk with hk|hk
  ·repeat' (first|(refine ZN ?_)|(refine Z2 ?_ ?_)|(intro h h';try simp[*,-h] at h'))
   exact⟨by simp[*],fun d' i c hd=>by have hd2:d'≠k+1:=(by omega);have hd3:d'≤k+1:=(by omega);simp[*]⟩
  ·have hk1: ¬ek<1:=by omega
   repeat' (first|(refine ZN ?_)|(refine Z2 ?_ ?_)|(intro h h';try simp[*,-h] at h'))
   exact⟨by simp[*],fun d' i c hd=>by have hd2:d'≠k+1:=(by omega);have hd3:d'≤k+1:=(by omega);simp[*]⟩
theorem tyAll_n {m:List (Tx×Fu)}{g gm:Nat}{ag:Bool}{ks:List Value}{rs:List (List AV)}(hm:TM m ag ks rs): ∀N,N≤1048576→ ∀l:List Sy.Ex,exSize l≤N→ ∀(t:Int) (k:Nat),TC g gm ag ks rs k 252 [.ptr ⟨0,10012,0⟩ g 0,.sl false 5 (exRows l),iv t] (bv (tyAll m l t))
 |0,h,l,hl,t,k=>tyAll_s 0 h (fun e he=>by have:=e.size_pos;omega) l hl t k
 |N+1,h,l,hl,t,k=>tyAll_s (N+1) h (fun e he k=>typeOf_s hm N (fun l hl t k=>tyAll_n hm N (by omega) l hl t k) e he k) l hl t k
theorem tyAll_w {m:List (Tx×Fu)}{g gm:Nat}{ag:Bool}{ks:List Value}{rs:List (List AV)}(hm:TM m ag ks rs)(l:List Sy.Ex)(hl:exSize l≤1048576)(t:Int)(k:Nat):TC g gm ag ks rs k 252 [.ptr ⟨0,10012,0⟩ g 0,.sl false 5 (exRows l),iv t] (bv (tyAll m l t)):=tyAll_n hm 1048576 (Nat.le_refl _) l hl t k
end Go.Proofs.YtpmoibjpjlhcgaaGreatDoor
namespace Go.Proofs.YtpmoibjpjlhcgaaGreatDoor
open Go Go.Ab Go.Ab.Sy
theorem knE_mk (m:List (Tx×Fu))(k o n:Int)(s:Tx)(l:List Sy.Ex):knE m (.mk k o n s l)=((decide (k≠4)||(Sy.look m s).isSome)&&knEs m l):=by rw[knE]
theorem knS_mk (m:List (Tx×Fu))(k:Int)(s:Tx)(e:List Sy.Ex)(t f:List Sy.St):knS m (.mk k s e t f)=((decide (k≠6)||(Sy.look m s).isSome)&&knEs m e&&knSs m t&&knSs m f):=by rw[knS]
theorem tyS_mk (m:List (Tx×Fu))(w:Bool)(k:Int)(s:Tx)(e:List Sy.Ex)(t f:List Sy.St):tyS m w (.mk k s e t f)=((decide (k≠6)|| !wordOf m s)&&(decide (k≠7)||(e.length==0||w))&&tyAll m e (if k=4∨k=5 then 2 else 1)&&tySs m w t&&tySs m w f):=by rw[tyS]
theorem knEs_nl (m:List (Tx×Fu)):knEs m []=true:=by rw[knEs]
theorem knEs_cn (m:List (Tx×Fu))(e:Sy.Ex)(l:List Sy.Ex):knEs m (e::l)=(knE m e&&knEs m l):=by rw[knEs]
theorem knSs_nl (m:List (Tx×Fu)):knSs m []=true:=by rw[knSs]
theorem knSs_cn (m:List (Tx×Fu))(e:Sy.St)(l:List Sy.St):knSs m (e::l)=(knS m e&&knSs m l):=by rw[knSs]
theorem tySs_nl (m:List (Tx×Fu))(w:Bool):tySs m w []=true:=by rw[tySs]
theorem tySs_cn (m:List (Tx×Fu))(w:Bool)(e:Sy.St)(l:List Sy.St):tySs m w (e::l)=(tyS m w e&&tySs m w l):=by rw[tySs]
theorem known_s {m:List (Tx×Fu)}{g gm:Nat}{ag:Bool}{ks:List Value}{rs:List (List AV)}(hm:TM m ag ks rs)(N:Nat)(hN:N≤1048576)(ih: ∀e:Sy.Ex,e.size≤N→ ∀k,TC g gm ag ks rs k 251 [.ptr ⟨0,10012,0⟩ g 0,.agg e.row] (bv (knE m e)))(e:Sy.Ex)(he:e.size≤N+1)(k:Nat):TC g gm ag ks rs k 251 [.ptr ⟨0,10012,0⟩ g 0,.agg e.row] (bv (knE m e)):=by
 refine TC.of fun d hp1 b1 m1=>?_
 refine lim_hpcBk (k1:=k+1) (PR:=fun _ _=>False) rfl Tryz.func251 (X47_hpc (by decide)) rfl bodyOk_251 rfl rvs_251 ?_
 obtain⟨ek,eo,en,ex,l⟩:=e
 simp only[Ex_size_mk] at he
 have hlen:l.length≤1048576:=by have:=exSize_len l;omega
 rw[Ex_row_mk,knE_mk]
 by_cases h4:ek=4
 ·subst h4
  cases hl:Sy.look m ex with
  |some t=>
   obtain⟨j,k1,k2,hag⟩:=hm.some hl
   obtain⟨r1,r2,r3,r4,r5⟩:=t
   simp only[Fu_row_mk] at k2
   repeat' (first|((with_reducible apply Wd_nil);(apply drawF_of (ps:=[(0,4),(1,4),(2,4),(3,4),(0,5),(1,5),(2,5),(3,5),(8,9),(0,10),(1,10),(2,10),(3,10),(4,10),(5,10),(6,10),(7,10),(8,10),(9,10),(9,11)]));(kernel_rfl);(iterate 9 refine Zk ?_);(iterate 11 refine Zs ?_);(exact Zz))|(refine Z1 ?_)|(refine Z2 ?_ ?_)|(intro h h';try simp[*,-h] at h'))
   refine W_loopS (n:=l.length) (fun s0 m' z=> ∃j:Nat,l.length - j≤m'∧j≤l.length∧z.fr 0= .ptr ⟨0,10012,0⟩ g 0∧z.fr 25= .sl false 5 (exRows l)∧z.fr 26=iv l.length∧z.fr 27=iv j∧z.hp ⟨0,10012,0⟩= .box g [.mp ⟨0,10010,0⟩ gm,.sc .nilFunc,.fn 246 [],.fn 246 [],.fn 1000248 [.ptr ⟨0,10012,0⟩ g 0],.fn 1000249 [.ptr ⟨0,10012,0⟩ g 0],.fn 246 [],.fn 1000250 [.ptr ⟨0,10012,0⟩ g 0],.fn 1000247 [.ptr ⟨0,10012,0⟩ g 0],.fn 1000247 [.ptr ⟨0,10012,0⟩ g 0],.fn 1000247 [.ptr ⟨0,10012,0⟩ g 0]] false∧z.hp ⟨0,10010,0⟩= .map gm ag ks rs false∧(∀d' i c,d'≤k→z.hp ⟨d',i,c⟩=hp1 ⟨d',i,c⟩)∧knEs m l=knEs m (l.drop j)) ⟨0,by omega,by omega,by simp[*],by simp[*],by simp[*],by simp[*],by simp[*],by simp[*],fun d' i c hd=>by have hd2:d'≠k+1:=(by omega);have hd3:d'≤k+1:=(by omega);simp[*],by simp⟩ ?_
   rintro m' ⟨fr,hp⟩ ⟨j,hm',hj,f0,fl,fn,fi,b2,m2,HK,hd⟩
   simp only at f0 fl fn fi b2 m2 HK
   clear b1 m1
   by_cases hlt:j<l.length
   ·have e1:(j:Int)<l.length:=by omega
    have hg:l[j]?=some l[j]:=List.getElem?_eq_getElem hlt
    have hwi:IntKind.i64.wrap ((j:Int)+1)=(j:Int)+1:=wrapN (by omega)
    rw[List.drop_eq_getElem_cons hlt,knEs_cn] at hd
    generalize l[j]=e at*
    have hgt:=ex_get hg
    have hst:=exSize_get hg
    have tcE:=ih e (by omega) (k+1)
    generalize knE m e=te at*
    obtain⟨xk,xo,xn,xx,xkids⟩:=e
    simp only[Ex_row_mk] at hgt tcE
    obtain⟨G1,a1,c1⟩:=tcE.rules
    have HD:=Lib.hid hd
    have HK:=Lib.hid HK
    clear hg hlt hd tcE
    repeat' (first|(refine ZN ?_)|(refine Z2 ?_ ?_)|(intro h h';try simp[*,-h] at h'))
    all_goals have hd:=HD.out
    all_goals have HK:=HK.out
    ·exact⟨by rw[hd];simp[*],fun d' i c hd=>by have hd2:d'≠k+1:=(by omega);have hd3:d'≤k+1:=(by omega);simp[*]⟩
    ·exact⟨l.length - (j+1),by omega,j+1,by omega,by omega,by simp[*],by simp[*],by simp[*],by simp[*],by simp[*],by simp[*],fun d' i c hd=>by have hd2:d'≠k+1:=(by omega);have hd3:d'≤k+1:=(by omega);simp[*],by rw[hd];simp[*]⟩
   ·have e1: ¬(j:Int)<l.length:=by omega
    have hd2:knEs m l=true:=by rw[hd,List.drop_eq_nil_of_le (by omega),knEs_nl]
    clear hd
    repeat' (first|(refine ZN ?_)|(refine Z2 ?_ ?_)|(intro h h';try simp[*,-h] at h'))
    exact⟨by rw[hd2];simp[*],HK⟩
  |none=>
   have k1:=hm.none hl
   repeat' (first|((with_reducible apply Wd_nil);(apply drawF_of (ps:=[(0,4),(1,4),(2,4),(3,4),(0,5),(1,5),(2,5),(3,5),(8,9),(0,10),(1,10),(2,10),(3,10),(4,10),(5,10),(6,10),(7,10),(8,10),(9,10),(9,11)]));(kernel_rfl);(iterate 9 refine Zk ?_);(iterate 11 refine Zs ?_);(exact Zz))|(refine Z1 ?_)|(refine Z2 ?_ ?_)|(intro h h';try simp[*,-h] at h'))
   exact⟨by simp,fun d' i c hd=>by have hd2:d'≠k+1:=(by omega);have hd3:d'≤k+1:=(by omega);simp[*]⟩
 ·repeat' (first|(refine ZN ?_)|(refine Z2 ?_ ?_)|(intro h h';try simp[*,-h] at h'))
  refine W_loopS (n:=l.length) (fun s0 m' z=> ∃j:Nat,l.length - j≤m'∧j≤l.length∧z.fr 0= .ptr ⟨0,10012,0⟩ g 0∧z.fr 25= .sl false 5 (exRows l)∧z.fr 26=iv l.length∧z.fr 27=iv j∧z.hp ⟨0,10012,0⟩= .box g [.mp ⟨0,10010,0⟩ gm,.sc .nilFunc,.fn 246 [],.fn 246 [],.fn 1000248 [.ptr ⟨0,10012,0⟩ g 0],.fn 1000249 [.ptr ⟨0,10012,0⟩ g 0],.fn 246 [],.fn 1000250 [.ptr ⟨0,10012,0⟩ g 0],.fn 1000247 [.ptr ⟨0,10012,0⟩ g 0],.fn 1000247 [.ptr ⟨0,10012,0⟩ g 0],.fn 1000247 [.ptr ⟨0,10012,0⟩ g 0]] false∧z.hp ⟨0,10010,0⟩= .map gm ag ks rs false∧(∀d' i c,d'≤k→z.hp ⟨d',i,c⟩=hp1 ⟨d',i,c⟩)∧knEs m l=knEs m (l.drop j)) ⟨0,by omega,by omega,by simp[*],by simp[*],by simp[*],by simp[*],by simp[*],by simp[*],fun d' i c hd=>by have hd2:d'≠k+1:=(by omega);have hd3:d'≤k+1:=(by omega);simp[*],by simp⟩ ?_
  rintro m' ⟨fr,hp⟩ ⟨j,hm',hj,f0,fl,fn,fi,b2,m2,HK,hd⟩
  simp only at f0 fl fn fi b2 m2 HK
  clear b1 m1
  by_cases hlt:j<l.length
  ·have e1:(j:Int)<l.length:=by omega
   have hg:l[j]?=some l[j]:=List.getElem?_eq_getElem hlt
   have hwi:IntKind.i64.wrap ((j:Int)+1)=(j:Int)+1:=wrapN (by omega)
   rw[List.drop_eq_getElem_cons hlt,knEs_cn] at hd
   generalize l[j]=e at*
   have hgt:=ex_get hg
   have hst:=exSize_get hg
   have tcE:=ih e (by omega) (k+1)
   generalize knE m e=te at*
   obtain⟨xk,xo,xn,xx,xkids⟩:=e
   simp only[Ex_row_mk] at hgt tcE
   obtain⟨G1,a1,c1⟩:=tcE.rules
   have HD:=Lib.hid hd
   have HK:=Lib.hid HK
   clear hg hlt hd tcE
   repeat' (first|(refine ZN ?_)|(refine Z2 ?_ ?_)|(intro h h';try simp[*,-h] at h'))
   all_goals have hd:=HD.out
   all_goals have HK:=HK.out
   ·exact⟨by rw[hd];simp[*],fun d' i c hd=>by have hd2:d'≠k+1:=(by omega);have hd3:d'≤k+1:=(by omega);simp[*]⟩
   ·exact⟨l.length - (j+1),by omega,j+1,by omega,by omega,by simp[*],by simp[*],by simp[*],by simp[*],by simp[*],by simp[*],fun d' i c hd=>by have hd2:d'≠k+1:=(by omega);have hd3:d'≤k+1:=(by omega);simp[*],by rw[hd];simp[*]⟩
  ·have e1: ¬(j:Int)<l.length:=by omega
   have hd2:knEs m l=true:=by rw[hd,List.drop_eq_nil_of_le (by omega),knEs_nl]
   clear hd
   repeat' (first|(refine ZN ?_)|(refine Z2 ?_ ?_)|(intro h h';try simp[*,-h] at h'))
   exact⟨by rw[hd2];simp[*],HK⟩
theorem known_n {m:List (Tx×Fu)}{g gm:Nat}{ag:Bool}{ks:List Value}{rs:List (List AV)}(hm:TM m ag ks rs): ∀N,N≤1048576→ ∀e:Sy.Ex,e.size≤N→ ∀k:Nat,TC g gm ag ks rs k 251 [.ptr ⟨0,10012,0⟩ g 0,.agg e.row] (bv (knE m e))
 |0,h,e,he,k=>by have:=e.size_pos;omega
 |N+1,h,e,he,k=>known_s hm N (by omega) (fun e he k=>known_n hm N (by omega) e he k) e he k
theorem known_w {m:List (Tx×Fu)}{g gm:Nat}{ag:Bool}{ks:List Value}{rs:List (List AV)}(hm:TM m ag ks rs)(e:Sy.Ex)(he:e.size≤1048576)(k:Nat):TC g gm ag ks rs k 251 [.ptr ⟨0,10012,0⟩ g 0,.agg e.row] (bv (knE m e)):=known_n hm 1048576 (Nat.le_refl _) e he k
end Go.Proofs.YtpmoibjpjlhcgaaGreatDoor
namespace Go.Proofs.YtpmoibjpjlhcgaaGreatDoor
open Go Go.Ab Go.Ab.Sy
theorem allKnown_s {m:List (Tx×Fu)}{g gm:Nat}{ag:Bool}{ks:List Value}{rs:List (List AV)}(hm:TM m ag ks rs)(N:Nat)(hN:N≤1048576)(ih: ∀l:List Sy.St,stSize l<N→ ∀k,TC g gm ag ks rs k 172 [.ptr ⟨0,10012,0⟩ g 0,.sl false 5 (stRows l)] (bv (knSs m l)))(l:List Sy.St)(hl:stSize l≤N)(k:Nat):TC g gm ag ks rs k 172 [.ptr ⟨0,10012,0⟩ g 0,.sl false 5 (stRows l)] (bv (knSs m l)):=by
 refine TC.of fun d hp1 b1 m1=>?_
 refine lim_hpcBk (k1:=k+1) (PR:=fun _ _=>False) rfl Tryz.func172 (X47_hpc (by decide)) rfl bodyOk_172 rfl rvs_172 ?_
 have hlen:l.length≤1048576:=by have:=stSize_len l;omega
 repeat' (first|(refine ZN ?_)|(refine Z2 ?_ ?_)|(intro h h';try simp[*,-h] at h'))
 refine W_loopS (n:=l.length) (fun s0 m' z=> ∃j:Nat,l.length - j≤m'∧j≤l.length∧z.fr 0= .ptr ⟨0,10012,0⟩ g 0∧z.fr 11= .sl false 5 (stRows l)∧z.fr 12=iv l.length∧z.fr 13=iv j∧z.hp ⟨0,10012,0⟩= .box g [.mp ⟨0,10010,0⟩ gm,.sc .nilFunc,.fn 246 [],.fn 246 [],.fn 1000248 [.ptr ⟨0,10012,0⟩ g 0],.fn 1000249 [.ptr ⟨0,10012,0⟩ g 0],.fn 246 [],.fn 1000250 [.ptr ⟨0,10012,0⟩ g 0],.fn 1000247 [.ptr ⟨0,10012,0⟩ g 0],.fn 1000247 [.ptr ⟨0,10012,0⟩ g 0],.fn 1000247 [.ptr ⟨0,10012,0⟩ g 0]] false∧z.hp ⟨0,10010,0⟩= .map gm ag ks rs false∧(∀d' i c,d'≤k→z.hp ⟨d',i,c⟩=hp1 ⟨d',i,c⟩)∧knSs m l=knSs m (l.drop j)) ⟨0,by omega,by omega,by simp[*],by simp[*],by simp[*],by simp[*],by simp[*],by simp[*],fun d' i c hd=>by have hd2:d'≠k+1:=(by omega);have hd3:d'≤k+1:=(by omega);simp[*],by simp⟩ ?_
 rintro m' ⟨fr,hp⟩ ⟨j,hm',hj,f0,fl,fn,fi,b2,m2,HK,hd⟩
 simp only at f0 fl fn fi b2 m2 HK
 clear b1 m1
 by_cases hlt:j<l.length
 ·have e1:(j:Int)<l.length:=by omega
  have hg:l[j]?=some l[j]:=List.getElem?_eq_getElem hlt
  have hwi:IntKind.i64.wrap ((j:Int)+1)=(j:Int)+1:=wrapN (by omega)
  rw[List.drop_eq_getElem_cons hlt,knSs_cn] at hd
  generalize l[j]=e at*
  have hgt:=st_get hg
  have hst:=stSize_get hg
  obtain⟨ek,ex,ee,eth,eel⟩:=e
  simp only[St_row_mk] at hgt
  simp only[St_size_mk] at hst
  rw[knS_mk] at hd
  have hel:ee.length≤1048576:=by have:=exSize_len ee;omega
  by_cases h6:ek=6
  ·subst h6
   cases hlk:Sy.look m ex with
   |some t=>
    obtain⟨jj,k1,k2,hag⟩:=hm.some hlk
    obtain⟨r1,r2,r3,r4,r5⟩:=t
    simp only[Fu_row_mk] at k2
    rw[hlk] at hd
    have HD:=Lib.hid hd
    have HK:=Lib.hid HK
    clear hg hlt hd
    repeat' (first|((with_reducible apply Wd_nil);(apply drawF_of (ps:=[(0,4),(1,4),(2,4),(3,4),(0,5),(1,5),(2,5),(3,5),(8,9),(0,10),(1,10),(2,10),(3,10),(4,10),(5,10),(6,10),(7,10),(8,10),(9,10),(9,11)]));(kernel_rfl);(iterate 9 refine Zk ?_);(iterate 11 refine Zs ?_);(exact Zz))|(refine Z1 ?_)|(refine Z2 ?_ ?_)|(intro h h';try simp[*,-h] at h'))
    generalize hg6:(hp ⟨k+1,6,0⟩).gen+1=g6 at*
    clear hg6
    refine W_loopS (n:=ee.length) (fun s0 m'' z=> ∃i:Nat,ee.length - i≤m''∧i≤ee.length∧z.fr 0= .ptr ⟨0,10012,0⟩ g 0∧z.fr 6= .ptr ⟨k+1,6,0⟩ g6 0∧z.fr 11= .sl false 5 (stRows l)∧z.fr 12=iv l.length∧z.fr 13=iv j∧z.fr 33= .sl false 5 (exRows ee)∧z.fr 34=iv ee.length∧z.fr 35=iv i∧z.hp ⟨k+1,6,0⟩= .box g6 [iz 6,tz ex.val,.sl false 5 (exRows ee),.sl false 5 (stRows eth),.sl false 5 (stRows eel)] false∧z.hp ⟨0,10012,0⟩= .box g [.mp ⟨0,10010,0⟩ gm,.sc .nilFunc,.fn 246 [],.fn 246 [],.fn 1000248 [.ptr ⟨0,10012,0⟩ g 0],.fn 1000249 [.ptr ⟨0,10012,0⟩ g 0],.fn 246 [],.fn 1000250 [.ptr ⟨0,10012,0⟩ g 0],.fn 1000247 [.ptr ⟨0,10012,0⟩ g 0],.fn 1000247 [.ptr ⟨0,10012,0⟩ g 0],.fn 1000247 [.ptr ⟨0,10012,0⟩ g 0]] false∧z.hp ⟨0,10010,0⟩= .map gm ag ks rs false∧(∀d' i c,d'≤k→z.hp ⟨d',i,c⟩=hp1 ⟨d',i,c⟩)∧knEs m ee=knEs m (ee.drop i)) ⟨0,by omega,by omega,by simp[*],by simp[*],by simp[*],by simp[*],by simp[*],by simp[*],by simp[*],by simp[*],by simp[*],by simp[*],by simp[*],fun d' i c hd=>by have hd2:d'≠k+1:=(by omega);simp[*];try exact HK.out d' i c hd,by simp⟩ ?_
    rintro m'' ⟨fr',hp'⟩ ⟨i,hmi,hi,f0',f6',f11',f12',f13',f33',f34',f35',b6',b2',m2',HK',hdi⟩
    simp only at f0' f6' f11' f12' f13' f33' f34' f35' b6' b2' m2' HK'
    clear f0 fl fn fi b2 m2 HK
    by_cases hlti:i<ee.length
    ·have e1i:(i:Int)<ee.length:=by omega
     have hgi:ee[i]?=some ee[i]:=List.getElem?_eq_getElem hlti
     have hwii:IntKind.i64.wrap ((i:Int)+1)=(i:Int)+1:=wrapN (by omega)
     rw[List.drop_eq_getElem_cons hlti,knEs_cn] at hdi
     generalize ee[i]=e at*
     have hgti:=ex_get hgi
     have hsti:=exSize_get hgi
     have tcE:=known_w (g:=g) (gm:=gm) hm e (by omega) (k+1)
     generalize knE m e=te at*
     obtain⟨xk,xo,xn,xx,xkids⟩:=e
     simp only[Ex_row_mk] at hgti tcE
     obtain⟨G1,a1,c1⟩:=tcE.rules
     have HDi:=Lib.hid hdi
     have HKi:=Lib.hid HK'
     clear hgi hlti hdi tcE HK'
     repeat' (first|(refine ZN ?_)|(refine Z2 ?_ ?_)|(intro h h';try simp[*,-h] at h'))
     all_goals have hdi:=HDi.out
     all_goals have HK':=HKi.out
     ·have hd:=HD.out
      exact⟨by rw[hd,hdi];simp[*],fun d' i c hd=>by have hd2:d'≠k+1:=(by omega);have hd3:d'≤k+1:=(by omega);simp[*]⟩
     ·exact⟨ee.length - (i+1),by omega,i+1,by omega,by omega,by simp[*],by simp[*],by simp[*],by simp[*],by simp[*],by simp[*],by simp[*],by simp[*],by simp[*],by simp[*],by simp[*],fun d' i c hd=>by have hd2:d'≠k+1:=(by omega);have hd3:d'≤k+1:=(by omega);simp[*],by rw[hdi];simp[*]⟩
    ·have e1i: ¬(i:Int)<ee.length:=by omega
     have hd2:knEs m ee=true:=by rw[hdi,List.drop_eq_nil_of_le (by omega),knEs_nl]
     have HKi:=Lib.hid HK'
     have HK2:=Lib.hid hd2
     clear hdi hd2 HK'
     have tcT:=ih eth (by omega) (k+1)
     have tcL:=ih eel (by omega) (k+1)
     generalize knSs m eth=bth at*
     generalize knSs m eel=bel at*
     obtain⟨G2,a2,c2⟩:=tcT.rules
     obtain⟨G3,a3,c3⟩:=tcL.rules
     clear tcT tcL
     repeat' (first|(refine ZN ?_)|(refine Z2 ?_ ?_)|(intro h h';try simp[*,-h] at h'))
     all_goals have hd:=HD.out
     all_goals have hd2:=HK2.out
     all_goals have HK':=HKi.out
     all_goals first
      |exact⟨l.length - (j+1),by omega,j+1,by omega,by omega,by simp[*],by simp[*],by simp[*],by simp[*],by simp[*],by simp[*],fun d' i c hd=>by have hd2:d'≠k+1:=(by omega);have hd3:d'≤k+1:=(by omega);simp[*],by rw[hd];simp[*]⟩
      |exact⟨by rw[hd];simp[*],fun d' i c hd=>by have hd2:d'≠k+1:=(by omega);have hd3:d'≤k+1:=(by omega);simp[*]⟩
      |(refine⟨l.length - (j+1),by omega,j+1,by omega,by omega,?_,?_,?_,?_,?_,?_,fun d' i c hd=>by have hd2:d'≠k+1:=(by omega);have hd3:d'≤k+1:=(by omega);simp[*],?_⟩<;>(first|(simp[*];done)|(rw[hd];simp[*];done)))
   |none=>
    have k1:=hm.none hlk
    rw[hlk] at hd
    have HD:=Lib.hid hd
    have HK:=Lib.hid HK
    clear hg hlt hd
    repeat' (first|((with_reducible apply Wd_nil);(apply drawF_of (ps:=[(0,4),(1,4),(2,4),(3,4),(0,5),(1,5),(2,5),(3,5),(8,9),(0,10),(1,10),(2,10),(3,10),(4,10),(5,10),(6,10),(7,10),(8,10),(9,10),(9,11)]));(kernel_rfl);(iterate 9 refine Zk ?_);(iterate 11 refine Zs ?_);(exact Zz))|(refine Z1 ?_)|(refine Z2 ?_ ?_)|(intro h h';try simp[*,-h] at h'))
    have hd:=HD.out
    have HK:=HK.out
    exact⟨by rw[hd];simp,fun d' i c hd=>by have hd2:d'≠k+1:=(by omega);have hd3:d'≤k+1:=(by omega);simp[*]⟩
  ·have HD:=Lib.hid hd
   have HK:=Lib.hid HK
   clear hg hlt hd
   repeat' (first|(refine ZN ?_)|(refine Z2 ?_ ?_)|(intro h h';try simp[*,-h] at h'))
   generalize hg6:(hp ⟨k+1,6,0⟩).gen+1=g6 at*
   clear hg6
   refine W_loopS (n:=ee.length) (fun s0 m'' z=> ∃i:Nat,ee.length - i≤m''∧i≤ee.length∧z.fr 0= .ptr ⟨0,10012,0⟩ g 0∧z.fr 6= .ptr ⟨k+1,6,0⟩ g6 0∧z.fr 11= .sl false 5 (stRows l)∧z.fr 12=iv l.length∧z.fr 13=iv j∧z.fr 33= .sl false 5 (exRows ee)∧z.fr 34=iv ee.length∧z.fr 35=iv i∧z.hp ⟨k+1,6,0⟩= .box g6 [iz ek,tz ex.val,.sl false 5 (exRows ee),.sl false 5 (stRows eth),.sl false 5 (stRows eel)] false∧z.hp ⟨0,10012,0⟩= .box g [.mp ⟨0,10010,0⟩ gm,.sc .nilFunc,.fn 246 [],.fn 246 [],.fn 1000248 [.ptr ⟨0,10012,0⟩ g 0],.fn 1000249 [.ptr ⟨0,10012,0⟩ g 0],.fn 246 [],.fn 1000250 [.ptr ⟨0,10012,0⟩ g 0],.fn 1000247 [.ptr ⟨0,10012,0⟩ g 0],.fn 1000247 [.ptr ⟨0,10012,0⟩ g 0],.fn 1000247 [.ptr ⟨0,10012,0⟩ g 0]] false∧z.hp ⟨0,10010,0⟩= .map gm ag ks rs false∧(∀d' i c,d'≤k→z.hp ⟨d',i,c⟩=hp1 ⟨d',i,c⟩)∧knEs m ee=knEs m (ee.drop i)) ⟨0,by omega,by omega,by simp[*],by simp[*],by simp[*],by simp[*],by simp[*],by simp[*],by simp[*],by simp[*],by simp[*],by simp[*],by simp[*],fun d' i c hd=>by have hd2:d'≠k+1:=(by omega);simp[*];try exact HK.out d' i c hd,by simp⟩ ?_
   rintro m'' ⟨fr',hp'⟩ ⟨i,hmi,hi,f0',f6',f11',f12',f13',f33',f34',f35',b6',b2',m2',HK',hdi⟩
   simp only at f0' f6' f11' f12' f13' f33' f34' f35' b6' b2' m2' HK'
   clear f0 fl fn fi b2 m2 HK
   by_cases hlti:i<ee.length
   ·have e1i:(i:Int)<ee.length:=by omega
    have hgi:ee[i]?=some ee[i]:=List.getElem?_eq_getElem hlti
    have hwii:IntKind.i64.wrap ((i:Int)+1)=(i:Int)+1:=wrapN (by omega)
    rw[List.drop_eq_getElem_cons hlti,knEs_cn] at hdi
    generalize ee[i]=e at*
    have hgti:=ex_get hgi
    have hsti:=exSize_get hgi
    have tcE:=known_w (g:=g) (gm:=gm) hm e (by omega) (k+1)
    generalize knE m e=te at*
    obtain⟨xk,xo,xn,xx,xkids⟩:=e
    simp only[Ex_row_mk] at hgti tcE
    obtain⟨G1,a1,c1⟩:=tcE.rules
    have HDi:=Lib.hid hdi
    have HKi:=Lib.hid HK'
    clear hgi hlti hdi tcE HK'
    repeat' (first|(refine ZN ?_)|(refine Z2 ?_ ?_)|(intro h h';try simp[*,-h] at h'))
    all_goals have hdi:=HDi.out
    all_goals have HK':=HKi.out
    ·have hd:=HD.out
     exact⟨by rw[hd,hdi];simp[*],fun d' i c hd=>by have hd2:d'≠k+1:=(by omega);have hd3:d'≤k+1:=(by omega);simp[*]⟩
    ·exact⟨ee.length - (i+1),by omega,i+1,by omega,by omega,by simp[*],by simp[*],by simp[*],by simp[*],by simp[*],by simp[*],by simp[*],by simp[*],by simp[*],by simp[*],by simp[*],fun d' i c hd=>by have hd2:d'≠k+1:=(by omega);have hd3:d'≤k+1:=(by omega);simp[*],by rw[hdi];simp[*]⟩
   ·have e1i: ¬(i:Int)<ee.length:=by omega
    have hd2:knEs m ee=true:=by rw[hdi,List.drop_eq_nil_of_le (by omega),knEs_nl]
    have HKi:=Lib.hid HK'
    have HK2:=Lib.hid hd2
    clear hdi hd2 HK'
    have tcT:=ih eth (by omega) (k+1)
    have tcL:=ih eel (by omega) (k+1)
    generalize knSs m eth=bth at*
    generalize knSs m eel=bel at*
    obtain⟨G2,a2,c2⟩:=tcT.rules
    obtain⟨G3,a3,c3⟩:=tcL.rules
    clear tcT tcL
    repeat' (first|(refine ZN ?_)|(refine Z2 ?_ ?_)|(intro h h';try simp[*,-h] at h'))
    all_goals have hd:=HD.out
    all_goals have hd2:=HK2.out
    all_goals have HK':=HKi.out
    all_goals first
     |exact⟨l.length - (j+1),by omega,j+1,by omega,by omega,by simp[*],by simp[*],by simp[*],by simp[*],by simp[*],by simp[*],fun d' i c hd=>by have hd2:d'≠k+1:=(by omega);have hd3:d'≤k+1:=(by omega);simp[*],by rw[hd];simp[*]⟩
     |exact⟨by rw[hd];simp[*],fun d' i c hd=>by have hd2:d'≠k+1:=(by omega);have hd3:d'≤k+1:=(by omega);simp[*]⟩
     |(refine⟨l.length - (j+1),by omega,j+1,by omega,by omega,?_,?_,?_,?_,?_,?_,fun d' i c hd=>by have hd2:d'≠k+1:=(by omega);have hd3:d'≤k+1:=(by omega);simp[*],?_⟩<;>(first|(simp[*];done)|(rw[hd];simp[*];done)))
 ·have e1: ¬(j:Int)<l.length:=by omega
  have hd2:knSs m l=true:=by rw[hd,List.drop_eq_nil_of_le (by omega),knSs_nl]
  clear hd
  repeat' (first|(refine ZN ?_)|(refine Z2 ?_ ?_)|(intro h h';try simp[*,-h] at h'))
  exact⟨by rw[hd2],HK⟩
theorem allKnown_n {m:List (Tx×Fu)}{g gm:Nat}{ag:Bool}{ks:List Value}{rs:List (List AV)}(hm:TM m ag ks rs): ∀N,N≤1048576→ ∀l:List Sy.St,stSize l≤N→ ∀k:Nat,TC g gm ag ks rs k 172 [.ptr ⟨0,10012,0⟩ g 0,.sl false 5 (stRows l)] (bv (knSs m l))
 |0,h,l,hl,k=>allKnown_s hm 0 h (fun l h'=>by omega) l hl k
 |N+1,h,l,hl,k=>allKnown_s hm (N+1) h (fun l h' k=>allKnown_n hm N (by omega) l (by omega) k) l hl k
theorem allKnown_w {m:List (Tx×Fu)}{g gm:Nat}{ag:Bool}{ks:List Value}{rs:List (List AV)}(hm:TM m ag ks rs)(l:List Sy.St)(hl:stSize l≤1048576)(k:Nat):TC g gm ag ks rs k 172 [.ptr ⟨0,10012,0⟩ g 0,.sl false 5 (stRows l)] (bv (knSs m l)):=allKnown_n hm 1048576 (Nat.le_refl _) l hl k
end Go.Proofs.YtpmoibjpjlhcgaaGreatDoor
namespace Go.Proofs.YtpmoibjpjlhcgaaGreatDoor
open Go Go.Ab Go.Ab.Sy
theorem allRight_s {m:List (Tx×Fu)}{g gm:Nat}{ag:Bool}{ks:List Value}{rs:List (List AV)}(hm:TM m ag ks rs)(fnm:Tx)(fps fls:List Tx)(fw:Bool)(fb:List Sy.St)(N:Nat)(hN:N≤1048576)(ih: ∀l:List Sy.St,stSize l<N→ ∀k,TC g gm ag ks rs k 173 [.ptr ⟨0,10012,0⟩ g 0,.agg [tz fnm.val,.sl false 1 (txRows fps),.sl false 1 (txRows fls),bz fw,.sl false 5 (stRows fb)],.sl false 5 (stRows l)] (bv (tySs m fw l)))(l:List Sy.St)(hl:stSize l≤N)(k:Nat):TC g gm ag ks rs k 173 [.ptr ⟨0,10012,0⟩ g 0,.agg [tz fnm.val,.sl false 1 (txRows fps),.sl false 1 (txRows fls),bz fw,.sl false 5 (stRows fb)],.sl false 5 (stRows l)] (bv (tySs m fw l)):=by
 refine TC.of fun d hp1 b1 m1=>?_
 refine lim_hpcBk (k1:=k+1) (PR:=fun _ _=>False) rfl Tryz.func173 (X47_hpc (by decide)) rfl bodyOk_173 rfl rvs_173 ?_
 have hlen:l.length≤1048576:=by have:=stSize_len l;omega
 repeat' (first|(refine Zp ?_)|(refine Zr ?_ ?_)|(intro h h';try simp[*,-h] at h'))
 generalize hg4:(hp1 ⟨k+1,4,0⟩).gen+1=g4 at*
 clear hg4
 refine W_loopS (n:=l.length) (fun s0 m' z=> ∃j:Nat,l.length - j≤m'∧j≤l.length∧z.fr 0= .ptr ⟨0,10012,0⟩ g 0∧z.fr 10= .sl false 5 (stRows l)∧z.fr 11=iv l.length∧z.fr 12=iv j∧z.hp ⟨0,10012,0⟩= .box g [.mp ⟨0,10010,0⟩ gm,.sc .nilFunc,.fn 246 [],.fn 246 [],.fn 1000248 [.ptr ⟨0,10012,0⟩ g 0],.fn 1000249 [.ptr ⟨0,10012,0⟩ g 0],.fn 246 [],.fn 1000250 [.ptr ⟨0,10012,0⟩ g 0],.fn 1000247 [.ptr ⟨0,10012,0⟩ g 0],.fn 1000247 [.ptr ⟨0,10012,0⟩ g 0],.fn 1000247 [.ptr ⟨0,10012,0⟩ g 0]] false∧z.hp ⟨0,10010,0⟩= .map gm ag ks rs false∧(∀d' i c,d'≤k→z.hp ⟨d',i,c⟩=hp1 ⟨d',i,c⟩)∧tySs m fw l=tySs m fw (l.drop j)∧z.fr 4= .ptr ⟨k+1,4,0⟩ g4 0∧z.hp ⟨k+1,4,0⟩= .box g4 [tz fnm.val,.sl false 1 (txRows fps),.sl false 1 (txRows fls),bz fw,.sl false 5 (stRows fb)] false) ⟨0,by omega,by omega,by simp (maxDischargeDepth:=8) [*],by simp (maxDischargeDepth:=8) [*],by simp (maxDischargeDepth:=8) [*],by simp (maxDischargeDepth:=8) [*],by simp (maxDischargeDepth:=8) [*],by simp (maxDischargeDepth:=8) [*],fun d' i c hd=>by have hd2:d'≠k+1:=(by omega);have hd3:d'≤k+1:=(by omega);simp (maxDischargeDepth:=8) [*],by simp,by simp (maxDischargeDepth:=8) [*],by simp (maxDischargeDepth:=8) [*]⟩ ?_
 rintro m' ⟨fr,hp⟩ ⟨j,hm',hj,f0,fl,fn,fi,b2,m2,HK,hd,f4,b4⟩
 simp only at f0 fl fn fi b2 m2 HK f4 b4
 clear b1 m1
 by_cases hlt:j<l.length
 ·have e1:(j:Int)<l.length:=by omega
  have hg:l[j]?=some l[j]:=List.getElem?_eq_getElem hlt
  have hwi:IntKind.i64.wrap ((j:Int)+1)=(j:Int)+1:=wrapN (by omega)
  rw[List.drop_eq_getElem_cons hlt,tySs_cn] at hd
  generalize l[j]=e at*
  have hgt:=st_get hg
  have hst:=stSize_get hg
  obtain⟨ek,ex,ee,eth,eel⟩:=e
  simp only[St_row_mk] at hgt
  simp only[St_size_mk] at hst
  rw[tyS_mk] at hd
  have hel:ee.length≤1048576:=by have:=exSize_len ee;omega
  obtain(rfl|rfl|rfl|rfl|⟨n4,n5,n6,n7⟩):ek=4∨ek=5∨ek=6∨ek=7∨(ek≠4∧ek≠5∧ek≠6∧ek≠7):=by omega
  ·rw[if_pos (by simp:((4:Int)=4∨(4:Int)=5))] at hd
   have tcA:=tyAll_w (g:=g) (gm:=gm) hm ee (by omega) 2 (k+1)
   have tcT:=ih eth (by omega) (k+1)
   have tcL:=ih eel (by omega) (k+1)
   have HD:=Lib.hid hd
   generalize tyAll m ee 2=ba at*
   generalize tySs m fw eth=bth at*
   generalize tySs m fw eel=bel at*
   clear hd
   have hd:=HD.out
   obtain⟨G1,a1,c1⟩:=tcA.rules
   obtain⟨G2,a2,c2⟩:=tcT.rules
   obtain⟨G3,a3,c3⟩:=tcL.rules
   clear tcA tcT tcL HD
   have HD:=Lib.hid hd
   have HK:=Lib.hid HK
   clear hd hg hlt
   repeat' (first|(refine Zp ?_)|(refine Zr ?_ ?_)|(intro h h';try simp[*,-h] at h'))
   all_goals have hd:=HD.out
   all_goals have HK:=HK.out
   all_goals first
    |exact⟨l.length - (j+1),by omega,j+1,by omega,by omega,by simp (maxDischargeDepth:=8) [*],by simp (maxDischargeDepth:=8) [*],by simp (maxDischargeDepth:=8) [*],by simp (maxDischargeDepth:=8) [*],by simp (maxDischargeDepth:=8) [*],by simp (maxDischargeDepth:=8) [*],fun d' i c hd=>by have hd2:d'≠k+1:=(by omega);have hd3:d'≤k+1:=(by omega);simp (maxDischargeDepth:=8) [*],by rw[hd];simp (maxDischargeDepth:=8) [*],by simp (maxDischargeDepth:=8) [*],by simp (maxDischargeDepth:=8) [*]⟩
    |exact⟨by rw[hd];simp (maxDischargeDepth:=8) [*],fun d' i c hd=>by have hd2:d'≠k+1:=(by omega);have hd3:d'≤k+1:=(by omega);simp (maxDischargeDepth:=8) [*]⟩
  ·rw[if_pos (by simp:((5:Int)=4∨(5:Int)=5))] at hd
   have tcA:=tyAll_w (g:=g) (gm:=gm) hm ee (by omega) 2 (k+1)
   have tcT:=ih eth (by omega) (k+1)
   have tcL:=ih eel (by omega) (k+1)
   have HD:=Lib.hid hd
   generalize tyAll m ee 2=ba at*
   generalize tySs m fw eth=bth at*
   generalize tySs m fw eel=bel at*
   clear hd
   have hd:=HD.out
   obtain⟨G1,a1,c1⟩:=tcA.rules
   obtain⟨G2,a2,c2⟩:=tcT.rules
   obtain⟨G3,a3,c3⟩:=tcL.rules
   clear tcA tcT tcL HD
   have HD:=Lib.hid hd
   have HK:=Lib.hid HK
   clear hd hg hlt
   repeat' (first|(refine Zp ?_)|(refine Zr ?_ ?_)|(intro h h';try simp[*,-h] at h'))
   all_goals have hd:=HD.out
   all_goals have HK:=HK.out
   all_goals first
    |exact⟨l.length - (j+1),by omega,j+1,by omega,by omega,by simp (maxDischargeDepth:=8) [*],by simp (maxDischargeDepth:=8) [*],by simp (maxDischargeDepth:=8) [*],by simp (maxDischargeDepth:=8) [*],by simp (maxDischargeDepth:=8) [*],by simp (maxDischargeDepth:=8) [*],fun d' i c hd=>by have hd2:d'≠k+1:=(by omega);have hd3:d'≤k+1:=(by omega);simp (maxDischargeDepth:=8) [*],by rw[hd];simp (maxDischargeDepth:=8) [*],by simp (maxDischargeDepth:=8) [*],by simp (maxDischargeDepth:=8) [*]⟩
    |exact⟨by rw[hd];simp (maxDischargeDepth:=8) [*],fun d' i c hd=>by have hd2:d'≠k+1:=(by omega);have hd3:d'≤k+1:=(by omega);simp (maxDischargeDepth:=8) [*]⟩
  ·rw[if_neg (by simp: ¬((6:Int)=4∨(6:Int)=5))] at hd
   have tcA:=tyAll_w (g:=g) (gm:=gm) hm ee (by omega) 1 (k+1)
   have tcT:=ih eth (by omega) (k+1)
   have tcL:=ih eel (by omega) (k+1)
   have HD:=Lib.hid hd
   generalize tyAll m ee 1=ba at*
   generalize tySs m fw eth=bth at*
   generalize tySs m fw eel=bel at*
   clear hd
   have hd:=HD.out
   obtain⟨G1,a1,c1⟩:=tcA.rules
   obtain⟨G2,a2,c2⟩:=tcT.rules
   obtain⟨G3,a3,c3⟩:=tcL.rules
   clear tcA tcT tcL HD
   have HD:=Lib.hid hd
   have HK:=Lib.hid HK
   clear hd hg hlt
   have hd:=HD.out
   unfold wordOf at hd
   cases hlk:Sy.look m ex with
   |some t=>
    obtain⟨jj,k1,k2,hag⟩:=hm.some hlk
    obtain⟨r1,r2,r3,r4,r5⟩:=t
    simp only[Fu_row_mk] at k2
    rw[hlk] at hd
    simp only at hd
    have HD:=Lib.hid hd
    clear hd
    repeat' (first|(refine Zp ?_)|(refine Zr ?_ ?_)|(intro h h';try simp[*,-h] at h'))
    all_goals have hd:=HD.out
    all_goals have HK:=HK.out
    all_goals first
     |exact⟨l.length - (j+1),by omega,j+1,by omega,by omega,by simp (maxDischargeDepth:=8) [*],by simp (maxDischargeDepth:=8) [*],by simp (maxDischargeDepth:=8) [*],by simp (maxDischargeDepth:=8) [*],by simp (maxDischargeDepth:=8) [*],by simp (maxDischargeDepth:=8) [*],fun d' i c hd=>by have hd2:d'≠k+1:=(by omega);have hd3:d'≤k+1:=(by omega);simp (maxDischargeDepth:=8) [*],by rw[hd];simp (maxDischargeDepth:=8) [*],by simp (maxDischargeDepth:=8) [*],by simp (maxDischargeDepth:=8) [*]⟩
     |exact⟨by rw[hd];simp (maxDischargeDepth:=8) [*],fun d' i c hd=>by have hd2:d'≠k+1:=(by omega);have hd3:d'≤k+1:=(by omega);simp (maxDischargeDepth:=8) [*]⟩
   |none=>
    have k1:=hm.none hlk
    rw[hlk] at hd
    simp only at hd
    have HD:=Lib.hid hd
    clear hd
    repeat' (first|(refine Zp ?_)|(refine Zr ?_ ?_)|(intro h h';try simp[*,-h] at h'))
    all_goals have hd:=HD.out
    all_goals have HK:=HK.out
    all_goals first
     |exact⟨l.length - (j+1),by omega,j+1,by omega,by omega,by simp (maxDischargeDepth:=8) [*],by simp (maxDischargeDepth:=8) [*],by simp (maxDischargeDepth:=8) [*],by simp (maxDischargeDepth:=8) [*],by simp (maxDischargeDepth:=8) [*],by simp (maxDischargeDepth:=8) [*],fun d' i c hd=>by have hd2:d'≠k+1:=(by omega);have hd3:d'≤k+1:=(by omega);simp (maxDischargeDepth:=8) [*],by rw[hd];simp (maxDischargeDepth:=8) [*],by simp (maxDischargeDepth:=8) [*],by simp (maxDischargeDepth:=8) [*]⟩
     |exact⟨by rw[hd];simp (maxDischargeDepth:=8) [*],fun d' i c hd=>by have hd2:d'≠k+1:=(by omega);have hd3:d'≤k+1:=(by omega);simp (maxDischargeDepth:=8) [*]⟩
  ·rw[if_neg (by simp: ¬((7:Int)=4∨(7:Int)=5))] at hd
   cases hee:ee with
   |nil=>
    subst hee
    have tcA:=tyAll_w (g:=g) (gm:=gm) hm [] (by omega) 1 (k+1)
    have tcT:=ih eth (by omega) (k+1)
    have tcL:=ih eel (by omega) (k+1)
    have HD:=Lib.hid hd
    generalize tyAll m [] 1=ba at*
    generalize tySs m fw eth=bth at*
    generalize tySs m fw eel=bel at*
    clear hd
    have hd:=HD.out
    obtain⟨G1,a1,c1⟩:=tcA.rules
    obtain⟨G2,a2,c2⟩:=tcT.rules
    obtain⟨G3,a3,c3⟩:=tcL.rules
    clear tcA tcT tcL HD
    have HD:=Lib.hid hd
    have HK:=Lib.hid HK
    clear hd hg hlt
    simp only[exRows_nil] at a1
    repeat' (first|(refine Zp ?_)|(refine Zr ?_ ?_)|(intro h h';try simp[*,-h] at h'))
    all_goals have hd:=HD.out
    all_goals have HK:=HK.out
    all_goals first
     |exact⟨l.length - (j+1),by omega,j+1,by omega,by omega,by simp (maxDischargeDepth:=8) [*],by simp (maxDischargeDepth:=8) [*],by simp (maxDischargeDepth:=8) [*],by simp (maxDischargeDepth:=8) [*],by simp (maxDischargeDepth:=8) [*],by simp (maxDischargeDepth:=8) [*],fun d' i c hd=>by have hd2:d'≠k+1:=(by omega);have hd3:d'≤k+1:=(by omega);simp (maxDischargeDepth:=8) [*],by rw[hd];simp (maxDischargeDepth:=8) [*],by simp (maxDischargeDepth:=8) [*],by simp (maxDischargeDepth:=8) [*]⟩
     |exact⟨by rw[hd];simp (maxDischargeDepth:=8) [*],fun d' i c hd=>by have hd2:d'≠k+1:=(by omega);have hd3:d'≤k+1:=(by omega);simp (maxDischargeDepth:=8) [*]⟩
   |cons e0 ee0=>
    have hne:(ee.length==0)=false:=by rw[hee];rfl
    have hpos:(0:Int)<ee.length:=by rw[hee];simp
    have hne2:ee≠[]:=by rw[hee];simp
    rw[←hee] at*
    rw[hne] at hd
    clear hee
    obtain rfl|rfl:fw=false∨fw=true:=by cases fw<;>simp
    ·skip
     have tcA:=tyAll_w (g:=g) (gm:=gm) hm ee (by omega) 1 (k+1)
     have tcT:=ih eth (by omega) (k+1)
     have tcL:=ih eel (by omega) (k+1)
     have HD:=Lib.hid hd
     generalize tyAll m ee 1=ba at*
     generalize tySs m false eth=bth at*
     generalize tySs m false eel=bel at*
     clear hd
     have hd:=HD.out
     obtain⟨G1,a1,c1⟩:=tcA.rules
     obtain⟨G2,a2,c2⟩:=tcT.rules
     obtain⟨G3,a3,c3⟩:=tcL.rules
     clear tcA tcT tcL HD
     have HD:=Lib.hid hd
     have HK:=Lib.hid HK
     clear hd hg hlt
     repeat' (first|(refine Zp ?_)|(refine Zr ?_ ?_)|(intro h h';try simp[*,-h] at h'))
     all_goals have hd:=HD.out
     all_goals have HK:=HK.out
     all_goals first
      |exact⟨l.length - (j+1),by omega,j+1,by omega,by omega,by simp (maxDischargeDepth:=8) [*],by simp (maxDischargeDepth:=8) [*],by simp (maxDischargeDepth:=8) [*],by simp (maxDischargeDepth:=8) [*],by simp (maxDischargeDepth:=8) [*],by simp (maxDischargeDepth:=8) [*],fun d' i c hd=>by have hd2:d'≠k+1:=(by omega);have hd3:d'≤k+1:=(by omega);simp (maxDischargeDepth:=8) [*],by rw[hd];simp (maxDischargeDepth:=8) [*],by simp (maxDischargeDepth:=8) [*],by simp (maxDischargeDepth:=8) [*]⟩
      |exact⟨by rw[hd];simp (maxDischargeDepth:=8) [*],fun d' i c hd=>by have hd2:d'≠k+1:=(by omega);have hd3:d'≤k+1:=(by omega);simp (maxDischargeDepth:=8) [*]⟩
    ·skip
     have tcA:=tyAll_w (g:=g) (gm:=gm) hm ee (by omega) 1 (k+1)
     have tcT:=ih eth (by omega) (k+1)
     have tcL:=ih eel (by omega) (k+1)
     have HD:=Lib.hid hd
     generalize tyAll m ee 1=ba at*
     generalize tySs m true eth=bth at*
     generalize tySs m true eel=bel at*
     clear hd
     have hd:=HD.out
     obtain⟨G1,a1,c1⟩:=tcA.rules
     obtain⟨G2,a2,c2⟩:=tcT.rules
     obtain⟨G3,a3,c3⟩:=tcL.rules
     clear tcA tcT tcL HD
     have HD:=Lib.hid hd
     have HK:=Lib.hid HK
     clear hd hg hlt
     repeat' (first|(refine Zp ?_)|(refine Zr ?_ ?_)|(intro h h';try simp[*,-h] at h'))
     all_goals have hd:=HD.out
     all_goals have HK:=HK.out
     all_goals first
      |exact⟨l.length - (j+1),by omega,j+1,by omega,by omega,by simp (maxDischargeDepth:=8) [*],by simp (maxDischargeDepth:=8) [*],by simp (maxDischargeDepth:=8) [*],by simp (maxDischargeDepth:=8) [*],by simp (maxDischargeDepth:=8) [*],by simp (maxDischargeDepth:=8) [*],fun d' i c hd=>by have hd2:d'≠k+1:=(by omega);have hd3:d'≤k+1:=(by omega);simp (maxDischargeDepth:=8) [*],by rw[hd];simp (maxDischargeDepth:=8) [*],by simp (maxDischargeDepth:=8) [*],by simp (maxDischargeDepth:=8) [*]⟩
      |exact⟨by rw[hd];simp (maxDischargeDepth:=8) [*],fun d' i c hd=>by have hd2:d'≠k+1:=(by omega);have hd3:d'≤k+1:=(by omega);simp (maxDischargeDepth:=8) [*]⟩
  ·rw[if_neg (by simp[n4,n5]: ¬(ek=4∨ek=5))] at hd
   have tcA:=tyAll_w (g:=g) (gm:=gm) hm ee (by omega) 1 (k+1)
   have tcT:=ih eth (by omega) (k+1)
   have tcL:=ih eel (by omega) (k+1)
   have HD:=Lib.hid hd
   generalize tyAll m ee 1=ba at*
   generalize tySs m fw eth=bth at*
   generalize tySs m fw eel=bel at*
   clear hd
   have hd:=HD.out
   obtain⟨G1,a1,c1⟩:=tcA.rules
   obtain⟨G2,a2,c2⟩:=tcT.rules
   obtain⟨G3,a3,c3⟩:=tcL.rules
   clear tcA tcT tcL HD
   have HD:=Lib.hid hd
   have HK:=Lib.hid HK
   clear hd hg hlt
   repeat' (first|(refine Zp ?_)|(refine Zr ?_ ?_)|(intro h h';try simp[*,-h] at h'))
   all_goals have hd:=HD.out
   all_goals have HK:=HK.out
   all_goals first
    |exact⟨l.length - (j+1),by omega,j+1,by omega,by omega,by simp (maxDischargeDepth:=8) [*],by simp (maxDischargeDepth:=8) [*],by simp (maxDischargeDepth:=8) [*],by simp (maxDischargeDepth:=8) [*],by simp (maxDischargeDepth:=8) [*],by simp (maxDischargeDepth:=8) [*],fun d' i c hd=>by have hd2:d'≠k+1:=(by omega);have hd3:d'≤k+1:=(by omega);simp (maxDischargeDepth:=8) [*],by rw[hd];simp (maxDischargeDepth:=8) [*],by simp (maxDischargeDepth:=8) [*],by simp (maxDischargeDepth:=8) [*]⟩
    |exact⟨by rw[hd];simp (maxDischargeDepth:=8) [*],fun d' i c hd=>by have hd2:d'≠k+1:=(by omega);have hd3:d'≤k+1:=(by omega);simp (maxDischargeDepth:=8) [*]⟩
 ·have e1: ¬(j:Int)<l.length:=by omega
  have hd2:tySs m fw l=true:=by rw[hd,List.drop_eq_nil_of_le (by omega),tySs_nl]
  clear hd
  repeat' (first|(refine Zp ?_)|(refine Zr ?_ ?_)|(intro h h';try simp[*,-h] at h'))
  exact⟨by rw[hd2],HK⟩
theorem allRight_n {m:List (Tx×Fu)}{g gm:Nat}{ag:Bool}{ks:List Value}{rs:List (List AV)}(hm:TM m ag ks rs)(fnm:Tx)(fps fls:List Tx)(fw:Bool)(fb:List Sy.St): ∀N,N≤1048576→ ∀l:List Sy.St,stSize l≤N→ ∀k:Nat,TC g gm ag ks rs k 173 [.ptr ⟨0,10012,0⟩ g 0,.agg [tz fnm.val,.sl false 1 (txRows fps),.sl false 1 (txRows fls),bz fw,.sl false 5 (stRows fb)],.sl false 5 (stRows l)] (bv (tySs m fw l))
 |0,h,l,hl,k=>allRight_s hm fnm fps fls fw fb 0 h (fun l h'=>by omega) l hl k
 |N+1,h,l,hl,k=>allRight_s hm fnm fps fls fw fb (N+1) h (fun l h' k=>allRight_n hm fnm fps fls fw fb N (by omega) l (by omega) k) l hl k
theorem allRight_w {m:List (Tx×Fu)}{g gm:Nat}{ag:Bool}{ks:List Value}{rs:List (List AV)}(hm:TM m ag ks rs)(fnm:Tx)(fps fls:List Tx)(fw:Bool)(fb:List Sy.St)(l:List Sy.St)(hl:stSize l≤1048576)(k:Nat):TC g gm ag ks rs k 173 [.ptr ⟨0,10012,0⟩ g 0,.agg [tz fnm.val,.sl false 1 (txRows fps),.sl false 1 (txRows fls),bz fw,.sl false 5 (stRows fb)],.sl false 5 (stRows l)] (bv (tySs m fw l)):=allRight_n hm fnm fps fls fw fb 1048576 (Nat.le_refl _) l hl k
end Go.Proofs.YtpmoibjpjlhcgaaGreatDoor
namespace Go.Proofs.YtpmoibjpjlhcgaaGreatDoor
open Go Go.Ab Go.Ab.Sy
theorem rules_hb (vs:List Tx)(ar:List (Tx×Int))(fs:List Fu)(hs:fuSize fs≤1048576){hp1:Hp}:HB Tryz.prog E47 (Lm X47) 0 9 171 [.agg [.sl false 1 (txRows vs),.sl false 2 (arRows ar),.sl false 5 (fs.map Fu.row)]] hp1 (fun v hp2=> ∃g gm ag ks rs,v= .ptr ⟨0,10012,0⟩ g 0∧hp2 ⟨0,10012,0⟩= .box g [.mp ⟨0,10010,0⟩ gm,.sc .nilFunc,.fn 246 [],.fn 246 [],.fn 1000248 [.ptr ⟨0,10012,0⟩ g 0],.fn 1000249 [.ptr ⟨0,10012,0⟩ g 0],.fn 246 [],.fn 1000250 [.ptr ⟨0,10012,0⟩ g 0],.fn 1000247 [.ptr ⟨0,10012,0⟩ g 0],.fn 1000247 [.ptr ⟨0,10012,0⟩ g 0],.fn 1000247 [.ptr ⟨0,10012,0⟩ g 0]] false∧hp2 ⟨0,10010,0⟩= .map gm ag ks rs false∧TM (funM fs) ag ks rs∧ ∀d i c,i<10000→hp2 ⟨d,i,c⟩=hp1 ⟨d,i,c⟩) (fun _ _=>False):=by
 obtain⟨v,hp2,h1,g,gm,h2,h3,h4,h5⟩:=rulesOf_w vs ar fs hs hp1
 exact .inl ⟨v,hp2,h1,g,gm,_,_,_,h2,h3,h4,⟨rfl,rfl,rfl⟩,h5⟩
theorem typingCheck_w (vs:List Tx)(ar:List (Tx×Int))(fs:List Fu)(hs:fuSize fs≤1048576):(Lm X47).dat 118 [.agg [.sl false 1 (txRows vs),.sl false 2 (arRows ar),.sl false 5 (fs.map Fu.row)]]=some [iv (typingS ⟨vs,ar,fs⟩)]:=by
 refine fnW (P:=Tryz.prog) (E:=E47) (X:=X47) Tryz.func118 (X47_dat _ _) rfl bodyOk_118 rfl rtys_118 rvs_118 ?_
 have hfl:=fuSize_len fs
 repeat' (first|(refine Zp ?_)|(refine Zr ?_ ?_)|(intro h h';try simp[*,-h] at h')|((with_reducible apply Wo_call (f:=171));(exact Z6);(exact okFn_171);(decide);(exact rfl);(exact Z6);(apply rules_hb vs ar fs hs);skip;rotate_left;(rintro _ _ h;exact h.elim);(rintro _ hp2 ⟨g,gm,ag,ks,rs,rfl,bx,mx,hm,hk⟩))|fail)
 have hts:typingS ⟨vs,ar,fs⟩=if fs.all (fun f:Fu=>knSs (funM fs) f.body)=false then 4 else if fs.all (fun f:Fu=>tySs (funM fs) f.word f.body)=false then 5 else 0:=rfl
 refine W_loopS (n:=fs.length) (fun s0 m' z=> ∃j:Nat,fs.length - j≤m'∧j≤fs.length∧z.fr 1= .ptr ⟨0,1,0⟩ 1 0∧z.fr 3= .ptr ⟨0,10012,0⟩ g 0∧z.fr 11= .sl false 5 (fs.map Fu.row)∧z.fr 12=iv fs.length∧z.fr 13=iv j∧z.hp ⟨0,1,0⟩= .box 1 [.sl false 1 (txRows vs),.sl false 2 (arRows ar),.sl false 5 (fs.map Fu.row)] false∧z.hp ⟨0,10012,0⟩= .box g [.mp ⟨0,10010,0⟩ gm,.sc .nilFunc,.fn 246 [],.fn 246 [],.fn 1000248 [.ptr ⟨0,10012,0⟩ g 0],.fn 1000249 [.ptr ⟨0,10012,0⟩ g 0],.fn 246 [],.fn 1000250 [.ptr ⟨0,10012,0⟩ g 0],.fn 1000247 [.ptr ⟨0,10012,0⟩ g 0],.fn 1000247 [.ptr ⟨0,10012,0⟩ g 0],.fn 1000247 [.ptr ⟨0,10012,0⟩ g 0]] false∧z.hp ⟨0,10010,0⟩= .map gm ag ks rs false∧fs.all (fun f:Fu=>knSs (funM fs) f.body)=(fs.drop j).all (fun f:Fu=>knSs (funM fs) f.body)) ⟨0,by omega,by omega,by simp (maxDischargeDepth:=8) [*],by simp (maxDischargeDepth:=8) [*],by simp (maxDischargeDepth:=8) [*],by simp (maxDischargeDepth:=8) [*],by simp (maxDischargeDepth:=8) [*],by simp (maxDischargeDepth:=8) [*],by simp (maxDischargeDepth:=8) [*],by simp (maxDischargeDepth:=8) [*],by rw[List.drop_zero]⟩ ?_
 rintro m' ⟨fr,hp⟩ ⟨j,hm',hj,f1,f3,fl,fn,fi,b1,b2,m2,hd⟩
 simp only at f1 f3 fl fn fi b1 b2 m2
 clear hk bx mx
 by_cases hlt:j<fs.length
 ·have e1:(j:Int)<fs.length:=by omega
  have hg:fs[j]?=some fs[j]:=List.getElem?_eq_getElem hlt
  have hwi:IntKind.i64.wrap ((j:Int)+1)=(j:Int)+1:=wrapN (by omega)
  rw[List.drop_eq_getElem_cons hlt,List.all_cons] at hd
  generalize fs[j]=t at*
  have hgt:=fu_get hg
  have hst:=fuSize_get hg
  obtain⟨t1,t2,t3,t4,t5⟩:=t
  simp only[Fu_row_mk] at hgt
  simp only[Fu_size_mk] at hst
  have tcE:=allKnown_w (g:=g) (gm:=gm) hm t5 (by omega) 0
  simp only at hd
  generalize knSs (funM fs) t5=te at*
  obtain⟨G1,a1,c1⟩:=tcE.rules
  have HD:=Lib.hid hd
  clear hg hlt hd tcE
  repeat' (first|(refine Zp ?_)|(refine Zr ?_ ?_)|(intro h h';try simp[*,-h] at h'))
  all_goals have hd:=HD.out
  ·exact by rw[hts,hd];simp (maxDischargeDepth:=8) [*]
  ·exact⟨fs.length - (j+1),by omega,j+1,by omega,by omega,by simp (maxDischargeDepth:=8) [*],by simp (maxDischargeDepth:=8) [*],by simp (maxDischargeDepth:=8) [*],by simp (maxDischargeDepth:=8) [*],by simp (maxDischargeDepth:=8) [*],by simp (maxDischargeDepth:=8) [*],by simp (maxDischargeDepth:=8) [*],by simp (maxDischargeDepth:=8) [*],by rw[hd];simp (maxDischargeDepth:=8) [*]⟩
 have e1: ¬(j:Int)<fs.length:=by omega
 have hd1:fs.all (fun f:Fu=>knSs (funM fs) f.body)=true:=by rw[hd,List.drop_eq_nil_of_le (by omega)];rfl
 rw[hd1] at hts
 clear hd hd1
 repeat' (first|(refine Zp ?_)|(refine Zr ?_ ?_)|(intro h h';try simp[*,-h] at h'))
 clear e1
 have b1':=b1
 refine W_loopS (n:=fs.length) (fun s0 m' z=> ∃j:Nat,fs.length - j≤m'∧j≤fs.length∧z.fr 1= .ptr ⟨0,1,0⟩ 1 0∧z.fr 3= .ptr ⟨0,10012,0⟩ g 0∧z.fr 24= .sl false 5 (fs.map Fu.row)∧z.fr 25=iv fs.length∧z.fr 26=iv j∧z.hp ⟨0,1,0⟩= .box 1 [.sl false 1 (txRows vs),.sl false 2 (arRows ar),.sl false 5 (fs.map Fu.row)] false∧z.hp ⟨0,10012,0⟩= .box g [.mp ⟨0,10010,0⟩ gm,.sc .nilFunc,.fn 246 [],.fn 246 [],.fn 1000248 [.ptr ⟨0,10012,0⟩ g 0],.fn 1000249 [.ptr ⟨0,10012,0⟩ g 0],.fn 246 [],.fn 1000250 [.ptr ⟨0,10012,0⟩ g 0],.fn 1000247 [.ptr ⟨0,10012,0⟩ g 0],.fn 1000247 [.ptr ⟨0,10012,0⟩ g 0],.fn 1000247 [.ptr ⟨0,10012,0⟩ g 0]] false∧z.hp ⟨0,10010,0⟩= .map gm ag ks rs false∧fs.all (fun f:Fu=>tySs (funM fs) f.word f.body)=(fs.drop j).all (fun f:Fu=>tySs (funM fs) f.word f.body)) ⟨0,by omega,by omega,by simp (maxDischargeDepth:=8) [*],by simp (maxDischargeDepth:=8) [*],by simp (maxDischargeDepth:=8) [*],by simp (maxDischargeDepth:=8) [*],by simp (maxDischargeDepth:=8) [*],by simp (maxDischargeDepth:=8) [*],by simp (maxDischargeDepth:=8) [*],by simp (maxDischargeDepth:=8) [*],by rw[List.drop_zero]⟩ ?_
 rintro m' ⟨fr,hp⟩ ⟨j,hm',hj,f1,f3,fl,fn,fi,b1,b2,m2,hd⟩
 simp only at f1 f3 fl fn fi b1 b2 m2
 by_cases hlt:j<fs.length
 ·have e1:(j:Int)<fs.length:=by omega
  have hg:fs[j]?=some fs[j]:=List.getElem?_eq_getElem hlt
  have hwi:IntKind.i64.wrap ((j:Int)+1)=(j:Int)+1:=wrapN (by omega)
  rw[List.drop_eq_getElem_cons hlt,List.all_cons] at hd
  generalize fs[j]=t at*
  have hgt:=fu_get hg
  have hst:=fuSize_get hg
  obtain⟨t1,t2,t3,t4,t5⟩:=t
  simp only[Fu_row_mk] at hgt
  simp only[Fu_size_mk] at hst
  have tcE:=allRight_w (g:=g) (gm:=gm) hm t1 t2 t3 t4 t5 t5 (by omega) 0
  simp only at hd
  generalize tySs (funM fs) t4 t5=te at*
  obtain⟨G1,a1,c1⟩:=tcE.rules
  have HD:=Lib.hid hd
  clear hg hlt hd tcE
  repeat' (first|(refine Zp ?_)|(refine Zr ?_ ?_)|(intro h h';try simp[*,-h] at h'))
  all_goals have hd:=HD.out
  ·exact by rw[hts,hd];simp (maxDischargeDepth:=8) [*]
  ·exact⟨fs.length - (j+1),by omega,j+1,by omega,by omega,by simp (maxDischargeDepth:=8) [*],by simp (maxDischargeDepth:=8) [*],by simp (maxDischargeDepth:=8) [*],by simp (maxDischargeDepth:=8) [*],by simp (maxDischargeDepth:=8) [*],by simp (maxDischargeDepth:=8) [*],by simp (maxDischargeDepth:=8) [*],by simp (maxDischargeDepth:=8) [*],by rw[hd];simp (maxDischargeDepth:=8) [*]⟩
 have e1: ¬(j:Int)<fs.length:=by omega
 have hd1:fs.all (fun f:Fu=>tySs (funM fs) f.word f.body)=true:=by rw[hd,List.drop_eq_nil_of_le (by omega)];rfl
 rw[hd1] at hts
 clear hd hd1
 repeat' (first|(refine Zp ?_)|(refine Zr ?_ ?_)|(intro h h';try simp[*,-h] at h'))
 rw[hts]
 simp
theorem Sound_w (vs:List Tx)(ar:List (Tx×Int))(fs:List Fu)(hs:vs.length+ar.length+fuSize fs≤1048576):(Lm X47).dat 82 [.agg [.sl false 1 (txRows vs),.sl false 2 (arRows ar),.sl false 5 (fs.map Fu.row)]]=some [iv (soundS nbT ⟨vs,ar,fs⟩)]:=by
 refine fnW (P:=Tryz.prog) (E:=E47) (X:=X47) Tryz.func82 (X47_dat _ _) rfl bodyOk_82 rfl rtys_82 rvs_82 ?_
 have rw1:=Right_w vs ar fs hs
 unfold soundS
 cases hr:rP nbT ⟨vs,ar,fs⟩ with
 |false=>
  rw[hr] at rw1
  repeat' (first|(refine Zp ?_)|(refine Zr ?_ ?_)|(intro h h';try simp[*,-h] at h'))
  simp
 |true=>
  rw[hr] at rw1
  have h1:1≤fs.length:=by
   rw[rP_mk] at hr
   simp only[Bool.and_eq_true,decide_eq_true_eq] at hr
   exact hr.1.1.1.1
  have sc:=scopeCheck_w vs ar fs h1 hs
  have ty:=typingCheck_w vs ar fs (by omega)
  generalize scopeS ⟨vs,ar,fs⟩=a at*
  generalize typingS ⟨vs,ar,fs⟩=b at*
  clear hr
  by_cases ha:a=0
  ·subst ha
   repeat' (first|(refine Zp ?_)|(refine Zr ?_ ?_)|(intro h h';try simp[*,-h] at h'))
   simp
  ·repeat' (first|(refine Zp ?_)|(refine Zr ?_ ?_)|(intro h h';try simp[*,-h] at h'))
   simp[ha]
end Go.Proofs.YtpmoibjpjlhcgaaGreatDoor
namespace Go.Proofs.YtpmoibjpjlhcgaaGreatDoor
open Go Go.Ab Go.Ab.Sy
theorem coFind_w (o i:List (Tx×Th))(s:Tx):(Lm X47).dat 119 [.agg [mpD thR o,mpD thR i],tv s.val]=some [.agg [iv (coFind i o s).1,iv (coFind i o s).2]]:=by
 refine fnW (P:=Tryz.prog) (E:=E47) (X:=X47) Tryz.func119 (X47_dat _ _) rfl bodyOk_119 rfl rtys_119 rvs_119 ?_
 unfold coFind mpD
 cases hi:Sy.look i s with
 |some t=>
  obtain⟨a,b⟩:=t
  obtain⟨j,h1,h2,_⟩:=find_some (r:=thR) hi 0
  have h3:=look_ne hi
  simp only[thR,Nat.zero_add] at h1 h2
  repeat' (first|(refine ZN ?_)|(refine Z2 ?_ ?_)|(intro h h';try simp[*,-h] at h'))
  rfl
 |none=>
  have h1:=find_none hi 0
  cases ho:Sy.look o s with
  |some t=>
   obtain⟨a,b⟩:=t
   obtain⟨j,h4,h2,_⟩:=find_some (r:=thR) ho 0
   have h3:=look_ne ho
   simp only[thR,Nat.zero_add] at h4 h2
   repeat' (first|(refine ZN ?_)|(refine Z2 ?_ ?_)|(intro h h';try simp[*,-h] at h'))
   rfl
  |none=>
   have h4:=find_none ho 0
   repeat' (first|(refine ZN ?_)|(refine Z2 ?_ ?_)|(intro h h';try simp[*,-h] at h'))
   rfl
theorem coEs_take {fd:Tx→Th}{l:List Sy.Ex}{j:Nat}{e:Sy.Ex}(h:l[j]?=some e):coEs fd (l.take (j+1))=coEs fd (l.take j)++[coE fd e]:=by
 rw[List.take_add_one,h]
 simp[coEs_eq]
theorem coSs_take {fd:Tx→Th}{l:List Sy.St}{j:Nat}{e:Sy.St}(h:l[j]?=some e):coSs fd (l.take (j+1))=coSs fd (l.take j)++[coS fd e]:=by
 rw[List.take_add_one,h]
 simp[coSs_eq]
theorem coE_mk (fd:Tx→Th)(k o n:Int)(s:Tx)(l:List Sy.Ex):coE fd (.mk k o n s l)= .mk k o n (fd s).1 (fd s).2 (coEs fd l):=by rw[coE]
theorem coS_mk (fd:Tx→Th)(k:Int)(s:Tx)(e:List Sy.Ex)(t f:List Sy.St):coS fd (.mk k s e t f)= .mk k (fd s).1 (fd s).2 (coEs fd e) (coSs fd t) (coSs fd f):=by rw[coS]
theorem Cx_row_mk (k o n s z:Int)(l:List Cx):(Cx.mk k o n s z l).row=[iz k,iz o,uz n,iz s,iz z,.sl false 6 (cxRows l)]:=by rw[Cx.row]
theorem Cs_row_mk (k s z:Int)(e:List Cx)(t f:List Cs):(Cs.mk k s z e t f).row=[iz k,iz s,iz z,.sl false 6 (cxRows e),.sl false 6 (csRows t),.sl false 6 (csRows f)]:=by rw[Cs.row]
theorem cx_take (l:List Cx):(cxRows l).take l.length=cxRows l:=by rw[List.take_of_length_le (by simp)]
theorem cs_take (l:List Cs):(csRows l).take l.length=csRows l:=by rw[List.take_of_length_le (by simp)]
theorem coExprs_s (o n:List (Tx×Th))(N:Nat)(hN:N≤1048576)(ih: ∀l:List Sy.Ex,exSize l<N→(Lm X47).dat 120 [.agg [mpD thR o,mpD thR n],.sl false 5 (exRows l)]=some [.vec 6 (cxRows (coEs (coFind n o) l))])(l:List Sy.Ex)(hl:exSize l≤N):(Lm X47).dat 120 [.agg [mpD thR o,mpD thR n],.sl false 5 (exRows l)]=some [.vec 6 (cxRows (coEs (coFind n o) l))]:=by
 refine fnW (P:=Tryz.prog) (E:=E47) (X:=X47) Tryz.func120 (X47_dat _ _) rfl bodyOk_120 rfl rtys_120 rvs_120 ?_
 have hlen:l.length≤1048576:=by have:=exSize_len l;omega
 have ff:=fun s=>coFind_w o n s
 obtain⟨ob,ok,or_,ho⟩: ∃b k r,mpD thR o= .dmp b k r:=⟨_,_,_,rfl⟩
 obtain⟨nb,nk,nr,hn⟩: ∃b k r,mpD thR n= .dmp b k r:=⟨_,_,_,rfl⟩
 simp only[ho,hn] at ff ih⊢
 generalize hfd:coFind n o=fd at*
 repeat' (first|(refine ZN ?_)|(refine Z2 ?_ ?_)|(intro h h';try simp[*,-h] at h'))
 refine W_loopS (n:=l.length) (fun s0 m z=> ∃j g:Nat,l.length - j≤m∧j≤l.length∧z.fr 2= .ptr ⟨0,2,0⟩ 1 0∧z.hp ⟨0,2,0⟩= .box 1 [.dmp ob ok or_,.dmp nb nk nr] false∧z.fr 9= .sl false 5 (exRows l)∧z.fr 10=iv l.length∧z.fr 11=iv j∧z.fr 5= .own ⟨0,5,0⟩ g (coEs fd (l.take j)).length∧z.hp ⟨0,5,0⟩= .arr g 6 309 (cxRows (coEs fd (l.take j))) false) ⟨0,1,by omega,by omega,by simp,by simp,by simp,by simp,by simp,by simp,by simp⟩ ?_
 rintro m ⟨fr,hp⟩ ⟨j,g,hm,hj,f2,b2,fl,fn,fi,f5,a5⟩
 simp only at f2 b2 fl fn fi f5 a5
 by_cases hlt:j<l.length
 ·have e1:(j:Int)<l.length:=by omega
  have hg:l[j]?=some l[j]:=List.getElem?_eq_getElem hlt
  have hwi:IntKind.i64.wrap ((j:Int)+1)=(j:Int)+1:=wrapN (by omega)
  generalize l[j]=e at*
  have hgt:=ex_get hg
  have hst:=exSize_get hg
  have htk:=coEs_take (fd:=fd) hg
  have hle:(coEs fd (l.take j)).length≤1048576:=by simp;omega
  generalize coEs fd (l.take j)=S at*
  obtain⟨ek,eo,en,ex,ekids⟩:=e
  simp only[Ex_row_mk] at hgt
  simp only[Ex_size_mk] at hst
  rw[coE_mk] at htk
  have x1:(S.length+1)*64≤140737488355328:=by omega
  have x2:S.length≤9223372036854775806:=by omega
  have x3:=cx_take S
  have fx:=ff ex
  have ik:=ih ekids (by omega)
  have x4:(cxRows (coEs fd ekids)).take ekids.length=cxRows (coEs fd ekids):=by rw[List.take_of_length_le (by simp)]
  generalize fd ex=t at*
  obtain⟨ta,tb⟩:=t
  simp only at fx
  have HT:=Lib.hid htk
  have IH:=Lib.hid ih
  have FF:=Lib.hid ff
  clear hg hlt htk ih ff ho hn
  repeat' (first|(refine ZN ?_)|(refine Z2 ?_ ?_)|(intro h h';try simp[*,-h] at h'))
  have htk:=HT.out
  exact⟨l.length - (j+1),by omega,j+1,g+1,by omega,by omega,by simp[*],by simp[*],by simp[*],by simp[*],by simp[*],by rw[htk];simp[*],by rw[htk];simp[*,Cx_row_mk]⟩
 ·have e1: ¬(j:Int)<l.length:=by omega
  have hz:l.take j=l:=List.take_of_length_le (by omega)
  rw[hz] at f5 a5
  have x3:=cx_take (coEs fd l)
  have IH:=Lib.hid ih
  clear ih ho hn
  repeat' (first|(refine ZN ?_)|(refine Z2 ?_ ?_)|(intro h h';try simp[*,-h] at h'))
  simp[*]
theorem coExprs_n (o n:List (Tx×Th)): ∀N,N≤1048576→ ∀l:List Sy.Ex,exSize l≤N→(Lm X47).dat 120 [.agg [mpD thR o,mpD thR n],.sl false 5 (exRows l)]=some [.vec 6 (cxRows (coEs (coFind n o) l))]
 |0,h,l,hl=>coExprs_s o n 0 h (fun l h'=>by omega) l hl
 |N+1,h,l,hl=>coExprs_s o n (N+1) h (fun l h'=>coExprs_n o n N (by omega) l (by omega)) l hl
theorem coExprs_w (o n:List (Tx×Th))(l:List Sy.Ex)(hl:exSize l≤1048576):(Lm X47).dat 120 [.agg [mpD thR o,mpD thR n],.sl false 5 (exRows l)]=some [.vec 6 (cxRows (coEs (coFind n o) l))]:=coExprs_n o n 1048576 (Nat.le_refl _) l hl
theorem coStmts_s (o n:List (Tx×Th))(N:Nat)(hN:N≤1048576)(ih: ∀l:List Sy.St,stSize l<N→(Lm X47).dat 84 [.agg [mpD thR o,mpD thR n],.sl false 5 (stRows l)]=some [.vec 6 (csRows (coSs (coFind n o) l))])(l:List Sy.St)(hl:stSize l≤N):(Lm X47).dat 84 [.agg [mpD thR o,mpD thR n],.sl false 5 (stRows l)]=some [.vec 6 (csRows (coSs (coFind n o) l))]:=by
 refine fnW (P:=Tryz.prog) (E:=E47) (X:=X47) Tryz.func84 (X47_dat _ _) rfl bodyOk_84 rfl rtys_84 rvs_84 ?_
 have hlen:l.length≤1048576:=by have:=stSize_len l;omega
 have ff:=fun s=>coFind_w o n s
 obtain⟨ob,ok,or_,ho⟩: ∃b k r,mpD thR o= .dmp b k r:=⟨_,_,_,rfl⟩
 obtain⟨nb,nk,nr,hn⟩: ∃b k r,mpD thR n= .dmp b k r:=⟨_,_,_,rfl⟩
 simp only[ho,hn] at ff ih⊢
 generalize hfd:coFind n o=fd at*
 repeat' (first|(refine ZN ?_)|(refine Z2 ?_ ?_)|(intro h h';try simp[*,-h] at h'))
 refine W_loopS (n:=l.length) (fun s0 m z=> ∃j g:Nat,l.length - j≤m∧j≤l.length∧z.fr 2= .ptr ⟨0,2,0⟩ 1 0∧z.hp ⟨0,2,0⟩= .box 1 [.dmp ob ok or_,.dmp nb nk nr] false∧z.fr 9= .sl false 5 (stRows l)∧z.fr 10=iv l.length∧z.fr 11=iv j∧z.fr 5= .own ⟨0,5,0⟩ g (coSs fd (l.take j)).length∧z.hp ⟨0,5,0⟩= .arr g 6 222 (csRows (coSs fd (l.take j))) false) ⟨0,1,by omega,by omega,by simp,by simp,by simp,by simp,by simp,by simp,by simp⟩ ?_
 rintro m ⟨fr,hp⟩ ⟨j,g,hm,hj,f2,b2,fl,fn,fi,f5,a5⟩
 simp only at f2 b2 fl fn fi f5 a5
 by_cases hlt:j<l.length
 ·have e1:(j:Int)<l.length:=by omega
  have hg:l[j]?=some l[j]:=List.getElem?_eq_getElem hlt
  have hwi:IntKind.i64.wrap ((j:Int)+1)=(j:Int)+1:=wrapN (by omega)
  generalize l[j]=e at*
  have hgt:=st_get hg
  have hst:=stSize_get hg
  have htk:=coSs_take (fd:=fd) hg
  have hle:(coSs fd (l.take j)).length≤1048576:=by simp;omega
  generalize coSs fd (l.take j)=S at*
  obtain⟨ek,ex,ee,eth,eel⟩:=e
  simp only[St_row_mk] at hgt
  simp only[St_size_mk] at hst
  rw[coS_mk] at htk
  have x1:(S.length+1)*96≤140737488355328:=by omega
  have x2:S.length≤9223372036854775806:=by omega
  have x3:=cs_take S
  have fx:=ff ex
  have ie:=coExprs_w o n ee (by omega)
  simp only[ho,hn] at ie
  rw[hfd] at ie
  have it:=ih eth (by omega)
  have il:=ih eel (by omega)
  have x4:(cxRows (coEs fd ee)).take ee.length=cxRows (coEs fd ee):=by rw[List.take_of_length_le (by simp)]
  have x5:(csRows (coSs fd eth)).take eth.length=csRows (coSs fd eth):=by rw[List.take_of_length_le (by simp)]
  have x6:(csRows (coSs fd eel)).take eel.length=csRows (coSs fd eel):=by rw[List.take_of_length_le (by simp)]
  generalize fd ex=t at*
  obtain⟨ta,tb⟩:=t
  simp only at fx
  have HT:=Lib.hid htk
  have IH:=Lib.hid ih
  have FF:=Lib.hid ff
  clear hg hlt htk ih ff ho hn
  repeat' (first|(refine ZN ?_)|(refine Z2 ?_ ?_)|(intro h h';try simp[*,-h] at h'))
  have htk:=HT.out
  exact⟨l.length - (j+1),by omega,j+1,g+1,by omega,by omega,by simp[*],by simp[*],by simp[*],by simp[*],by simp[*],by rw[htk];simp[*],by rw[htk];simp[*,Cs_row_mk]⟩
 ·have e1: ¬(j:Int)<l.length:=by omega
  have hz:l.take j=l:=List.take_of_length_le (by omega)
  rw[hz] at f5 a5
  have x3:=cs_take (coSs fd l)
  have IH:=Lib.hid ih
  clear ih ho hn
  repeat' (first|(refine ZN ?_)|(refine Z2 ?_ ?_)|(intro h h';try simp[*,-h] at h'))
  simp[*]
theorem coStmts_n (o n:List (Tx×Th)): ∀N,N≤1048576→ ∀l:List Sy.St,stSize l≤N→(Lm X47).dat 84 [.agg [mpD thR o,mpD thR n],.sl false 5 (stRows l)]=some [.vec 6 (csRows (coSs (coFind n o) l))]
 |0,h,l,hl=>coStmts_s o n 0 h (fun l h'=>by omega) l hl
 |N+1,h,l,hl=>coStmts_s o n (N+1) h (fun l h'=>coStmts_n o n N (by omega) l (by omega)) l hl
theorem coStmts_w (o n:List (Tx×Th))(l:List Sy.St)(hl:stSize l≤1048576):(Lm X47).dat 84 [.agg [mpD thR o,mpD thR n],.sl false 5 (stRows l)]=some [.vec 6 (csRows (coSs (coFind n o) l))]:=coStmts_n o n 1048576 (Nat.le_refl _) l hl
end Go.Proofs.YtpmoibjpjlhcgaaGreatDoor
namespace Go.Proofs.YtpmoibjpjlhcgaaGreatDoor
open Go Go.Ab Go.Ab.Sy
theorem look_nodup {T:Type}{m l:List (Tx×T)}{x:Tx×T}(h:((m++x::l).map (·.1)).Nodup):Sy.look m x.1=none:=by
 cases hl:Sy.look m x.1 with
 |none=>rfl
 |some t=>
  rw[List.map_append,List.nodup_append] at h
  exact(h.2.2 x.1 (List.mem_map.2 ⟨_,look_mem hl,rfl⟩) x.1 (by simp) rfl).elim
theorem num_split {α β:Type}(f:Int→α→β): ∀(l:List α) (n i:Nat) {a:α},l[i]?=some a→num f n l=num f n (l.take i)++f ((n+i:Nat):Int) a::num f (n+i+1) (l.drop (i+1))
 |[],n,i,a,h=>by simp at h
 |x::l,n,0,a,h=>by
  simp only[List.getElem?_cons_zero,Option.some.injEq] at h
  subst h
  simp[num]
 |x::l,n,i+1,a,h=>by
  have:=num_split f l (n+1) i (a:=a) (by simpa using h)
  simp only[num,List.take_succ_cons,List.drop_succ_cons,List.cons_append]
  rw[this,show n+1+i=n+(i+1) from by omega]
theorem arL_split : ∀(l:List (Tx×Int)) (w:Int) (i:Nat) {a:Tx×Int},l[i]?=some a→arL w l=arL w (l.take i)++(a.1,(w+arW (l.take i),a.2))::arL (w+arW (l.take i)+a.2) (l.drop (i+1))
 |[],w,i,a,h=>by simp at h
 |x::l,w,0,a,h=>by
  simp only[List.getElem?_cons_zero,Option.some.injEq] at h
  subst h
  simp[arL,arW]
 |x::l,w,i+1,a,h=>by
  have:=arL_split l (w+x.2) i (a:=a) (by simpa using h)
  simp only[arL,arW,List.take_succ_cons,List.drop_succ_cons,List.cons_append]
  rw[this,Int.add_assoc w x.2]
theorem arL_take : ∀(l:List (Tx×Int)) (w:Int) (i:Nat) {a:Tx×Int},l[i]?=some a→arL w (l.take (i+1))=arL w (l.take i)++[(a.1,(w+arW (l.take i),a.2))]
 |[],w,i,a,h=>by simp at h
 |x::l,w,0,a,h=>by
  simp only[List.getElem?_cons_zero,Option.some.injEq] at h
  subst h
  simp[arL,arW]
 |x::l,w,i+1,a,h=>by
  have:=arL_take l (w+x.2) i (a:=a) (by simpa using h)
  simp only[arL,arW,List.take_succ_cons,List.cons_append]
  rw[this,Int.add_assoc w x.2]
theorem arW_take : ∀(l:List (Tx×Int)) (i:Nat) {a:Tx×Int},l[i]?=some a→arW (l.take (i+1))=arW (l.take i)+a.2
 |[],i,a,h=>by simp at h
 |x::l,0,a,h=>by
  simp only[List.getElem?_cons_zero,Option.some.injEq] at h
  subst h
  simp[arW]
 |x::l,i+1,a,h=>by
  have:=arW_take l i (a:=a) (by simpa using h)
  simp only[arW,List.take_succ_cons]
  omega
theorem arW_le : ∀(l:List (Tx×Int)),(∀a∈l,1≤a.2∧a.2≤4096)→0≤arW l∧arW l≤4096*l.length
 |[],h=>by simp[arW]
 |x::l,h=>by
  have:=arW_le l (fun a ha=>h a (List.mem_cons_of_mem _ ha))
  have:=h x (List.mem_cons_self ..)
  simp only[arW,List.length_cons]
  omega
theorem coGlobals_w (vs:List Tx)(ar:List (Tx×Int))(fs:List Fu)(hs:vs.length+ar.length+fuSize fs≤1048576)(har: ∀a∈ar,1≤a.2∧a.2≤4096)(hn:((coOutL ⟨vs,ar,fs⟩).map (·.1)).Nodup):(Lm X47).dat 83 [.agg [.sl false 1 (txRows vs),.sl false 2 (arRows ar),.sl false 5 (fs.map Fu.row)]]=some [mpD thR (coOutL ⟨vs,ar,fs⟩),iv (coOutW ⟨vs,ar,fs⟩)]:=by
 refine fnW (P:=Tryz.prog) (E:=E47) (X:=X47) Tryz.func83 (X47_dat _ _) rfl bodyOk_83 rfl rtys_83 rvs_83 ?_
 unfold coOutL at hn⊢
 unfold coOutW
 simp only at hn⊢
 have hfl:=fuSize_len fs
 repeat' (first|(refine ZN ?_)|(refine Z2 ?_ ?_)|(intro h h';try simp[*,-h] at h'))
 refine W_loopS (n:=vs.length) (fun s0 m z=> ∃i:Nat,vs.length - i≤m∧i≤vs.length∧z.fr 1= .ptr ⟨0,1,0⟩ 1 0∧z.hp ⟨0,1,0⟩= .box 1 [.sl false 1 (txRows vs),.sl false 2 (arRows ar),.sl false 5 (fs.map Fu.row)] false∧z.fr 4= .mp ⟨0,12,0⟩ 1∧z.fr 5=iv ((i:Int))∧z.fr 14= .sl false 1 (txRows vs)∧z.fr 15=iv vs.length∧z.fr 16=iv i∧z.hp ⟨0,12,0⟩=mpO thR 1 (num (fun i (s:Tx)=>(s,(i,(0:Int)))) 0 (vs.take i))) ⟨0,by omega,by omega,by simp[*],by simp[*],by simp[*],by simp[*,arW],by simp[*],by simp[*,arRows],by simp,(by first|(simp[*,num,arL];done)|(simp[*,num,arL];rfl))⟩ ?_
 rintro m ⟨fr,hp⟩ ⟨i,hm,hi,f1,b1,f4,f5,fl_,fn_,fi_,hq⟩
 simp only at f1 b1 f4 f5 fl_ fn_ fi_ hq
 by_cases hlt:i<vs.length
 ·have e1:(i:Int)<vs.length:=by omega
  have hg:vs[i]?=some vs[i]:=List.getElem?_eq_getElem hlt
  have hwi:IntKind.i64.wrap ((i:Int)+1)=(i:Int)+1:=wrapN (by omega)
  generalize vs[i]=t at*
  have hgt:=tx_get hg
  have hpl:vs.length≤1048576:=by omega
  have hsp:=num_split (fun i (s:Tx)=>(s,(i,(0:Int)))) vs 0 i hg
  have hnt:=num_take (fun i (s:Tx)=>(s,(i,(0:Int)))) 0 vs i hg
  rw[hsp,List.append_assoc,List.append_assoc,List.cons_append] at hn
  have hlk:=look_nodup hn
  simp only at hlk
  have k1:=find_none hlk 0
  have hmk:=mKeys_nil_or (num (fun i (s:Tx)=>(s,(i,(0:Int)))) 0 (vs.take i))
  have hsn:=mpO_snoc thR 1 (num (fun i (s:Tx)=>(s,(i,(0:Int)))) 0 (vs.take i)) (t,(((0+i:Nat):Int),(0:Int)))
  unfold mpO at hq
  obtain⟨ks,hks⟩: ∃ks,mKeys (num (fun i (s:Tx)=>(s,(i,(0:Int)))) 0 (vs.take i))=ks:=⟨_,rfl⟩
  obtain⟨ag,hag⟩: ∃ag,(!(num (fun i (s:Tx)=>(s,(i,(0:Int)))) 0 (vs.take i)).isEmpty)=ag:=⟨_,rfl⟩
  obtain⟨rs,hrs⟩: ∃rs,mRows thR (num (fun i (s:Tx)=>(s,(i,(0:Int)))) 0 (vs.take i))=rs:=⟨_,rfl⟩
  rw[hks] at hmk k1 hq hsn
  rw[hag] at hmk hq
  rw[hrs] at hq hsn
  clear hks hag hrs hlk hn hsp
  have HS:=Lib.hid hsn
  have HT:=Lib.hid hnt
  clear hsn hnt hg hlt
  repeat' (first|(refine ZN ?_)|(refine Z2 ?_ ?_)|(intro h h';try simp[*,-h] at h'))
  have hsn:=HS.out
  have hnt:=HT.out
  exact⟨vs.length - (i+1),by omega,i+1,by omega,by omega,by simp[*],by simp[*],by simp[*],by simp[*],by simp[*],by simp[*],by simp[*],by rw[hnt,hsn];simp[*,thR]⟩
 have e1: ¬(i:Int)<vs.length:=by omega
 have hz:vs.take i=vs:=List.take_of_length_le (by omega)
 rw[hz] at hq
 have hi2:i=vs.length:=by omega
 subst hi2
 clear hz
 repeat' (first|(refine ZN ?_)|(refine Z2 ?_ ?_)|(intro h h';try simp[*,-h] at h'))
 refine W_loopS (n:=ar.length) (fun s0 m z=> ∃i:Nat,ar.length - i≤m∧i≤ar.length∧z.fr 1= .ptr ⟨0,1,0⟩ 1 0∧z.hp ⟨0,1,0⟩= .box 1 [.sl false 1 (txRows vs),.sl false 2 (arRows ar),.sl false 5 (fs.map Fu.row)] false∧z.fr 4= .mp ⟨0,12,0⟩ 1∧z.fr 5=iv ((vs.length:Int)+arW (ar.take i))∧z.fr 28= .sl false 2 (arRows ar)∧z.fr 29=iv ar.length∧z.fr 30=iv i∧z.hp ⟨0,12,0⟩=mpO thR 1 (num (fun i (s:Tx)=>(s,(i,(0:Int)))) 0 vs++arL vs.length (ar.take i))) ⟨0,by omega,by omega,by simp[*],by simp[*],by simp[*],by simp[*,arW],by simp[*],by simp[*,arRows],by simp,(by first|(simp[*,num,arL];done)|(simp[*,num,arL];rfl))⟩ ?_
 rintro m ⟨fr,hp⟩ ⟨i,hm,hi,f1,b1,f4,f5,fl_,fn_,fi_,hq⟩
 simp only at f1 b1 f4 f5 fl_ fn_ fi_ hq
 by_cases hlt:i<ar.length
 ·have e1:(i:Int)<ar.length:=by omega
  have hg:ar[i]?=some ar[i]:=List.getElem?_eq_getElem hlt
  have hwi:IntKind.i64.wrap ((i:Int)+1)=(i:Int)+1:=wrapN (by omega)
  generalize ar[i]=t at*
  have hgt:=ar_get hg
  have hpl:ar.length≤1048576:=by omega
  have hsp:=arL_split ar vs.length i hg
  have hnt:=arL_take ar vs.length i hg
  have hwt:=arW_take ar i hg
  have hb1:=arW_le (ar.take i) (fun a ha=>har a (List.mem_of_mem_take ha))
  have hb2:=har _ (List.mem_of_getElem? hg)
  rw[hsp] at hn
  simp only[List.append_assoc,List.cons_append] at hn
  rw[←List.append_assoc] at hn
  obtain⟨t1,t2⟩:=t
  have hlk:=look_nodup hn
  have hw3:IntKind.i64.wrap ((vs.length:Int)+arW (ar.take i)+t2)=(vs.length:Int)+arW (ar.take i)+t2:=wrap64 (by simp at hb1 hb2;omega) (by simp at hb1 hb2;omega)
  clear hb1 hb2
  simp only at hlk
  have k1:=find_none hlk 0
  have hmk:=mKeys_nil_or (num (fun i (s:Tx)=>(s,(i,(0:Int)))) 0 vs++arL vs.length (ar.take i))
  have hsn:=mpO_snoc thR 1 (num (fun i (s:Tx)=>(s,(i,(0:Int)))) 0 vs++arL vs.length (ar.take i)) (t1,((vs.length:Int)+arW (ar.take i),t2))
  unfold mpO at hq
  obtain⟨ks,hks⟩: ∃ks,mKeys (num (fun i (s:Tx)=>(s,(i,(0:Int)))) 0 vs++arL vs.length (ar.take i))=ks:=⟨_,rfl⟩
  obtain⟨ag,hag⟩: ∃ag,(!(num (fun i (s:Tx)=>(s,(i,(0:Int)))) 0 vs++arL vs.length (ar.take i)).isEmpty)=ag:=⟨_,rfl⟩
  obtain⟨rs,hrs⟩: ∃rs,mRows thR (num (fun i (s:Tx)=>(s,(i,(0:Int)))) 0 vs++arL vs.length (ar.take i))=rs:=⟨_,rfl⟩
  rw[hks] at hmk k1 hq hsn
  rw[hag] at hmk hq
  rw[hrs] at hq hsn
  clear hks hag hrs hlk hn hsp
  have HS:=Lib.hid hsn
  have HT:=Lib.hid hnt
  have HW:=Lib.hid hwt
  clear hwt
  clear hsn hnt hg hlt
  repeat' (first|(refine ZN ?_)|(refine Z2 ?_ ?_)|(intro h h';try simp[*,-h] at h'))
  have hsn:=HS.out
  have hnt:=HT.out
  have hwt:=HW.out
  exact⟨ar.length - (i+1),by omega,i+1,by omega,by omega,by simp[*],by simp[*],by simp[*],by rw[hwt];simp[*,Int.add_assoc],by simp[*],by simp[*],by simp[*],by rw[hnt,←List.append_assoc,hsn];simp[*,thR]⟩
 have e1: ¬(i:Int)<ar.length:=by omega
 have hz:ar.take i=ar:=List.take_of_length_le (by omega)
 rw[hz] at hq f5
 have hi2:i=ar.length:=by omega
 clear hi2
 clear hz
 repeat' (first|(refine ZN ?_)|(refine Z2 ?_ ?_)|(intro h h';try simp[*,-h] at h'))
 refine W_loopS (n:=fs.length) (fun s0 m z=> ∃i:Nat,fs.length - i≤m∧i≤fs.length∧z.fr 1= .ptr ⟨0,1,0⟩ 1 0∧z.hp ⟨0,1,0⟩= .box 1 [.sl false 1 (txRows vs),.sl false 2 (arRows ar),.sl false 5 (fs.map Fu.row)] false∧z.fr 4= .mp ⟨0,12,0⟩ 1∧z.fr 5=iv ((vs.length:Int)+arW ar)∧z.fr 47= .sl false 5 (fs.map Fu.row)∧z.fr 48=iv fs.length∧z.fr 49=iv i∧z.hp ⟨0,12,0⟩=mpO thR 1 (num (fun i (s:Tx)=>(s,(i,(0:Int)))) 0 vs++arL vs.length ar++num (fun i (f:Fu)=>(f.name,(i,(0:Int)))) 0 (fs.take i))) ⟨0,by omega,by omega,by simp[*],by simp[*],by simp[*],by simp[*,arW],by simp[*],by simp[*,arRows],by simp,(by first|(simp[*,num,arL];done)|(simp[*,num,arL];rfl))⟩ ?_
 rintro m ⟨fr,hp⟩ ⟨i,hm,hi,f1,b1,f4,f5,fl_,fn_,fi_,hq⟩
 simp only at f1 b1 f4 f5 fl_ fn_ fi_ hq
 by_cases hlt:i<fs.length
 ·have e1:(i:Int)<fs.length:=by omega
  have hg:fs[i]?=some fs[i]:=List.getElem?_eq_getElem hlt
  have hwi:IntKind.i64.wrap ((i:Int)+1)=(i:Int)+1:=wrapN (by omega)
  generalize fs[i]=t at*
  have hgt:=fu_get hg
  have hpl:fs.length≤1048576:=by omega
  have hsp:=num_split (fun i (f:Fu)=>(f.name,(i,(0:Int)))) fs 0 i hg
  have hnt:=num_take (fun i (f:Fu)=>(f.name,(i,(0:Int)))) 0 fs i hg
  rw[hsp,←List.append_assoc] at hn
  obtain⟨t1,t2,t3,t4,t5⟩:=t
  simp only[Fu_row_mk] at hgt
  have hlk:=look_nodup hn
  simp only at hlk
  have k1:=find_none hlk 0
  have hmk:=mKeys_nil_or (num (fun i (s:Tx)=>(s,(i,(0:Int)))) 0 vs++arL vs.length ar++num (fun i (f:Fu)=>(f.name,(i,(0:Int)))) 0 (fs.take i))
  have hsn:=mpO_snoc thR 1 (num (fun i (s:Tx)=>(s,(i,(0:Int)))) 0 vs++arL vs.length ar++num (fun i (f:Fu)=>(f.name,(i,(0:Int)))) 0 (fs.take i)) (t1,(((0+i:Nat):Int),(0:Int)))
  unfold mpO at hq
  obtain⟨ks,hks⟩: ∃ks,mKeys (num (fun i (s:Tx)=>(s,(i,(0:Int)))) 0 vs++arL vs.length ar++num (fun i (f:Fu)=>(f.name,(i,(0:Int)))) 0 (fs.take i))=ks:=⟨_,rfl⟩
  obtain⟨ag,hag⟩: ∃ag,(!(num (fun i (s:Tx)=>(s,(i,(0:Int)))) 0 vs++arL vs.length ar++num (fun i (f:Fu)=>(f.name,(i,(0:Int)))) 0 (fs.take i)).isEmpty)=ag:=⟨_,rfl⟩
  obtain⟨rs,hrs⟩: ∃rs,mRows thR (num (fun i (s:Tx)=>(s,(i,(0:Int)))) 0 vs++arL vs.length ar++num (fun i (f:Fu)=>(f.name,(i,(0:Int)))) 0 (fs.take i))=rs:=⟨_,rfl⟩
  rw[hks] at hmk k1 hq hsn
  rw[hag] at hmk hq
  rw[hrs] at hq hsn
  clear hks hag hrs hlk hn hsp
  have HS:=Lib.hid hsn
  have HT:=Lib.hid hnt
  clear hsn hnt hg hlt
  repeat' (first|(refine ZN ?_)|(refine Z2 ?_ ?_)|(intro h h';try simp[*,-h] at h'))
  have hsn:=HS.out
  have hnt:=HT.out
  exact⟨fs.length - (i+1),by omega,i+1,by omega,by omega,by simp[*],by simp[*],by simp[*],by simp[*],by simp[*],by simp[*],by simp[*],by rw[hnt,←List.append_assoc,hsn];simp[*,thR]⟩
 have e1: ¬(i:Int)<fs.length:=by omega
 have hz:fs.take i=fs:=List.take_of_length_le (by omega)
 rw[hz] at hq
 have hi2:i=fs.length:=by omega
 clear hi2
 clear hz
 generalize (num (fun i (s:Tx)=>(s,(i,(0:Int)))) 0 vs++arL vs.length ar++num (fun i (f:Fu)=>(f.name,(i,(0:Int)))) 0 fs)=PF at*
 unfold mpO at hq
 repeat' (first|(refine ZN ?_)|(refine Z2 ?_ ?_)|(intro h h';try simp[*,-h] at h'))
 rfl
end Go.Proofs.YtpmoibjpjlhcgaaGreatDoor
