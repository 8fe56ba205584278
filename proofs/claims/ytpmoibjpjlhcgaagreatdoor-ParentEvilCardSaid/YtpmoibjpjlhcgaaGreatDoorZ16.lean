/- A part of the proof: Gy. -/
import Derived.Test.YtpmoibjpjlhcgaaGreatDoorZ09
import Derived.Test.YtpmoibjpjlhcgaaGreatDoorZ10
import Derived.Test.YtpmoibjpjlhcgaaGreatDoorZ15
set_option linter.unusedSimpArgs false
set_option linter.unusedVariables false
set_option maxRecDepth 200000
set_option maxHeartbeats 8000000
namespace Go.Proofs.YtpmoibjpjlhcgaaGreatDoor
open Go Go.Ab Go.Ab.Sy
def E2 :Cfg:={eq:=fun t=>t==25,hp:=fun f=>f==35,yl:=fun _=>false,ws:=70}
@[simp] theorem E2_eq (t:Nat):E2.eq t=(t==25):=rfl
@[simp] theorem E2_hp (f:Nat):E2.hp f=(f==35):=rfl
@[simp] theorem E2_off :E2.off=0:=rfl
@[simp] theorem E2_ws :E2.ws=70:=rfl
@[simp] theorem E2_cl :E2.cl=false:=rfl
@[simp] theorem E2_frz (f:Nat):E2.frz f=false:=rfl
@[simp] theorem E2_inl (f:Nat):E2.inl f=false:=rfl
@[simp] theorem E2_bx (t:Nat):E2.bx t=false:=rfl
theorem E2_law :ELaw Tryz.prog E2:=by
 refine⟨fun t ht w x y us vs b h1 h2 h=>?_,fun _=>rfl⟩
 simp only[E2_eq,beq_iff_eq] at ht
 subst ht
 exact array_law (by kernel_rfl) (by kernel_rfl) (by kernel_rfl) w x y us vs b h1 h2 h
attribute [-simp] Prog.bind getCs putCs
attribute [local simp ↓] run_bind
attribute [local simp ↓] runF_bind
attribute [local simp] run_getCsN runF_getCsN facetsC putCs_one run_putCsN
theorem build_e {X:Orc}(m:Q.D4)(give src:ByteArray)(hX: ∀a,X.dat 8 a=none)(hd:(lim Tryz.prog E2 X).dat 12 [tv src]=some [.agg m.row]):(lim Tryz.prog E2 X).dat 8 [.agg [iv 4,.sl false 1 [],tv ⟨#[]⟩,iv 0,uv m.d0,uv m.d1,uv m.d2,uv m.d3,tv give],tv src]=some [tv give,iv 0]:=by
 refine fnW (P:=Tryz.prog) (E:=E2) (X:=X) Tryz.func8 (hX _) rfl bodyOk_8 rfl rtys_8 rvs_8 ?_
 unfold Q.D4.row at hd
 repeat' (first|(refine ZN ?_)|(refine Z2 ?_ ?_)|(intro h h';try simp[*,-h] at h'))
 all_goals rfl
theorem build_n {X:Orc}(m n:Q.D4)(give src c:ByteArray)(e:Int)(hX: ∀a,X.dat 8 a=none)(hd:(lim Tryz.prog E2 X).dat 12 [tv src]=some [.agg n.row])(hs:(lim Tryz.prog E2 X).dat 19 [tv src]=some [tv c,iv e])(hne:n≠m):(lim Tryz.prog E2 X).dat 8 [.agg [iv 4,.sl false 1 [],tv ⟨#[]⟩,iv 0,uv m.d0,uv m.d1,uv m.d2,uv m.d3,tv give],tv src]=some [tv c,iv e]:=by
 refine fnW (P:=Tryz.prog) (E:=E2) (X:=X) Tryz.func8 (hX _) rfl bodyOk_8 rfl rtys_8 rvs_8 ?_
 unfold Q.D4.row at hd
 repeat' (first|(refine ZN ?_)|(refine Z2 ?_ ?_)|(intro h h';try simp[*,-h] at h'))
 all_goals first
  |rfl
  |(exfalso;apply hne;cases n;cases m;simp_all)
theorem g3_big {X:Orc}(s t give:ByteArray)(hX: ∀a,X.dat 3 a=none)(h6:(lim Tryz.prog E2 X).dat 6 []=some [bv true])(hb: ¬(s.size≤300∧t.size≤300∧give.size≤300)):(lim Tryz.prog E2 X).dat 3 [tv s,tv t,tv give]=some [bv true]:=by
 refine fnW (P:=Tryz.prog) (E:=E2) (X:=X) Tryz.func3 (hX _) rfl bodyOk_3 rfl rtys_3 rvs_3 ?_
 by_cases h1:s.size≤300
 ·have e1:(s.size:Int)≤300:=by omega
  by_cases h2:t.size≤300
  ·have e2:(t.size:Int)≤300:=by omega
   have e3: ¬(give.size:Int)≤300:=by omega
   clear hb h1 h2
   repeat' (first|(refine ZN ?_)|(refine Z2 ?_ ?_)|(intro h h';try simp[*,-h] at h'))
   all_goals rfl
  ·have e2: ¬(t.size:Int)≤300:=by omega
   clear hb h1 h2
   repeat' (first|(refine ZN ?_)|(refine Z2 ?_ ?_)|(intro h h';try simp[*,-h] at h'))
   all_goals rfl
 ·have e1: ¬(s.size:Int)≤300:=by omega
  clear hb h1
  repeat' (first|(refine ZN ?_)|(refine Z2 ?_ ?_)|(intro h h';try simp[*,-h] at h'))
  all_goals rfl
theorem g3_same {X:Orc}(s t give c:ByteArray)(m:Q.D4)(a e:Int)(hX: ∀a,X.dat 3 a=none)(h6:(lim Tryz.prog E2 X).dat 6 []=some [bv true])(h7:(lim Tryz.prog E2 X).dat 7 [tv s]=some [.agg m.row])(h8:(lim Tryz.prog E2 X).dat 7 [tv t]=some [.agg m.row])(hs:(lim Tryz.prog E2 X).dat 8 [.agg [iv 4,.sl false 1 [],tv ⟨#[]⟩,iv 0,uv m.d0,uv m.d1,uv m.d2,uv m.d3,tv give],tv s]=some [tv give,iv 0])(hcp:(lim Tryz.prog E2 X).dat 9 [tv t]=some [tv c,iv a,iv e])(e1:(s.size:Int)≤300)(e2:(t.size:Int)≤300)(e3:(give.size:Int)≤300)(ht:(lim Tryz.prog E2 X).dat 8 [.agg [iv 4,.sl false 1 [],tv ⟨#[]⟩,iv 0,uv m.d0,uv m.d1,uv m.d2,uv m.d3,tv give],tv t]=some [tv give,iv 0]):(lim Tryz.prog E2 X).dat 3 [tv s,tv t,tv give]=some [bv true]:=by
 refine fnW (P:=Tryz.prog) (E:=E2) (X:=X) Tryz.func3 (hX _) rfl bodyOk_3 rfl rtys_3 rvs_3 ?_
 unfold Q.D4.row at h7 h8
 repeat' (first|(refine ZN ?_)|(refine Z2 ?_ ?_)|(intro h h';try simp[*,-h] at h'))
 all_goals first
  |rfl
  |(exfalso;simp_all;done)
theorem g3_else {X:Orc}(s t give c:ByteArray)(m n:Q.D4)(a e:Int)(hX: ∀a,X.dat 3 a=none)(h6:(lim Tryz.prog E2 X).dat 6 []=some [bv true])(h7:(lim Tryz.prog E2 X).dat 7 [tv s]=some [.agg m.row])(h8:(lim Tryz.prog E2 X).dat 7 [tv t]=some [.agg n.row])(hs:(lim Tryz.prog E2 X).dat 8 [.agg [iv 4,.sl false 1 [],tv ⟨#[]⟩,iv 0,uv m.d0,uv m.d1,uv m.d2,uv m.d3,tv give],tv s]=some [tv give,iv 0])(hcp:(lim Tryz.prog E2 X).dat 9 [tv t]=some [tv c,iv a,iv e])(e1:(s.size:Int)≤300)(e2:(t.size:Int)≤300)(e3:(give.size:Int)≤300)(ht:(lim Tryz.prog E2 X).dat 8 [.agg [iv 4,.sl false 1 [],tv ⟨#[]⟩,iv 0,uv m.d0,uv m.d1,uv m.d2,uv m.d3,tv give],tv t]=some [tv c,iv e])(hne:n≠m):(lim Tryz.prog E2 X).dat 3 [tv s,tv t,tv give]=some [bv true]:=by
 refine fnW (P:=Tryz.prog) (E:=E2) (X:=X) Tryz.func3 (hX _) rfl bodyOk_3 rfl rtys_3 rvs_3 ?_
 unfold Q.D4.row at h7 h8
 repeat' (first|(refine ZN ?_)|(refine Z2 ?_ ?_)|(intro h h';try simp[*,-h] at h'))
 all_goals first
  |rfl
  |(exfalso;apply hne;cases n;cases m;simp_all;done)
end Go.Proofs.YtpmoibjpjlhcgaaGreatDoor
