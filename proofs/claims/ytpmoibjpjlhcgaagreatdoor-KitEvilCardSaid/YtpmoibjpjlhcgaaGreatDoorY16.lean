/- A part of the proof: Gy. -/
import Derived.Test.YtpmoibjpjlhcgaaGreatDoorY09
import Derived.Test.YtpmoibjpjlhcgaaGreatDoorY10
import Derived.Test.YtpmoibjpjlhcgaaGreatDoorY15
set_option linter.unusedSimpArgs false
set_option linter.unusedVariables false
set_option maxRecDepth 200000
set_option maxHeartbeats 8000000
namespace Go.Proofs.YtpmoibjpjlhcgaaGreatDoor
open Go Go.Ab Go.Ab.Sy
def E2 :Cfg:={eq:=fun t=>t==25,hp:=fun f=>f==35,yl:=fun _=>false,ws:=70}
@[simp] theorem E2_eq (t:Nat):E2.eq t=(t==25):=rfl
@[simp] theorem E2_hp (f:Nat):E2.hp f=(f==35):=rfl
@[simp] theorem E2_off :E2.off=0:=rfl
@[simp] theorem E2_ws :E2.ws=70:=rfl
@[simp] theorem E2_cl :E2.cl=false:=rfl
@[simp] theorem E2_frz (f:Nat):E2.frz f=false:=rfl
@[simp] theorem E2_inl (f:Nat):E2.inl f=false:=rfl
@[simp] theorem E2_bx (t:Nat):E2.bx t=false:=rfl
theorem E2_law :ELaw Tryz.prog E2:=by
 refine⟨fun t ht w x y us vs b h1 h2 h=>?_,fun _=>rfl⟩
 simp only[E2_eq,beq_iff_eq] at ht
 subst ht
 exact Dwa (by kernel_rfl) (by kernel_rfl) (by kernel_rfl) w x y us vs b h1 h2 h
attribute [-simp] Prog.bind getCs putCs
attribute [local simp ↓] run_bind
attribute [local simp ↓] Ax
attribute [local simp] Av As facetsC A5 A0
theorem Aka {X:Orc}(m:Q.D4)(give src:ByteArray)(hX: ∀a,X.dat 8 a=none)(hd:(lim Tryz.prog E2 X).dat 12 [tv src]=some [.agg m.row]):(lim Tryz.prog E2 X).dat 8 [.agg [iv 4,.sl false 1 [],tv ⟨#[]⟩,iv 0,uv m.d0,uv m.d1,uv m.d2,uv m.d3,tv give],tv src]=some [tv give,iv 0]:=by
 refine fnW (P:=Tryz.prog) (E:=E2) (X:=X) Tryz.func8 (hX _) rfl Nc rfl Tm rvs_8 ?_
 unfold Q.D4.row at hd
 exact ZS
theorem build_n {X:Orc}(m n:Q.D4)(give src c:ByteArray)(e:Int)(hX: ∀a,X.dat 8 a=none)(hd:(lim Tryz.prog E2 X).dat 12 [tv src]=some [.agg n.row])(hs:(lim Tryz.prog E2 X).dat 19 [tv src]=some [tv c,iv e])(hne:n≠m):(lim Tryz.prog E2 X).dat 8 [.agg [iv 4,.sl false 1 [],tv ⟨#[]⟩,iv 0,uv m.d0,uv m.d1,uv m.d2,uv m.d3,tv give],tv src]=some [tv c,iv e]:=by
 refine fnW (P:=Tryz.prog) (E:=E2) (X:=X) Tryz.func8 (hX _) rfl Nc rfl Tm rvs_8 ?_
 unfold Q.D4.row at hd
 repeat' (first|refine ZN ?_|refine Z2 ?_ ?_|(intro h h';try simp[*,-h] at h'))
 all_goals first
  |rfl
  |(exfalso;apply hne;cases n;cases m;simp_all)
end Go.Proofs.YtpmoibjpjlhcgaaGreatDoor
