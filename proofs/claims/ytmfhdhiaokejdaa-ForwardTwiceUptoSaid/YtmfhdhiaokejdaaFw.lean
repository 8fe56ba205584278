/- forward.forwarded: definitions, and what it needs of other functions. Printed by a program (wip/tfw.py). -/
import Derived.Test.YtmfhdhiaokejdaaMr
import Derived.Test.YtmfhdhiaokejdaaF31
import Derived.Test.YtmfhdhiaokejdaaD31b
namespace Go.Proofs.Ytmfhdhiaokejdaa
open Go Go.Ab
set_option linter.unusedSimpArgs false
set_option linter.unusedVariables false
def E0 : Cfg := ⟨fun _ => false, fun _ => false⟩
@[simp] theorem E0_hp (f : Nat) : E0.hp f = false := rfl
@[simp] theorem E0_eq (f : Nat) : E0.eq f = false := rfl
def X0 : Orc := ⟨fun _ _ => none, fun _ _ _ _ _ => none⟩
theorem X0_ok : OrcOk Try.prog X0 := ⟨fun f args rs h => by simp [X0] at h, fun k d f args hp v hp' h => by simp [X0] at h⟩
theorem E0_law : EqLaw Try.prog E0.eq := fun t h => by simp at h
theorem mixed0 : Try.prog.follows .mixedOrders = true := by kernel_rfl
theorem call0_ok : OrcOk Try.prog (lim Try.prog E0 X0) := lim_ok mixed0 E0_law X0_ok
theorem thenT_n {Nx : AS → MM → Prop} {Q : Ex → AS → MM → Prop} {s : AS} {M : MM} (h : Nx s M) : thenT Nx Q .normal s M := h
theorem thenT_r {Nx : AS → MM → Prop} {Q : Ex → AS → MM → Prop} {s : AS} {M : MM} (h : Q .ret s M) : thenT Nx Q .ret s M := h
theorem thenT_e {Nx : AS → MM → Prop} {Q : Ex → AS → MM → Prop} {s : AS} {M : MM} {i : Nat} (h : Q (.exit i) s M) : thenT Nx Q (.exit i) s M := h
theorem T_ct {P : Program} {k N : Nat} {K : Nat → Prop} {B : Base} {c : Operand} {x y : Code} {st : AS} {M : MM} {Q : Ex → AS → MM → Prop} (hc : opA st.fr c = .sc (.bool true)) (h : T P k N K B x st M Q) : T P k N K B (.cond c x y) st M Q := T_cond hc h
theorem T_cf {P : Program} {k N : Nat} {K : Nat → Prop} {B : Base} {c : Operand} {x y : Code} {st : AS} {M : MM} {Q : Ex → AS → MM → Prop} (hc : opA st.fr c = .sc (.bool false)) (h : T P k N K B y st M Q) : T P k N K B (.cond c x y) st M Q := T_cond hc h
theorem inT_n {Q : Ex → AS → MM → Prop} {s : AS} {M : MM} {i : Nat} (h : Q .normal s M) : inBlockT i Q .normal s M := h
theorem inT_e {Q : Ex → AS → MM → Prop} {s : AS} {M : MM} {i : Nat} (h : Q .normal s M) : inBlockT i Q (.exit i) s M := by simp [inBlockT, h]
theorem wrapN0 {k : Nat} (h : k < 9223372036854775807) : IntKind.i64.wrap ((k : Int) + 1) = (k : Int) + 1 := wrap64 (by omega) (by omega)

set_option maxHeartbeats 1000000 in
@[simp] theorem e39 (n : Int)  : (lim Try.prog E0 X0).dat 39 [iv n] = some [bv (setsB n)] := by
  refine fnW Try.func39 rfl rfl bodyOk_39 rfl rtys_39 rfl ?_
  repeat' (first
    | ((with_reducible apply Wo_u); (conv => lhs; simp -implicitDefEqProofs [*]) <;> exact rfl)
    | ((with_reducible apply Wo_n); (conv => lhs; simp -implicitDefEqProofs [*]) <;> exact rfl)
    | (with_reducible apply Wo_nil)
    | ((with_reducible apply Wo_gt); (exact rfl); ((conv => lhs; simp -implicitDefEqProofs [*]) <;> exact rfl); (conv => lhs; simp -implicitDefEqProofs [*]) <;> exact rfl)
    | ((with_reducible apply Wo_gf); (exact rfl); ((conv => lhs; simp -implicitDefEqProofs [*]) <;> exact rfl); (exact rfl))
    | ((with_reducible apply Wo_gx); (exact rfl); ((conv => lhs; simp -implicitDefEqProofs [*]) <;> exact rfl))
    | ((with_reducible apply Wo_gsT); (exact rfl); ((conv => lhs; simp -implicitDefEqProofs [*]) <;> exact rfl))
    | ((with_reducible apply Wo_gsF); (exact rfl); ((conv => lhs; simp -implicitDefEqProofs [*]) <;> exact rfl))
    | ((with_reducible apply ex2); (conv => lhs; simp -implicitDefEqProofs [*]) <;> exact rfl)
    | (with_reducible apply W_ss) | (with_reducible apply W_srl) | (with_reducible apply W_rl)
    | ((with_reducible apply W_sc); (conv => lhs; simp -implicitDefEqProofs [*]) <;> exact rfl)
    | ((with_reducible apply W_c); (conv => lhs; simp -implicitDefEqProofs [*]) <;> exact rfl)
    | ((with_reducible apply W_srdl); kernel_rfl) | ((with_reducible apply W_rdl); kernel_rfl)
    | ((with_reducible apply Wd_u); (conv => lhs; simp -implicitDefEqProofs [*]) <;> exact rfl)
    | ((with_reducible apply Wd_n); (conv => lhs; simp -implicitDefEqProofs [*]) <;> exact rfl)
    | ((with_reducible apply Wd_nil); exact rfl)
    | ((with_reducible apply Wd_gsT); (exact rfl); ((conv => lhs; simp -implicitDefEqProofs [*]) <;> exact rfl))
    | ((with_reducible apply Wd_gsF); (exact rfl); ((conv => lhs; simp -implicitDefEqProofs [*]) <;> exact rfl))
    | ((with_reducible apply ex4); (conv => lhs; simp -implicitDefEqProofs [*]) <;> exact rfl)
    | (with_reducible apply W_sblock) | (with_reducible apply W_block) | (with_reducible apply W_sskip) | (with_reducible apply W_skip) | (with_reducible apply W_sret) | (with_reducible apply W_ret) | (with_reducible apply W_sexit) | (with_reducible apply W_exit)
    | (with_reducible apply thenW_n) | (with_reducible apply thenW_r) | (with_reducible apply thenW_e) | (with_reducible apply inB_n) | (with_reducible apply inB_r) | (with_reducible apply inB_e) | ((with_reducible apply inB_o); rotate_left; exact rfl)
    | ((with_reducible apply EndQ_ret); (conv => lhs; simp -implicitDefEqProofs [*]) <;> exact rfl) | ((with_reducible apply EndQ_normal); (conv => lhs; simp -implicitDefEqProofs [*]) <;> exact rfl)
    | (intro h h'; try simp [*, -h] at h'))
  all_goals simp [setsB, *]
set_option maxHeartbeats 1000000 in
@[simp] theorem e30 (op d a b k base size n : Int)  : (lim Try.prog E0 X0).dat 30 [.agg [iv op, iv d, iv a, iv b, iv k, iv base, iv size, .sc (.int .u32 n)]] = some [iv (setsZ op d)] := by
  refine fnW Try.func30 rfl rfl bodyOk_30 rfl rtys_30 rfl ?_
  repeat' (first
    | ((with_reducible apply Wo_u); (conv => lhs; simp -implicitDefEqProofs [*]) <;> exact rfl)
    | ((with_reducible apply Wo_n); (conv => lhs; simp -implicitDefEqProofs [*]) <;> exact rfl)
    | (with_reducible apply Wo_nil)
    | ((with_reducible apply Wo_gt); (exact rfl); ((conv => lhs; simp -implicitDefEqProofs [*]) <;> exact rfl); (conv => lhs; simp -implicitDefEqProofs [*]) <;> exact rfl)
    | ((with_reducible apply Wo_gf); (exact rfl); ((conv => lhs; simp -implicitDefEqProofs [*]) <;> exact rfl); (exact rfl))
    | ((with_reducible apply Wo_gx); (exact rfl); ((conv => lhs; simp -implicitDefEqProofs [*]) <;> exact rfl))
    | ((with_reducible apply Wo_gsT); (exact rfl); ((conv => lhs; simp -implicitDefEqProofs [*]) <;> exact rfl))
    | ((with_reducible apply Wo_gsF); (exact rfl); ((conv => lhs; simp -implicitDefEqProofs [*]) <;> exact rfl))
    | ((with_reducible apply ex2); (conv => lhs; simp -implicitDefEqProofs [*]) <;> exact rfl)
    | (with_reducible apply W_ss) | (with_reducible apply W_srl) | (with_reducible apply W_rl)
    | ((with_reducible apply W_sc); (conv => lhs; simp -implicitDefEqProofs [*]) <;> exact rfl)
    | ((with_reducible apply W_c); (conv => lhs; simp -implicitDefEqProofs [*]) <;> exact rfl)
    | ((with_reducible apply W_srdl); kernel_rfl) | ((with_reducible apply W_rdl); kernel_rfl)
    | ((with_reducible apply Wd_u); (conv => lhs; simp -implicitDefEqProofs [*]) <;> exact rfl)
    | ((with_reducible apply Wd_n); (conv => lhs; simp -implicitDefEqProofs [*]) <;> exact rfl)
    | ((with_reducible apply Wd_nil); exact rfl)
    | ((with_reducible apply Wd_gsT); (exact rfl); ((conv => lhs; simp -implicitDefEqProofs [*]) <;> exact rfl))
    | ((with_reducible apply Wd_gsF); (exact rfl); ((conv => lhs; simp -implicitDefEqProofs [*]) <;> exact rfl))
    | ((with_reducible apply ex4); (conv => lhs; simp -implicitDefEqProofs [*]) <;> exact rfl)
    | (with_reducible apply W_sblock) | (with_reducible apply W_block) | (with_reducible apply W_sskip) | (with_reducible apply W_skip) | (with_reducible apply W_sret) | (with_reducible apply W_ret) | (with_reducible apply W_sexit) | (with_reducible apply W_exit)
    | (with_reducible apply thenW_n) | (with_reducible apply thenW_r) | (with_reducible apply thenW_e) | (with_reducible apply inB_n) | (with_reducible apply inB_r) | (with_reducible apply inB_e) | ((with_reducible apply inB_o); rotate_left; exact rfl)
    | ((with_reducible apply EndQ_ret); (conv => lhs; simp -implicitDefEqProofs [*]) <;> exact rfl) | ((with_reducible apply EndQ_normal); (conv => lhs; simp -implicitDefEqProofs [*]) <;> exact rfl)
    | (intro h h'; try simp [*, -h] at h'))
  all_goals simp [setsZ, *]

/-! ### copies -/
def rowsF (l : List Int) : List (List AV) := l.map fun v => [iv v]
def rowsT (l : List (Option Nat)) : List (List AV) := l.map fun m => [.sc (.map m)]
theorem rowsF_len (l : List Int) : (rowsF l).length = l.length := by simp [rowsF]
theorem rowsT_len (l : List (Option Nat)) : (rowsT l).length = l.length := by simp [rowsT]
theorem rowsF_get (l : List Int) (i : Nat) : (rowsF l)[i]? = (l[i]?).map fun v => [iv v] := by simp [rowsF]
theorem rowsT_get (l : List (Option Nat)) (i : Nat) : (rowsT l)[i]? = (l[i]?).map fun v => [.sc (.map v)] := by simp [rowsT]
theorem rowsF_set (l : List Int) (i : Nat) (x : Int) : (rowsF l).set i [iv x] = rowsF (l.set i x) := by simp [rowsF, List.map_set]
theorem rowsT_set (l : List (Option Nat)) (i : Nat) (x : Option Nat) : (rowsT l).set i [.sc (.map x)] = rowsT (l.set i x) := by simp [rowsT, List.map_set]
abbrev nC : Nm := ⟨0, 5, 0⟩
abbrev nF : Nm := ⟨0, 5, 1⟩
abbrev nT : Nm := ⟨0, 5, 2⟩
/-- The struct copies, in the heap. -/
structure CS (hp : Hp) (g gf gt : Nat) (l : List Int) (to : List (Option Nat)) : Prop where
  box : hp nC = .box g [.own nF gf l.length, .own nT gt to.length] false
  from' : hp nF = .arr gf 1 3 (rowsF l) false
  to' : hp nT = .arr gt 1 78 (rowsT to) false
/-- Of each register: those that are copies of it. -/
structure CpOk (M : MM) (l : List Int) (to : List (Option Nat)) : Prop where
  len : to.length = l.length
  rng : ∀ (v : Nat) x, l[v]? = some x → 0 ≤ x ∧ x < l.length
  nil : ∀ (s : Nat), to[s]? = some none → ∀ v : Nat, l[v]? = some (s : Int) → v = s
  map : ∀ (s : Nat) b, to[s]? = some (some b) → ∃ es clock S, M b = some (.map es clock) ∧ MapOk es clock S ∧ S.Nodup ∧ ∀ n : Int, n ∈ S ↔ ∃ v : Nat, n = v ∧ l[v]? = some (s : Int) ∧ v ≠ s
  inj : ∀ (s s' : Nat) b, to[s]? = some (some b) → to[s']? = some (some b) → s = s'
def fwdForget (l : List Int) (d : Nat) : List Int := (l.mapIdx fun v x => if x = (d : Int) then (v : Int) else x).set d d
end Go.Proofs.Ytmfhdhiaokejdaa
