/- Law 47: the run of a mirror, walked. -/
import Derived.Test.YtdokejnokhicbaaGreatDoorMe
import Derived.Test.YtdokejnokhicbaaGreatDoorK3
import Derived.Lib.Hide
import Derived.Test.YtdokejnokhicbaaGreatDoorM4
import Derived.Test.YtdokejnokhicbaaGreatDoorM5
namespace Go.Proofs.YtdokejnokhicbaaGreatDoor
open Go Go.Ab
set_option linter.unusedSimpArgs false
set_option linter.unusedVariables false
attribute [-simp] Prog.bind getCs putCs
attribute [local simp ↓] run_bind
attribute [local simp ↓] runF_bind
attribute [local simp] run_getCsN runF_getCsN facetsC putCs_one run_putCsN runF_putCsN facetsW facetsH
theorem fnR {P : Program} {E : Cfg} {X : Orc} {f : Nat} {fn : Func} {c : Code} {args : List AV} {R : List AV → Prop} {ts : List TypeId} {rvs : List ResultVar} (hf : P.funcs[f]? = some fn) (hx : X.dat f args = none) (hb : fn.body = some c) (hok : bodyOk fn = true) (hl : args.length = fn.params.size + fn.nfree)
    (ht : rtys P f = ts) (hrv : fn.results.toList = rvs) (h : W P E 0 (lim P E X) c ⟨frame0 args, hp0⟩ (EndQ P ts rvs R)) : ∃ rs, (lim P E X).dat f args = some rs ∧ R rs := by
  obtain ⟨n, e, st, h1, h2⟩ := h
  cases e with
  | exit i => exact h2.elim
  | normal => obtain ⟨rs, hp', h3, h4⟩ := h2; exact ⟨rs, fnW hf hx hb hok hl ht hrv ⟨n, .normal, st, h1, rs, hp', h3, rfl⟩, h4⟩
  | ret => obtain ⟨rs, hp', h3, h4⟩ := h2; exact ⟨rs, fnW hf hx hb hok hl ht hrv ⟨n, .ret, st, h1, rs, hp', h3, rfl⟩, h4⟩
/-- What a run comes to: how it ended, what it put out. -/
def RunR (t : MS) (rs : List AV) : Prop := ∃ cs : List AV, rs = [.agg (iv t.pc :: uv (t.R 0) :: uv (t.R 1) :: uv (t.R 2) :: uv (t.R 3) :: uv (t.R 4) :: uv (t.R 5) :: uv (t.R 6) :: uv (t.R 7) :: uv (t.R 8) :: uv (t.R 9) :: uv (t.R 10) :: uv (t.R 11) :: uv (t.R 12) :: uv (t.R 13) :: uv (t.R 14) :: uv (t.R 15) :: .vec 1 [] :: iv 0 :: .sc (.string ⟨⟨toBytes t.out⟩⟩) :: iv t.steps :: iv t.en :: []), .vec 1 (cs.map fun x => [x])]
set_option maxRecDepth 20000 in
set_option maxHeartbeats 8000000 in
theorem d34 (l : List Int) (hl : l.length ≤ 60) (hU : ∀ x ∈ l, U x) (inp : ByteArray) (fuel k : Nat) (t : MS) (hr : Run l ⟨0, fun _ => 0, 0, 0, []⟩ k t) (ht : t.en = 1) (hk : k < fuel) (hf : fuel ≤ 100000) : ∃ rs, (lim Tryz.prog E47 X47).dat 73 [.agg [.sl false 1 (rowW (mirC l)), iv 0], .sc (.string inp), .agg [iv 0, uv 0, uv 0, uv 0, uv 0, uv 0, uv 0, uv 0, uv 0, uv 0, uv 0, uv 0, uv 0, uv 0, uv 0, uv 0, uv 0, .sl false 1 [], iv 0, .sc (.string ⟨#[]⟩), iv 0, iv 0], iv fuel] = some rs ∧ RunR t rs := by
  refine fnR Tryz.func73 rfl rfl bodyOk_73 rfl rtys_73 rfl ?_
  have h38 := d38 (mirC l) 0 (by rw [mirC_len]; omega) (mirC_U l hl hU)
  have hlen := mirC_len l
  have hDl : (rowD (mirC l)).length = (mirC l).length := by simp
  have hKl : (rowK (mirC l)).length = (mirC l).length := by simp
  have n1 : ((mirC l).length : Int) * 8 ≤ 140737488355328 := by omega
  have n2 : ((mirC l).length : Int) ≤ 140737488355328 := by omega
  have n3 : ((mirC l).length : Int) ≤ 9223372036854775807 := by omega
  generalize hD : rowD (mirC l) = RD at h38 hDl
  generalize hK : rowK (mirC l) = RK at h38 hKl
  clear hlen
  repeat' (first
    | ((with_reducible first | apply Wo_u | apply Wo_n | apply ex2 | apply W_sc | apply W_c | apply Wd_u | apply Wd_n | apply ex4 | apply EndQ_ret | apply EndQ_normal); (conv => lhs; simp -implicitDefEqProofs [*]) <;> exact rfl)
    | (with_reducible first | apply Wo_nil | apply W_ss | apply W_srl | apply W_rl | apply W_sblock | apply W_block | apply W_sskip | apply W_skip | apply W_sret | apply W_ret | apply W_sexit | apply W_exit | apply thenW_n | apply thenW_r | apply thenW_e | apply inB_n | apply inB_r | apply inB_e)
    | ((with_reducible apply Wo_gt); (exact rfl); ((conv => lhs; simp -implicitDefEqProofs [*]) <;> exact rfl); (conv => lhs; simp -implicitDefEqProofs [*]) <;> exact rfl)
    | ((with_reducible apply Wo_gf); (exact rfl); ((conv => lhs; simp -implicitDefEqProofs [*]) <;> exact rfl); (exact rfl))
    | ((with_reducible apply Wo_gx); (exact rfl); ((conv => lhs; simp -implicitDefEqProofs [*]) <;> exact rfl))
    | ((with_reducible apply Wo_gsT); (exact rfl); ((conv => lhs; simp -implicitDefEqProofs [*]) <;> exact rfl))
    | ((with_reducible apply Wo_gsF); (exact rfl); ((conv => lhs; simp -implicitDefEqProofs [*]) <;> exact rfl))
    | ((with_reducible apply Wd_gsT); (exact rfl); ((conv => lhs; simp -implicitDefEqProofs [*]) <;> exact rfl))
    | ((with_reducible apply Wd_gsF); (exact rfl); ((conv => lhs; simp -implicitDefEqProofs [*]) <;> exact rfl))
    | ((with_reducible first | apply W_srdl | apply W_rdl); kernel_rfl)
    | ((with_reducible apply Wd_nil); exact rfl)
    | ((with_reducible apply inB_o); rotate_left; exact rfl)
    | (intro h h'; try simp [*, -h] at h'))
  refine W_loopS (n := k) (fun s0 m s => ∃ (i : Nat) (st : MS) (g : Nat) (cs : List Int), i + m = k ∧ Run l st m t ∧ s.fr 14 = iv i ∧ s.fr 13 = s0.fr 13 ∧ s.fr 3 = s0.fr 3 ∧ s.fr 8 = s0.fr 8 ∧ s.fr 9 = s0.fr 9 ∧ s.hp ⟨0, 13, 0⟩ = .box 1 (bxc st g (mirC l).length (mirC l) inp) false ∧ s.hp ⟨0, 13, 23⟩ = .arr g 1 5 (rowB st.out) false ∧ s.hp ⟨0, 13, 28⟩ = .arr 2 1 3 (rowI cs) false ∧ cs.length = (mirC l).length ∧ ∀ y : Nm, y.d = 0 → y ≠ ⟨0, 13, 0⟩ → y ≠ ⟨0, 13, 23⟩ → y ≠ ⟨0, 13, 28⟩ → s.hp y = s0.hp y) ⟨0, _, 2, List.replicate (mirC l).length 0, by simp, hr, by simp, by simp, by simp, by simp, by simp, by simp [bxc], by simp, by simp, by simp, fun y _ _ _ _ => rfl⟩ ?_
  rintro m ⟨fr, hp⟩ ⟨i, st, g, cs, him, hrun, hs14, hs13, hs3, hs8, hs9, hx, ho, hn, hnl, hfr⟩
  have hC := hfr ⟨0, 13, 24⟩ rfl (by simp) (by simp) (by simp)
  have hKK := hfr ⟨0, 13, 25⟩ rfl (by simp) (by simp) (by simp)
  have h18 := hfr ⟨0, 13, 18⟩ rfl (by simp) (by simp) (by simp)
  have h80 := hfr ⟨0, 8, 0⟩ rfl (by simp) (by simp) (by simp)
  have h818 := hfr ⟨0, 8, 18⟩ rfl (by simp) (by simp) (by simp)
  have h90 := hfr ⟨0, 9, 0⟩ rfl (by simp) (by simp) (by simp)
  simp at hs14 hs13 hs3 hs8 hs9 hC hKK h18 h80 h818 h90
  simp only at hx ho hn
  have hfr' := Lib.hid hfr
  clear hfr
  have hmf : (i : Int) < fuel := by omega
  have hiw := wrapN (k := i) (by omega)
  cases m with
  | zero =>
    obtain rfl : st = t := by cases hrun; rfl
    clear hr hrun hfr' him
    obtain ⟨p, R, sn, en, out⟩ := st
    simp only at ht
    subst ht
    simp only [bxc] at hx
    simp only at ho
    have hbr := bytes_rowB out
    have htk : (rowB out).take out.length = rowB out := List.take_of_length_le (by simp)
    have htn : (rowI cs).take (mirC l).length = rowI cs := List.take_of_length_le (by simp [hnl])
    have hnl2 : (rowI cs).length = (mirC l).length := by simp [hnl]
    repeat' (first
      | ((with_reducible first | apply Wo_u | apply Wo_n | apply ex2 | apply W_sc | apply W_c | apply Wd_u | apply Wd_n | apply ex4 | apply EndQ_ret | apply EndQ_normal); (conv => lhs; simp -implicitDefEqProofs [*]) <;> exact rfl)
      | (with_reducible first | apply Wo_nil | apply W_ss | apply W_srl | apply W_rl | apply W_sblock | apply W_block | apply W_sskip | apply W_skip | apply W_sret | apply W_ret | apply W_sexit | apply W_exit | apply thenW_n | apply thenW_r | apply thenW_e | apply inB_n | apply inB_r | apply inB_e)
      | ((with_reducible apply Wo_gt); (exact rfl); ((conv => lhs; simp -implicitDefEqProofs [*]) <;> exact rfl); (conv => lhs; simp -implicitDefEqProofs [*]) <;> exact rfl)
      | ((with_reducible apply Wo_gf); (exact rfl); ((conv => lhs; simp -implicitDefEqProofs [*]) <;> exact rfl); (exact rfl))
      | ((with_reducible apply Wo_gx); (exact rfl); ((conv => lhs; simp -implicitDefEqProofs [*]) <;> exact rfl))
      | ((with_reducible apply Wo_gsT); (exact rfl); ((conv => lhs; simp -implicitDefEqProofs [*]) <;> exact rfl))
      | ((with_reducible apply Wo_gsF); (exact rfl); ((conv => lhs; simp -implicitDefEqProofs [*]) <;> exact rfl))
      | ((with_reducible apply Wd_gsT); (exact rfl); ((conv => lhs; simp -implicitDefEqProofs [*]) <;> exact rfl))
      | ((with_reducible apply Wd_gsF); (exact rfl); ((conv => lhs; simp -implicitDefEqProofs [*]) <;> exact rfl))
      | ((with_reducible first | apply W_srdl | apply W_rdl); kernel_rfl)
      | ((with_reducible apply Wd_nil); exact rfl)
      | ((with_reducible apply inB_o); rotate_left; exact rfl)
      | (intro h h'; try simp [*, -h] at h'))
    all_goals exact ⟨cs.map iv, by simp⟩
  | succ m =>
    obtain ⟨hok, r⟩ : Ok l st ∧ Run l (nx l st) m t := by cases hrun with | step h r => exact ⟨h, r⟩
    obtain ⟨hp', g', cs', h39, hpo⟩ := h39 l hl st hok g inp cs 60 hp hx ho (by rw [hD]; exact hC) (by rw [hK]; exact hKK) hn hnl
    have hen := hok.1
    have hpo' := Lib.hid hpo
    have r' := Lib.hid r
    clear hr hrun hpo r hok
    simp only [bxc, hen] at hx
    clear hen
    repeat' (first
      | ((with_reducible first | apply Wo_u | apply Wo_n | apply ex2 | apply W_sc | apply W_c | apply Wd_u | apply Wd_n | apply ex4 | apply EndQ_ret | apply EndQ_normal); (conv => lhs; simp -implicitDefEqProofs [*]) <;> exact rfl)
      | (with_reducible first | apply Wo_nil | apply W_ss | apply W_srl | apply W_rl | apply W_sblock | apply W_block | apply W_sskip | apply W_skip | apply W_sret | apply W_ret | apply W_sexit | apply W_exit | apply thenW_n | apply thenW_r | apply thenW_e | apply inB_n | apply inB_r | apply inB_e)
      | ((with_reducible apply Wo_gt); (exact rfl); ((conv => lhs; simp -implicitDefEqProofs [*]) <;> exact rfl); (conv => lhs; simp -implicitDefEqProofs [*]) <;> exact rfl)
      | ((with_reducible apply Wo_gf); (exact rfl); ((conv => lhs; simp -implicitDefEqProofs [*]) <;> exact rfl); (exact rfl))
      | ((with_reducible apply Wo_gx); (exact rfl); ((conv => lhs; simp -implicitDefEqProofs [*]) <;> exact rfl))
      | ((with_reducible apply Wo_gsT); (exact rfl); ((conv => lhs; simp -implicitDefEqProofs [*]) <;> exact rfl))
      | ((with_reducible apply Wo_gsF); (exact rfl); ((conv => lhs; simp -implicitDefEqProofs [*]) <;> exact rfl))
      | ((with_reducible apply Wd_gsT); (exact rfl); ((conv => lhs; simp -implicitDefEqProofs [*]) <;> exact rfl))
      | ((with_reducible apply Wd_gsF); (exact rfl); ((conv => lhs; simp -implicitDefEqProofs [*]) <;> exact rfl))
      | ((with_reducible first | apply W_srdl | apply W_rdl); kernel_rfl)
      | ((with_reducible apply Wd_nil); exact rfl)
      | ((with_reducible apply inB_o); rotate_left; exact rfl)
      | (intro h h'; try simp [*, -h] at h'))
    obtain ⟨q1, q2, q3, q4, q5⟩ := hpo'.out
    exact ⟨m, by omega, i + 1, nx l st, g', cs', by omega, r'.out, by simp [*], by simp [*], by simp [*], by simp [*], by simp [*], q1, q2, q3, q4, fun y y0 y1 y2 y3 => (q5 y y0 y1 y2 y3).trans (hfr'.out y y0 y1 y2 y3)⟩
end Go.Proofs.YtdokejnokhicbaaGreatDoor

namespace Go.Proofs.YtdokejnokhicbaaGreatDoor
open Go Go.Ab
set_option linter.unusedSimpArgs false
set_option linter.unusedVariables false
attribute [-simp] Prog.bind getCs putCs
attribute [local simp ↓] run_bind
attribute [local simp ↓] runF_bind
attribute [local simp] run_getCsN runF_getCsN facetsC putCs_one run_putCsN runF_putCsN facetsW facetsH
def GoR (t : MS) (rs : List AV) : Prop := rs = [.agg (iv t.pc :: uv (t.R 0) :: uv (t.R 1) :: uv (t.R 2) :: uv (t.R 3) :: uv (t.R 4) :: uv (t.R 5) :: uv (t.R 6) :: uv (t.R 7) :: uv (t.R 8) :: uv (t.R 9) :: uv (t.R 10) :: uv (t.R 11) :: uv (t.R 12) :: uv (t.R 13) :: uv (t.R 14) :: uv (t.R 15) :: .vec 1 [] :: iv 0 :: .sc (.string ⟨⟨toBytes t.out⟩⟩) :: iv t.steps :: iv t.en :: [])]
set_option maxRecDepth 20000 in
set_option maxHeartbeats 8000000 in
theorem d27 (l : List Int) (hl : l.length ≤ 60) (hU : ∀ x ∈ l, U x) (inp : ByteArray) (fuel k : Nat) (t : MS) (hr : Run l ⟨0, fun _ => 0, 0, 0, []⟩ k t) (ht : t.en = 1) (hk : k < fuel) (hf : fuel ≤ 100000) : (lim Tryz.prog E47 X47).dat 46 [.agg [.sl false 1 (rowW (mirC l)), iv 0], .sc (.string inp), .agg [iv 0, uv 0, uv 0, uv 0, uv 0, uv 0, uv 0, uv 0, uv 0, uv 0, uv 0, uv 0, uv 0, uv 0, uv 0, uv 0, uv 0, .sl false 1 [], iv 0, .sc (.string ⟨#[]⟩), iv 0, iv 0], iv fuel] = some [.agg (iv t.pc :: uv (t.R 0) :: uv (t.R 1) :: uv (t.R 2) :: uv (t.R 3) :: uv (t.R 4) :: uv (t.R 5) :: uv (t.R 6) :: uv (t.R 7) :: uv (t.R 8) :: uv (t.R 9) :: uv (t.R 10) :: uv (t.R 11) :: uv (t.R 12) :: uv (t.R 13) :: uv (t.R 14) :: uv (t.R 15) :: .vec 1 [] :: iv 0 :: .sc (.string ⟨⟨toBytes t.out⟩⟩) :: iv t.steps :: iv t.en :: [])] := by
  refine fnW Tryz.func46 rfl rfl bodyOk_46 rfl rtys_46 rfl ?_
  obtain ⟨rs, h34, cs, rfl⟩ := d34 l hl hU inp fuel k t hr ht hk hf
  clear hr
  repeat' (first
    | ((with_reducible first | apply Wo_u | apply Wo_n | apply ex2 | apply W_sc | apply W_c | apply Wd_u | apply Wd_n | apply ex4 | apply EndQ_ret | apply EndQ_normal); (conv => lhs; simp -implicitDefEqProofs [*]) <;> exact rfl)
    | (with_reducible first | apply Wo_nil | apply W_ss | apply W_srl | apply W_rl | apply W_sblock | apply W_block | apply W_sskip | apply W_skip | apply W_sret | apply W_ret | apply W_sexit | apply W_exit | apply thenW_n | apply thenW_r | apply thenW_e | apply inB_n | apply inB_r | apply inB_e)
    | ((with_reducible apply Wo_gt); (exact rfl); ((conv => lhs; simp -implicitDefEqProofs [*]) <;> exact rfl); (conv => lhs; simp -implicitDefEqProofs [*]) <;> exact rfl)
    | ((with_reducible apply Wo_gf); (exact rfl); ((conv => lhs; simp -implicitDefEqProofs [*]) <;> exact rfl); (exact rfl))
    | ((with_reducible apply Wo_gx); (exact rfl); ((conv => lhs; simp -implicitDefEqProofs [*]) <;> exact rfl))
    | ((with_reducible apply Wo_gsT); (exact rfl); ((conv => lhs; simp -implicitDefEqProofs [*]) <;> exact rfl))
    | ((with_reducible apply Wo_gsF); (exact rfl); ((conv => lhs; simp -implicitDefEqProofs [*]) <;> exact rfl))
    | ((with_reducible apply Wd_gsT); (exact rfl); ((conv => lhs; simp -implicitDefEqProofs [*]) <;> exact rfl))
    | ((with_reducible apply Wd_gsF); (exact rfl); ((conv => lhs; simp -implicitDefEqProofs [*]) <;> exact rfl))
    | ((with_reducible first | apply W_srdl | apply W_rdl); kernel_rfl)
    | ((with_reducible apply Wd_nil); exact rfl)
    | ((with_reducible apply inB_o); rotate_left; exact rfl)
    | (intro h h'; try simp [*, -h] at h'))
  all_goals rw [ht]
theorem d21 (l : List Int) (hl : l.length ≤ 60) (hU : ∀ x ∈ l, U x) (inp : ByteArray) (fuel k : Nat) (t : MS) (hr : Run l ⟨0, fun _ => 0, 0, 0, []⟩ k t) (ht : t.en = 1) (hk : k < fuel) (hf : fuel ≤ 100000) : (lim Tryz.prog E47 X47).dat 25 [.agg [.sl false 1 (rowW (mirC l)), iv 0], .sc (.string inp), iv fuel] = some [.agg [iv 1, .sc (.string ⟨⟨toBytes t.out⟩⟩), iv t.steps]] := by
  refine fnW Tryz.func25 rfl rfl bodyOk_25 rfl rtys_25 rfl ?_
  have h27 := d27 l hl hU inp fuel k t hr ht hk hf
  have h28 := d28 (mirC l)
  simp at h28
  rw [ht] at h27
  clear hr
  repeat' (first
    | ((with_reducible first | apply Wo_u | apply Wo_n | apply ex2 | apply W_sc | apply W_c | apply Wd_u | apply Wd_n | apply ex4 | apply EndQ_ret | apply EndQ_normal); (conv => lhs; simp -implicitDefEqProofs [*]) <;> exact rfl)
    | (with_reducible first | apply Wo_nil | apply W_ss | apply W_srl | apply W_rl | apply W_sblock | apply W_block | apply W_sskip | apply W_skip | apply W_sret | apply W_ret | apply W_sexit | apply W_exit | apply thenW_n | apply thenW_r | apply thenW_e | apply inB_n | apply inB_r | apply inB_e)
    | ((with_reducible apply Wo_gt); (exact rfl); ((conv => lhs; simp -implicitDefEqProofs [*]) <;> exact rfl); (conv => lhs; simp -implicitDefEqProofs [*]) <;> exact rfl)
    | ((with_reducible apply Wo_gf); (exact rfl); ((conv => lhs; simp -implicitDefEqProofs [*]) <;> exact rfl); (exact rfl))
    | ((with_reducible apply Wo_gx); (exact rfl); ((conv => lhs; simp -implicitDefEqProofs [*]) <;> exact rfl))
    | ((with_reducible apply Wo_gsT); (exact rfl); ((conv => lhs; simp -implicitDefEqProofs [*]) <;> exact rfl))
    | ((with_reducible apply Wo_gsF); (exact rfl); ((conv => lhs; simp -implicitDefEqProofs [*]) <;> exact rfl))
    | ((with_reducible apply Wd_gsT); (exact rfl); ((conv => lhs; simp -implicitDefEqProofs [*]) <;> exact rfl))
    | ((with_reducible apply Wd_gsF); (exact rfl); ((conv => lhs; simp -implicitDefEqProofs [*]) <;> exact rfl))
    | ((with_reducible first | apply W_srdl | apply W_rdl); kernel_rfl)
    | ((with_reducible apply Wd_nil); exact rfl)
    | ((with_reducible apply inB_o); rotate_left; exact rfl)
    | (intro h h'; try simp [*, -h] at h'))
  all_goals rfl
theorem d11 (l : List Int) (hl : l.length ≤ 60) (hU : ∀ x ∈ l, U x) (inp : ByteArray) : (lim Tryz.prog E47 X47).dat 12 [.sc (.string (txtI (mirC l) 0)), .sc (.string inp)] = some [bv true] := by
  refine fnW Tryz.func12 rfl rfl bodyOk_12 rfl rtys_12 rfl ?_
  have hlen := mirC_len l
  obtain ⟨t, hr, ht, ho⟩ := run_mirror l hl hU
  obtain ⟨fuel, hfu⟩ : ∃ fuel, fuel = 100 * (mirC l).length + 1000 := ⟨_, rfl⟩
  have h21 := d21 l hl hU inp fuel _ t hr ht (by omega) (by omega)
  obtain ⟨i1, i2, i3⟩ := img_txtI (mirC l) 0 (by omega) (by omega) (mirC_U l hl hU)
  have h9 := d9 (txtI (mirC l) 0) (by rw [txtI_size]; omega)
  unfold readR at h9
  rw [if_pos i1, i2, i3] at h9
  have hout : (⟨⟨toBytes t.out⟩⟩ : ByteArray) = txtI (mirC l) 0 := by
    apply ba_ext
    rw [txtI_list, ho]
    simp [toBytes_app, bys_cons, toBytes]
  rw [hout] at h21
  clear hr ho i1 i2 i3 hout
  have w1 : IntKind.i64.wrap (100 * ((mirC l).length : Int)) = 100 * ((mirC l).length : Int) := wrap64 (by omega) (by omega)
  have w2 : IntKind.i64.wrap (100 * ((mirC l).length : Int) + 1000) = fuel := by rw [wrap64 (by omega) (by omega)]; omega
  have htk : (rowW (mirC l)).take (mirC l).length = rowW (mirC l) := List.take_of_length_le (by simp)
  clear hlen hfu ht
  generalize txtI (mirC l) 0 = T at *
  repeat' (first
    | ((with_reducible first | apply Wo_u | apply Wo_n | apply ex2 | apply W_sc | apply W_c | apply Wd_u | apply Wd_n | apply ex4 | apply EndQ_ret | apply EndQ_normal); (conv => lhs; simp -implicitDefEqProofs [*]) <;> exact rfl)
    | (with_reducible first | apply Wo_nil | apply W_ss | apply W_srl | apply W_rl | apply W_sblock | apply W_block | apply W_sskip | apply W_skip | apply W_sret | apply W_ret | apply W_sexit | apply W_exit | apply thenW_n | apply thenW_r | apply thenW_e | apply inB_n | apply inB_r | apply inB_e)
    | ((with_reducible apply Wo_gt); (exact rfl); ((conv => lhs; simp -implicitDefEqProofs [*]) <;> exact rfl); (conv => lhs; simp -implicitDefEqProofs [*]) <;> exact rfl)
    | ((with_reducible apply Wo_gf); (exact rfl); ((conv => lhs; simp -implicitDefEqProofs [*]) <;> exact rfl); (exact rfl))
    | ((with_reducible apply Wo_gx); (exact rfl); ((conv => lhs; simp -implicitDefEqProofs [*]) <;> exact rfl))
    | ((with_reducible apply Wo_gsT); (exact rfl); ((conv => lhs; simp -implicitDefEqProofs [*]) <;> exact rfl))
    | ((with_reducible apply Wo_gsF); (exact rfl); ((conv => lhs; simp -implicitDefEqProofs [*]) <;> exact rfl))
    | ((with_reducible apply Wd_gsT); (exact rfl); ((conv => lhs; simp -implicitDefEqProofs [*]) <;> exact rfl))
    | ((with_reducible apply Wd_gsF); (exact rfl); ((conv => lhs; simp -implicitDefEqProofs [*]) <;> exact rfl))
    | ((with_reducible first | apply W_srdl | apply W_rdl); kernel_rfl)
    | ((with_reducible apply Wd_nil); exact rfl)
    | ((with_reducible apply inB_o); rotate_left; exact rfl)
    | (intro h h'; try simp [*, -h] at h'))
  all_goals rfl
end Go.Proofs.YtdokejnokhicbaaGreatDoor
