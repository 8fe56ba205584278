/- Law 47, KitMirror: at every payload and input, without a condition, the call answers true and leaves its arguments as they were. -/
import Derived.Test.YtdokejnokhicbaaMh
import Derived.Test.YtdokejnokhicbaaMi
namespace Go.Proofs.Ytdokejnokhicbaa
open Go Go.Ab
set_option linter.unusedSimpArgs false
set_option linter.unusedVariables false
attribute [-simp] Prog.bind getCs putCs
attribute [local simp ↓] run_bind
attribute [local simp ↓] runF_bind
attribute [local simp] run_getCsN runF_getCsN facetsC putCs_one run_putCsN runF_putCsN facetsW facetsH
set_option maxHeartbeats 4000000 in
theorem d3 (l : List Int) (inp : ByteArray) (hU : ∀ x ∈ l, U x) : (lim Try.prog E47 X47).dat 3 [.sl false 1 (rowW l), .sc (.string inp)] = some [bv true] := by
  refine fnW Try.func3 rfl rfl bodyOk_3 rfl rtys_3 rfl ?_
  have h7 := d7
  by_cases c1 : (60 : Int) < l.length
  · clear hU
    repeat' (first
      | ((with_reducible apply Wo_u); (conv => lhs; simp -implicitDefEqProofs [*]) <;> exact rfl)
      | ((with_reducible apply Wo_n); (conv => lhs; simp -implicitDefEqProofs [*]) <;> exact rfl)
      | (with_reducible apply Wo_nil)
      | ((with_reducible apply Wo_gt); (exact rfl); ((conv => lhs; simp -implicitDefEqProofs [*]) <;> exact rfl); (conv => lhs; simp -implicitDefEqProofs [*]) <;> exact rfl)
      | ((with_reducible apply Wo_gf); (exact rfl); ((conv => lhs; simp -implicitDefEqProofs [*]) <;> exact rfl); (exact rfl))
      | ((with_reducible apply Wo_gx); (exact rfl); ((conv => lhs; simp -implicitDefEqProofs [*]) <;> exact rfl))
      | ((with_reducible apply Wo_gsT); (exact rfl); ((conv => lhs; simp -implicitDefEqProofs [*]) <;> exact rfl))
      | ((with_reducible apply Wo_gsF); (exact rfl); ((conv => lhs; simp -implicitDefEqProofs [*]) <;> exact rfl))
      | ((with_reducible apply ex2); (conv => lhs; simp -implicitDefEqProofs [*]) <;> exact rfl)
      | (with_reducible apply W_ss) | (with_reducible apply W_srl) | (with_reducible apply W_rl)
      | ((with_reducible apply W_sc); (conv => lhs; simp -implicitDefEqProofs [*]) <;> exact rfl)
      | ((with_reducible apply W_c); (conv => lhs; simp -implicitDefEqProofs [*]) <;> exact rfl)
      | ((with_reducible apply W_srdl); kernel_rfl) | ((with_reducible apply W_rdl); kernel_rfl)
      | ((with_reducible apply Wd_u); (conv => lhs; simp -implicitDefEqProofs [*]) <;> exact rfl)
      | ((with_reducible apply Wd_n); (conv => lhs; simp -implicitDefEqProofs [*]) <;> exact rfl)
      | ((with_reducible apply Wd_nil); exact rfl)
      | ((with_reducible apply Wd_gsT); (exact rfl); ((conv => lhs; simp -implicitDefEqProofs [*]) <;> exact rfl))
      | ((with_reducible apply Wd_gsF); (exact rfl); ((conv => lhs; simp -implicitDefEqProofs [*]) <;> exact rfl))
      | ((with_reducible apply ex4); (conv => lhs; simp -implicitDefEqProofs [*]) <;> exact rfl)
      | (with_reducible apply W_sblock) | (with_reducible apply W_block) | (with_reducible apply W_sskip) | (with_reducible apply W_skip) | (with_reducible apply W_sret) | (with_reducible apply W_ret) | (with_reducible apply W_sexit) | (with_reducible apply W_exit)
      | (with_reducible apply thenW_n) | (with_reducible apply thenW_r) | (with_reducible apply thenW_e) | (with_reducible apply inB_n) | (with_reducible apply inB_r) | (with_reducible apply inB_e) | ((with_reducible apply inB_o); rotate_left; exact rfl)
      | ((with_reducible apply EndQ_ret); (conv => lhs; simp -implicitDefEqProofs [*]) <;> exact rfl) | ((with_reducible apply EndQ_normal); (conv => lhs; simp -implicitDefEqProofs [*]) <;> exact rfl)
      | (intro h h'; try simp [*, -h] at h'))
    all_goals rfl
  · by_cases c2 : (200 : Int) < inp.size
    · clear hU
      repeat' (first
        | ((with_reducible apply Wo_u); (conv => lhs; simp -implicitDefEqProofs [*]) <;> exact rfl)
        | ((with_reducible apply Wo_n); (conv => lhs; simp -implicitDefEqProofs [*]) <;> exact rfl)
        | (with_reducible apply Wo_nil)
        | ((with_reducible apply Wo_gt); (exact rfl); ((conv => lhs; simp -implicitDefEqProofs [*]) <;> exact rfl); (conv => lhs; simp -implicitDefEqProofs [*]) <;> exact rfl)
        | ((with_reducible apply Wo_gf); (exact rfl); ((conv => lhs; simp -implicitDefEqProofs [*]) <;> exact rfl); (exact rfl))
        | ((with_reducible apply Wo_gx); (exact rfl); ((conv => lhs; simp -implicitDefEqProofs [*]) <;> exact rfl))
        | ((with_reducible apply Wo_gsT); (exact rfl); ((conv => lhs; simp -implicitDefEqProofs [*]) <;> exact rfl))
        | ((with_reducible apply Wo_gsF); (exact rfl); ((conv => lhs; simp -implicitDefEqProofs [*]) <;> exact rfl))
        | ((with_reducible apply ex2); (conv => lhs; simp -implicitDefEqProofs [*]) <;> exact rfl)
        | (with_reducible apply W_ss) | (with_reducible apply W_srl) | (with_reducible apply W_rl)
        | ((with_reducible apply W_sc); (conv => lhs; simp -implicitDefEqProofs [*]) <;> exact rfl)
        | ((with_reducible apply W_c); (conv => lhs; simp -implicitDefEqProofs [*]) <;> exact rfl)
        | ((with_reducible apply W_srdl); kernel_rfl) | ((with_reducible apply W_rdl); kernel_rfl)
        | ((with_reducible apply Wd_u); (conv => lhs; simp -implicitDefEqProofs [*]) <;> exact rfl)
        | ((with_reducible apply Wd_n); (conv => lhs; simp -implicitDefEqProofs [*]) <;> exact rfl)
        | ((with_reducible apply Wd_nil); exact rfl)
        | ((with_reducible apply Wd_gsT); (exact rfl); ((conv => lhs; simp -implicitDefEqProofs [*]) <;> exact rfl))
        | ((with_reducible apply Wd_gsF); (exact rfl); ((conv => lhs; simp -implicitDefEqProofs [*]) <;> exact rfl))
        | ((with_reducible apply ex4); (conv => lhs; simp -implicitDefEqProofs [*]) <;> exact rfl)
        | (with_reducible apply W_sblock) | (with_reducible apply W_block) | (with_reducible apply W_sskip) | (with_reducible apply W_skip) | (with_reducible apply W_sret) | (with_reducible apply W_ret) | (with_reducible apply W_sexit) | (with_reducible apply W_exit)
        | (with_reducible apply thenW_n) | (with_reducible apply thenW_r) | (with_reducible apply thenW_e) | (with_reducible apply inB_n) | (with_reducible apply inB_r) | (with_reducible apply inB_e) | ((with_reducible apply inB_o); rotate_left; exact rfl)
        | ((with_reducible apply EndQ_ret); (conv => lhs; simp -implicitDefEqProofs [*]) <;> exact rfl) | ((with_reducible apply EndQ_normal); (conv => lhs; simp -implicitDefEqProofs [*]) <;> exact rfl)
        | (intro h h'; try simp [*, -h] at h'))
      all_goals rfl
    · have h8 := d8 l (by omega) hU
      have h11 := d11 l (by omega) hU inp
      have h10 := d10 (mcode ((28 + l.length : Nat) : Int)) l (by omega) (by rw [mcode_len]; omega)
      have hlen := mirC_len l
      obtain ⟨i1, i2, i3⟩ := img_txtI (mirC l) 0 (by omega) (by omega) (mirC_U l (by omega) hU)
      have h9 := d9 (txtI (mirC l) 0) (by rw [txtI_size]; omega)
      unfold readR at h9
      rw [if_pos i1, i2, i3] at h9
      change (lim Try.prog E47 X47).dat 10 [.sl false 1 (rowW l), .sl false 1 (rowW (mirC l))] = _ at h10
      have htk : (rowW (mirC l)).take (mirC l).length = rowW (mirC l) := List.take_of_length_le (by simp)
      have hrl : (rowW (mirC l)).length = (mirC l).length := by simp
      generalize rowW (mirC l) = RM at *
      clear hU i1 i2 i3 hlen
      generalize txtI (mirC l) 0 = T at *
      repeat' (first
        | ((with_reducible apply Wo_u); (conv => lhs; simp -implicitDefEqProofs [*]) <;> exact rfl)
        | ((with_reducible apply Wo_n); (conv => lhs; simp -implicitDefEqProofs [*]) <;> exact rfl)
        | (with_reducible apply Wo_nil)
        | ((with_reducible apply Wo_gt); (exact rfl); ((conv => lhs; simp -implicitDefEqProofs [*]) <;> exact rfl); (conv => lhs; simp -implicitDefEqProofs [*]) <;> exact rfl)
        | ((with_reducible apply Wo_gf); (exact rfl); ((conv => lhs; simp -implicitDefEqProofs [*]) <;> exact rfl); (exact rfl))
        | ((with_reducible apply Wo_gx); (exact rfl); ((conv => lhs; simp -implicitDefEqProofs [*]) <;> exact rfl))
        | ((with_reducible apply Wo_gsT); (exact rfl); ((conv => lhs; simp -implicitDefEqProofs [*]) <;> exact rfl))
        | ((with_reducible apply Wo_gsF); (exact rfl); ((conv => lhs; simp -implicitDefEqProofs [*]) <;> exact rfl))
        | ((with_reducible apply ex2); (conv => lhs; simp -implicitDefEqProofs [*]) <;> exact rfl)
        | (with_reducible apply W_ss) | (with_reducible apply W_srl) | (with_reducible apply W_rl)
        | ((with_reducible apply W_sc); (conv => lhs; simp -implicitDefEqProofs [*]) <;> exact rfl)
        | ((with_reducible apply W_c); (conv => lhs; simp -implicitDefEqProofs [*]) <;> exact rfl)
        | ((with_reducible apply W_srdl); kernel_rfl) | ((with_reducible apply W_rdl); kernel_rfl)
        | ((with_reducible apply Wd_u); (conv => lhs; simp -implicitDefEqProofs [*]) <;> exact rfl)
        | ((with_reducible apply Wd_n); (conv => lhs; simp -implicitDefEqProofs [*]) <;> exact rfl)
        | ((with_reducible apply Wd_nil); exact rfl)
        | ((with_reducible apply Wd_gsT); (exact rfl); ((conv => lhs; simp -implicitDefEqProofs [*]) <;> exact rfl))
        | ((with_reducible apply Wd_gsF); (exact rfl); ((conv => lhs; simp -implicitDefEqProofs [*]) <;> exact rfl))
        | ((with_reducible apply ex4); (conv => lhs; simp -implicitDefEqProofs [*]) <;> exact rfl)
        | (with_reducible apply W_sblock) | (with_reducible apply W_block) | (with_reducible apply W_sskip) | (with_reducible apply W_skip) | (with_reducible apply W_sret) | (with_reducible apply W_ret) | (with_reducible apply W_sexit) | (with_reducible apply W_exit)
        | (with_reducible apply thenW_n) | (with_reducible apply thenW_r) | (with_reducible apply thenW_e) | (with_reducible apply inB_n) | (with_reducible apply inB_r) | (with_reducible apply inB_e) | ((with_reducible apply inB_o); rotate_left; exact rfl)
        | ((with_reducible apply EndQ_ret); (conv => lhs; simp -implicitDefEqProofs [*]) <;> exact rfl) | ((with_reducible apply EndQ_normal); (conv => lhs; simp -implicitDefEqProofs [*]) <;> exact rfl)
        | (intro h h'; try simp [*, -h] at h'))
      all_goals rfl
end Go.Proofs.Ytdokejnokhicbaa

namespace Go.Proofs.Ytdokejnokhicbaa
open Go Go.Ab Go.ChangeShapes Go.WideShapes Go.ChangeAt Go.RowKit
set_option linter.unusedSimpArgs false
set_option linter.unusedVariables false
theorem contract3 {call : Orc} (hC : DatOk Try.prog call) (hall : ∀ (x0 : List Int) (x1 : ByteArray), (∀ a ∈ x0, (Lit.int .u32 a).wf = true) → True → call.dat 3 [.sl false 1 (rowW x0), .sc (.string x1)] = some [.sc (.bool true)]) (H : Type) (enc : TypeId × Value → H) (W : World) (base : Nat) (args : Array Value) (ds gs : List (DataW H)) (before : List MemPlace)
    (hval : ∀ (j : Nat) t v, Try.f3.params[j]? = some t → args[j]? = some v → Value.okWide Try.prog W .any base t v)
    (hW : DataW.Whole enc Try.prog Try.f3.params.toList Rows.kitMirrorSpec.vars false W args.toList ds gs before) :
    Calls Try.prog 3 args W fun e W' => ∃ v, e = .returned v ∧ Rows.kitMirrorSpec.post enc Try.prog Try.f3 false true false false W args v W' := by
  have hW' := hW
  obtain ⟨p, q, hA0, hV, rfl, hfz, hnd⟩ := hW
  have hA : DataW.TrodAll enc Try.prog W 0 (fun _ => true) true Try.f3.params.toList args.toList ds p := hA0
  rw [Try.params3] at hA hval
  obtain ⟨v0, vs0, d0, ds0, p0, q0, hargs, rfl, rfl, h0, r0⟩ := trodAll_cons hA
  obtain ⟨v1, vs1, d1, ds1, p1, q1, rfl, rfl, rfl, h1, r1⟩ := trodAll_cons r0
  obtain ⟨rfl, rfl, rfl⟩ := trodAll_nil r1
  obtain rfl : args = #[v0, v1] := by cases args; simp_all
  obtain ⟨rfl, rfl⟩ := trodVars_none hV
  obtain ⟨P, hP⟩ : ∃ P, P = Try.prog := ⟨_, rfl⟩
  rw [← hP] at hval
  have k0 := hval 0 22 v0 rfl rfl
  rw [hP] at k0
  have k1 := hval 1 9 v1 rfl rfl
  rw [hP] at k1
  obtain ⟨a0, len0, cap0, rfl⟩ := okWide_slice Try.underlying22 k0
  obtain ⟨fuel0, hf0⟩ := h0
  obtain ⟨x0, hr0, hw0⟩ := reads_pay (N := Rows.uptoBulk d0)  fuel0 _ _ hf0 (Nat.le_refl _)
  simp [RepDL, Value.cells] at hr0
  obtain ⟨z1, rfl⟩ := okWide_string Try.underlying9 k1
  obtain ⟨fuel1, hf1⟩ := h1
  obtain ⟨x1, hr1, hw1⟩ := reads_string (N := Rows.uptoBulk d1) Try.underlying9 fuel1 _ _ hf1 (Nat.le_refl _)
  simp [RepDL, Value.cells] at hr1
  have hd := hC 3 [.sl false 1 (rowW x0), .sc (.string x1)] _ (hall x0 x1 hw0 trivial) okFn_3 (There W) W [.slice a0 len0 cap0, .string z1] (fun b h => h) (.cons hr0 (.cons hr1 .nil))
  refine hd.mono fun e W' ⟨u, he, hp⟩ => ?_
  subst he
  rw [rtys_3] at hp
  obtain rfl := callPost_true isAggB_4 hp
  exact ⟨_, rfl, law_post hW' rfl laidOut47 (by rw [Try.params3]; exact List.forall_mem_cons.2 ⟨⟨rd22, lt22⟩, List.forall_mem_cons.2 ⟨⟨rd9, lt9⟩, List.forall_mem_nil _⟩⟩) (by kernel_rfl) Try.underlying4 rfl (callPost_below hp)⟩
set_option maxRecDepth 100000 in
theorem lifted3 {call : Orc} (hC : DatOk Try.prog call) (hall : ∀ (x0 : List Int) (x1 : ByteArray), (∀ a ∈ x0, (Lit.int .u32 a).wf = true) → True → call.dat 3 [.sl false 1 (rowW x0), .sc (.string x1)] = some [.sc (.bool true)]) (os : Os) (started : os.Started) (H : Type) (enc : TypeId × Value → H) :
    ReturnsInHanded {} Try.checked os 3 .any (Rows.kitMirrorSpec.pre6 enc Try.prog Try.f3 Rows.kitMirrorRow.domain false) (Rows.kitMirrorSpec.post enc Try.prog Try.f3 false true false false) := by
  refine returnsInHanded_of_change (C := Try.checked) own47 started (by kernel_rfl) Try.func3
    (ChangeSpec.witness6 (enc := enc) (C := Try.checked) false ⟨#[], #[.slice none 0 0, .string ⟨#[]⟩], []⟩ 8 (by kernel_rfl) (by kernel_rfl) (by kernel_rfl) (by kernel_rfl)) ?_
  intro W base args ds gs before hval hW _ _
  exact contract3 hC hall H enc W base args ds gs before hval hW
theorem said3 {call : Orc} (hC : DatOk Try.prog call) (hall : ∀ (x0 : List Int) (x1 : ByteArray), (∀ a ∈ x0, (Lit.int .u32 a).wf = true) → True → call.dat 3 [.sl false 1 (rowW x0), .sc (.string x1)] = some [.sc (.bool true)]) : Rows.KitMirrorSaid :=
  OpenClaim.holds_of_wide 3 Try.f3 rfl rfl rfl rfl rfl rfl rfl ⟨rfl, rfl, rfl, rfl, rfl⟩ rfl rfl rfl rfl rfl (by kernel_rfl) Try.func3 (by kernel_rfl)
    (of_decide_eq_true (by kernel_rfl)) (by unfold Func.isWrapper; first | (rw [if_pos (by decide +kernel)]; kernel_rfl) | (rw [if_neg (by decide +kernel)]; exact ⟨rfl, rfl⟩))
    (fun os started H enc _ => lifted3 hC hall os started H enc)
end Go.Proofs.Ytdokejnokhicbaa

namespace Go.Proofs.Ytdokejnokhicbaa
open Go Go.Ab
set_option linter.unusedSimpArgs false
set_option linter.unusedVariables false
theorem mirror_holds : Rows.KitMirrorSaid := said3 L47_ok (fun l inp hl _ => d3 l inp (fun x hx => u32_range (hl x hx)))
end Go.Proofs.Ytdokejnokhicbaa
