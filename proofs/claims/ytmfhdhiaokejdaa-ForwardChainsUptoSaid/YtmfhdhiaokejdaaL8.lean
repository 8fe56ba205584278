/- Law 31, ForwardChains: at every number and text of at most 1048576 values and letters together the call answers true and leaves its arguments as they were. -/
import Derived.Test.YtmfhdhiaokejdaaKh
import Derived.Test.YtmfhdhiaokejdaaKi
import Derived.Test.YtmfhdhiaokejdaaL6
namespace Go.Proofs.Ytmfhdhiaokejdaa
open Go Go.Ab Go.ChangeShapes Go.WideShapes Go.ChangeAt Go.RowKit
set_option linter.unusedSimpArgs false
set_option linter.unusedVariables false
theorem contract8 {call : Orc} (hC : DatOk Try.prog call) (hall : ∀ (x0 : Int) (x1 : ByteArray), (Lit.int .u8 x0).wf = true → x1.size ≤ 1048576 → call.dat 8 [.sc (.int .u8 x0), .sc (.string x1)] = some [.sc (.bool true)]) (H : Type) (enc : TypeId × Value → H) (W : World) (base : Nat) (args : Array Value) (ds gs : List (DataW H)) (before : List MemPlace)
    (hval : ∀ (j : Nat) t v, Try.f8.params[j]? = some t → args[j]? = some v → Value.okWide Try.prog W .any base t v)
    (hW : DataW.Whole enc Try.prog Try.f8.params.toList Rows.forwardChainsSpec.vars false W args.toList ds gs before) (hk : Rows.uptoSmall H (ds ++ gs) = true) :
    Calls Try.prog 8 args W fun e W' => ∃ v, e = .returned v ∧ Rows.forwardChainsSpec.post enc Try.prog Try.f8 false true false false W args v W' := by
  have hW' := hW
  obtain ⟨p, q, hA0, hV, rfl, hfz, hnd⟩ := hW
  have hA : DataW.TrodAll enc Try.prog W 0 (fun _ => true) true Try.f8.params.toList args.toList ds p := hA0
  rw [Try.params8] at hA hval
  obtain ⟨v0, vs0, d0, ds0, p0, q0, hargs, rfl, rfl, h0, r0⟩ := trodAll_cons hA
  obtain ⟨v1, vs1, d1, ds1, p1, q1, rfl, rfl, rfl, h1, r1⟩ := trodAll_cons r0
  obtain ⟨rfl, rfl, rfl⟩ := trodAll_nil r1
  obtain rfl : args = #[v0, v1] := by cases args; simp_all
  obtain ⟨rfl, rfl⟩ := trodVars_none hV
  have hkk := of_decide_eq_true hk
  simp only [List.append_nil, Rows.uptoBulkAll] at hkk
  obtain ⟨z0, rfl⟩ := okWide_int Try.underlying5 (hval 0 5 v0 rfl rfl)
  obtain ⟨fuel0, hf0⟩ := h0
  obtain ⟨x0, hr0, hw0⟩ := reads_int (N := 1048576) Try.underlying5 fuel0 _ _ hf0 (by show Rows.uptoBulk d0 ≤ _; omega)
  simp [RepDL, Value.cells] at hr0
  obtain ⟨z1, rfl⟩ := okWide_string Try.underlying9 (hval 1 9 v1 rfl rfl)
  obtain ⟨fuel1, hf1⟩ := h1
  obtain ⟨x1, hr1, hw1⟩ := reads_string (N := 1048576) Try.underlying9 fuel1 _ _ hf1 (by show Rows.uptoBulk d1 ≤ _; omega)
  simp [RepDL, Value.cells] at hr1
  have hd := hC 8 [.sc (.int .u8 x0), .sc (.string x1)] _ (hall x0 x1 hw0 hw1) okFn_8 (There W) W [.int .u8 z0, .string z1] (fun b h => h) (.cons hr0 (.cons hr1 .nil))
  refine hd.mono fun e W' ⟨u, he, hp⟩ => ?_
  subst he
  rw [rtys_8] at hp
  obtain rfl := callPost_true isAggB_4 hp
  exact ⟨_, rfl, law_post hW' rfl laidOut31 (by rw [Try.params8]; intro t ht; simp at ht; rcases ht with rfl | rfl <;> first | exact ⟨rd5, lt5⟩ | exact ⟨rd9, lt9⟩) (by kernel_rfl) Try.underlying4 rfl (callPost_below hp)⟩
set_option maxRecDepth 100000 in
theorem lifted8 {call : Orc} (hC : DatOk Try.prog call) (hall : ∀ (x0 : Int) (x1 : ByteArray), (Lit.int .u8 x0).wf = true → x1.size ≤ 1048576 → call.dat 8 [.sc (.int .u8 x0), .sc (.string x1)] = some [.sc (.bool true)]) (os : Os) (started : os.Started) (H : Type) (enc : TypeId × Value → H) (F : Stop.Interp) :
    ReturnsInHanded {} Try.checked os 8 .any ((Rows.OpenSpec.upto Rows.forwardChainsSpec).pre6 enc Try.prog Try.f8 Rows.forwardChainsUptoRow.domain false) (((Rows.OpenSpec.upto Rows.forwardChainsSpec).at F).post enc Try.prog Try.f8 false true false false) := by
  refine returnsInHanded_of_cond (C := Try.checked) (s := Rows.OpenSpec.upto Rows.forwardChainsSpec) (k := Rows.uptoSmall) rfl own31 started (by kernel_rfl) Try.func8
    (OpenSpec.witness (enc := enc) (C := Try.checked) (s := Rows.OpenSpec.upto Rows.forwardChainsSpec) (k := Rows.uptoSmall) rfl false ⟨#[], #[.int .u8 0, .string ⟨#[]⟩], []⟩ 8 (by kernel_rfl) (by kernel_rfl) (by kernel_rfl)
      (x := ([.lit (.int .u8 0), .lit (.string [])], [], [])) (by kernel_rfl) rfl (by kernel_rfl)) ?_
  intro W base args ds gs before hval hW _ hk _
  exact contract8 hC hall H enc W base args ds gs before hval hW hk
theorem said8 {call : Orc} (hC : DatOk Try.prog call) (hall : ∀ (x0 : Int) (x1 : ByteArray), (Lit.int .u8 x0).wf = true → x1.size ≤ 1048576 → call.dat 8 [.sc (.int .u8 x0), .sc (.string x1)] = some [.sc (.bool true)]) : Rows.ForwardChainsUptoSaid :=
  OpenClaim.holds_of_cond 8 Try.f8 rfl rfl rfl rfl rfl rfl rfl ⟨rfl, rfl, rfl, rfl, rfl⟩ rfl rfl rfl rfl rfl (by kernel_rfl) Try.func8 (by kernel_rfl)
    (of_decide_eq_true (by kernel_rfl)) (by unfold Func.isWrapper; first | (rw [if_pos (by decide +kernel)]; kernel_rfl) | (rw [if_neg (by decide +kernel)]; exact ⟨rfl, rfl⟩))
    (fun os started H enc _ F => lifted8 hC hall os started H enc F)
end Go.Proofs.Ytmfhdhiaokejdaa

namespace Go.Proofs.Ytmfhdhiaokejdaa
open Go Go.Ab
set_option linter.unusedSimpArgs false
set_option linter.unusedVariables false
theorem chains_holds : Rows.ForwardChainsUptoSaid := said8 L31_ok fun n inp hn hi => by
  obtain ⟨h1, h2⟩ := u8_range hn
  exact d8 n inp h1 h2 hi
end Go.Proofs.Ytmfhdhiaokejdaa
