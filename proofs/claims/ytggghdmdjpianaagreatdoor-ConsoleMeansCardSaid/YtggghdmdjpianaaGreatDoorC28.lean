/- A part of the proof: Ctm. -/
import Derived.Test.YtggghdmdjpianaaGreatDoorC27
import Derived.Test.YtggghdmdjpianaaGreatDoorC03
set_option linter.unusedSimpArgs false
set_option linter.unusedVariables false
set_option maxRecDepth 200000
set_option maxHeartbeats 8000000
namespace Go.Proofs.YtggghdmdjpianaaGreatDoor
open Go Go.Ab Go.ChangeShapes Go.WideShapes Go.ChangeAt Go.RowKit
theorem gl3 {W : World} (h : laidMetH Tryz.prog Rows.consoleMeansRow.laid W) : tG (vZ W) W :=
  gl_of (l := Rows.consoleMeansRow.laid) h (by simp [Rows.consoleMeansRow]) (by simp [Rows.consoleMeansRow])
set_option maxRecDepth 200000 in
theorem E1a (H : Type) (enc : TypeId × Value → H) (W : World) (base : Nat) (args : Array Value) (ds gs : List (DataW H)) (before : List MemPlace)
    (CF : ∀ (j : Nat) t v, Tryz.f3.params[j]? = some t → args[j]? = some v → Value.okWide Tryz.prog W .any base t v)
    (hW : DataW.Whole enc Tryz.prog Tryz.f3.params.toList Rows.consoleMeansSpec.vars false W args.toList ds gs before) (hL : laidMetH Tryz.prog Rows.consoleMeansRow.laid W) :
    Calls Tryz.prog 3 args W fun e W' => ∃ v, e = .returned v ∧ Rows.consoleMeansSpec.post enc Tryz.prog Tryz.f3 false true false false W args v W' := by
  have hW' := hW
  obtain ⟨p, q, hA0, hV, rfl, hfz, hnd⟩ := hW
  have hA : DataW.TrodAll enc Tryz.prog W 0 (fun _ => true) true Tryz.f3.params.toList args.toList ds p := hA0
  rw [Tryz.params3] at hA CF
  obtain ⟨v0, vs0, d0, ds0, p0, q0, hargs, rfl, rfl, h0, r0⟩ := trodAll_cons hA
  obtain ⟨rfl, rfl, rfl⟩ := trodAll_nil r0
  obtain rfl : args = #[v0] := by cases args; simp_all
  obtain ⟨rfl, rfl⟩ := trodVars_none hV
  obtain ⟨P, hP⟩ : ∃ P, P = Tryz.prog := ⟨_, rfl⟩
  rw [← hP] at CF
  have k0 := CF 0 9 v0 rfl rfl
  rw [hP] at k0
  obtain ⟨z0, rfl⟩ := okWide_string Tryz.underlying9 k0
  obtain ⟨fuel0, hf0⟩ := h0
  obtain ⟨x0, wZ, hw0⟩ := Tc (N := Rows.uptoBulk d0) Tryz.underlying9 fuel0 _ _ hf0 (Nat.le_refl _)
  simp [aC, Value.cells] at wZ
  have hd := Hza x0 okFn_3 (vZ W) W [.string z0] (fun b h => h) (gl3 hL) (.cons wZ .nil)
  refine hd.mono fun e W' ⟨u, he, hp⟩ => ?_
  subst he
  rw [rtys_3] at hp
  obtain rfl := Qc H8a hp
  exact ⟨_, rfl, H0a hW' rfl Ri (by rw [Tryz.params3]; exact List.forall_mem_cons.2 ⟨⟨rd9, lt9⟩, List.forall_mem_nil _⟩) (by kernel_rfl) Tryz.underlying4 rfl (Pm hp)⟩
theorem Eea (os : Os) : laidMet Tryz.prog Rows.consoleMeansRow.laid ((pF os).forCall (fun _ _ => 0) ⟨#[], #[.string ⟨#[]⟩], []⟩).memory :=
  laidMet_of_run' 8 (by kernel_rfl) (by kernel_rfl)
theorem reads3 (os : Os) {H : Type} (enc : TypeId × Value → H) : ∃ places, DataW.whole enc Tryz.prog ((pF os).forCall (fun _ _ => 0) ⟨#[], #[.string ⟨#[]⟩], []⟩).memory Tryz.f3.params.toList Rows.consoleMeansSpec.vars false #[Value.string ⟨#[]⟩].toList 8 = some ([.lit (.string [])], [], places) :=
  ⟨[], by kernel_rfl⟩
set_option maxRecDepth 100000 in
theorem KR (os : Os) (started : os.Started) (H : Type) (enc : TypeId × Value → H) (F : Stop.Interp) :
    ReturnsInHanded {} Tryz.checked os 3 .any ((OpenSpec.ofChange Rows.consoleMeansSpec).preRow enc Tryz.prog Tryz.f3 Rows.consoleMeansRow.domain false Rows.consoleMeansRow.laid) (((OpenSpec.ofChange Rows.consoleMeansSpec).at F).post enc Tryz.prog Tryz.f3 false true false false) := by
  obtain ⟨places, hx⟩ := reads3 os enc
  refine returnsInHanded_of_row (C := Tryz.checked) (s := OpenSpec.ofChange Rows.consoleMeansSpec) own47 started (by kernel_rfl) Tryz.func3
    (witness_row_at (enc := enc) (C := Tryz.checked) false (pF os) #[.string ⟨#[]⟩] rfl (by kernel_rfl) (by kernel_rfl) (by kernel_rfl)
      (OpenSpec.preRow_of_cond 8 hx (by kernel_rfl) (fun k hk => by cases hk) (by kernel_rfl) (Eea os))) ?_
  intro W base args ds gs before CF hW _ _ _ hL _ _
  exact E1a H enc W base args ds gs before CF hW hL
set_option maxRecDepth 200000 in
theorem said3 : Rows.ConsoleMeansSaid :=
  OpenClaim.holds_of_cond 3 Tryz.f3 rfl rfl rfl rfl rfl rfl rfl ⟨rfl, rfl, rfl, rfl, rfl⟩ rfl rfl rfl rfl rfl (by kernel_rfl) Tryz.func3 LG
    (of_decide_eq_true (by kernel_rfl)) (by unfold Func.isWrapper; first | (rw [if_pos (by decide +kernel)]; kernel_rfl) | (rw [if_neg (by decide +kernel)]; exact ⟨rfl, rfl⟩))
    (fun os started H enc _ F => by rw [OpenClaim.pre_eq_preRow]; exact KR os started H enc F)
theorem plain3 (f : FuncId) (fn : Func) (hf : Tryz.pinned.checked.prog.funcNamed "seedcorn/seedcornlaw54.ConsoleMeans" = some f) (kI : Tryz.pinned.checked.prog.funcs[f]? = some fn) :
    true = Tryz.pinned.checked.prog.looks [] ∧ ∀ (j : Nat) t, fn.params[j]? = some t → Tryz.pinned.checked.prog.wantsStandIn t = false := by
  obtain rfl : f = 3 := Option.some.inj ((show Tryz.prog.funcNamed "seedcorn/seedcornlaw54.ConsoleMeans" = some 3 by kernel_rfl).symm.trans hf) |>.symm
  obtain rfl : fn = Tryz.f3 := (Option.some.inj (Tryz.func3.symm.trans kI)).symm
  refine ⟨KM, fun j t ht => ?_⟩
  rw [Tryz.params3] at ht
  have CK : t = 9 := by simpa using Array.mem_of_getElem? ht
  subst CK
  · exact want9
theorem consoleMeans_holds : Rows.ConsoleMeansCardSaid :=
  Claim7.holds_tied_plain_at .later [] _ _ _ _ said3 (fun _ h => by cases h) (by kernel_rfl) (fun _ h => by cases h) consoleMeans_row_tie rfl ⟨rfl, rfl⟩ (by kernel_rfl) rfl plain3 (Ela noGo47 rfl)
end Go.Proofs.YtggghdmdjpianaaGreatDoor
