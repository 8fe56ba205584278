/- TwiceFixes: the statement, its card: for all texts and every difference the call answers true and leaves its arguments as they were, where the listed variables start as the text lays them; no other condition. -/
import Derived.Test.YtaeeffddinppeaaGreatDoorR44
import Derived.Test.YtaeeffddinppeaaGreatDoorR45
import Derived.Test.YtaeeffddinppeaaGreatDoorR46
set_option linter.unusedSimpArgs false
set_option linter.unusedVariables false
namespace Go.Proofs.YtaeeffddinppeaaGreatDoor
open Go Go.Ab Go.ChangeShapes Go.WideShapes Go.ChangeAt Go.RowKit
theorem gl7 {W : World} (h : laidMetH Tryz.prog Rows.twiceFixesRow.laid W) : GlOk (There W) W :=
  gl_of (l := Rows.twiceFixesRow.laid) h (by simp [Rows.twiceFixesRow]; rfl) (by simp [Rows.twiceFixesRow]; rfl)
set_option maxRecDepth 200000 in
theorem contract7 (H : Type) (enc : TypeId × Value → H) (W : World) (base : Nat) (args : Array Value) (ds gs : List (DataW H)) (before : List MemPlace)
    (hval : ∀ (j : Nat) t v, Tryz.f7.params[j]? = some t → args[j]? = some v → Value.okWide Tryz.prog W .any base t v)
    (hW : DataW.Whole enc Tryz.prog Tryz.f7.params.toList Rows.twiceFixesSpec.vars false W args.toList ds gs before) (hL : laidMetH Tryz.prog Rows.twiceFixesRow.laid W) :
    Calls Tryz.prog 7 args W fun e W' => ∃ v, e = .returned v ∧ Rows.twiceFixesSpec.post enc Tryz.prog Tryz.f7 false true false false W args v W' := by
  have hW' := hW
  obtain ⟨p, q, hA0, hV, rfl, hfz, hnd⟩ := hW
  have hA : DataW.TrodAll enc Tryz.prog W 0 (fun _ => true) true Tryz.f7.params.toList args.toList ds p := hA0
  rw [Tryz.params7] at hA hval
  obtain ⟨v0, vs0, d0, ds0, p0, q0, hargs, rfl, rfl, h0, r0⟩ := trodAll_cons hA
  obtain ⟨v1, vs1, d1, ds1, p1, q1, rfl, rfl, rfl, h1, r1⟩ := trodAll_cons r0
  obtain ⟨v2, vs2, d2, ds2, p2, q2, rfl, rfl, rfl, h2, r2⟩ := trodAll_cons r1
  obtain ⟨rfl, rfl, rfl⟩ := trodAll_nil r2
  obtain rfl : args = #[v0, v1, v2] := by cases args; simp_all
  obtain ⟨rfl, rfl⟩ := trodVars_none hV
  obtain ⟨P, hP⟩ : ∃ P, P = Tryz.prog := ⟨_, rfl⟩
  rw [← hP] at hval
  have k0 := hval 0 9 v0 rfl rfl
  rw [hP] at k0
  obtain ⟨z0, rfl⟩ := okWide_string Tryz.underlying9 k0
  obtain ⟨fuel0, hf0⟩ := h0
  obtain ⟨x0, hr0, hw0⟩ := reads_string (N := Rows.uptoBulk d0) Tryz.underlying9 fuel0 _ _ hf0 (Nat.le_refl _)
  simp [RepDL, Value.cells] at hr0
  have k1 := hval 1 9 v1 rfl rfl
  rw [hP] at k1
  obtain ⟨z1, rfl⟩ := okWide_string Tryz.underlying9 k1
  obtain ⟨fuel1, hf1⟩ := h1
  obtain ⟨x1, hr1, hw1⟩ := reads_string (N := Rows.uptoBulk d1) Tryz.underlying9 fuel1 _ _ hf1 (Nat.le_refl _)
  simp [RepDL, Value.cells] at hr1
  have k2 := hval 2 44 v2 rfl rfl
  rw [hP] at k2
  obtain ⟨cs2, rfl, hcs2⟩ := okWide_struct Tryz.underlying44 k2
  obtain ⟨fuel2, hf2⟩ := h2
  obtain ⟨x2, hr2, hw2⟩ := reads_dif (N := Rows.uptoBulk d2)  fuel2 _ _ hf2 (Nat.le_refl _)
  have hd := L47_ok 7 [.sc (.string x0), .sc (.string x1), .agg [iv x2.1, iv x2.2.1, iv x2.2.2]] _ (g7 x0 x1 x2.1 x2.2.1 x2.2.2   hw2.1.1 hw2.1.2 hw2.2.1.1 hw2.2.1.2 hw2.2.2.1 hw2.2.2.2) okFn_7 (There W) W [.string z0, .string z1, .agg cs2] (fun b h => h) (gl7 hL) (.cons hr0 (.cons hr1 (.cons ⟨cs2.toList, rfl, hr2⟩ .nil)))
  refine hd.mono fun e W' ⟨u, he, hp⟩ => ?_
  subst he
  rw [rtys_7] at hp
  obtain rfl := callPost_true isAggB_4 hp
  exact ⟨_, rfl, law_post hW' rfl laidOut47 (by rw [Tryz.params7]; exact List.forall_mem_cons.2 ⟨⟨rd9, lt9⟩, List.forall_mem_cons.2 ⟨⟨rd9, lt9⟩, List.forall_mem_cons.2 ⟨⟨rd44, lt44⟩, List.forall_mem_nil _⟩⟩⟩) (by kernel_rfl) Tryz.underlying4 rfl (callPost_below hp)⟩
theorem laid_met7 (os : Os) : laidMet Tryz.prog Rows.twiceFixesRow.laid ((laidWorld os).forCall (fun _ _ => 0) ⟨#[], #[.string ⟨#[]⟩, .string ⟨#[]⟩, .agg #[.int .i64 0, .int .i64 0, .int .i64 0]], []⟩).memory :=
  laidMet_of_run' 8 (by kernel_rfl) (by kernel_rfl)
theorem reads7 (os : Os) {H : Type} (enc : TypeId × Value → H) : ∃ places, DataW.whole enc Tryz.prog ((laidWorld os).forCall (fun _ _ => 0) ⟨#[], #[.string ⟨#[]⟩, .string ⟨#[]⟩, .agg #[.int .i64 0, .int .i64 0, .int .i64 0]], []⟩).memory Tryz.f7.params.toList Rows.twiceFixesSpec.vars false #[Value.string ⟨#[]⟩, .string ⟨#[]⟩, .agg #[.int .i64 0, .int .i64 0, .int .i64 0]].toList 8 = some ([.lit (.string []), .lit (.string []), .agg [.lit (.int .i64 0), .lit (.int .i64 0), .lit (.int .i64 0)]], [], places) :=
  ⟨[], by kernel_rfl⟩
set_option maxRecDepth 100000 in
theorem lifted7 (os : Os) (started : os.Started) (H : Type) (enc : TypeId × Value → H) (F : Stop.Interp) :
    ReturnsInHanded {} Tryz.checked os 7 .any ((OpenSpec.ofChange Rows.twiceFixesSpec).preRow enc Tryz.prog Tryz.f7 Rows.twiceFixesRow.domain false Rows.twiceFixesRow.laid) (((OpenSpec.ofChange Rows.twiceFixesSpec).at F).post enc Tryz.prog Tryz.f7 false true false false) := by
  obtain ⟨places, hx⟩ := reads7 os enc
  refine returnsInHanded_of_row (C := Tryz.checked) (s := OpenSpec.ofChange Rows.twiceFixesSpec) own47 started (by kernel_rfl) Tryz.func7
    (witness_row_at (enc := enc) (C := Tryz.checked) false (laidWorld os) #[.string ⟨#[]⟩, .string ⟨#[]⟩, .agg #[.int .i64 0, .int .i64 0, .int .i64 0]] rfl (by kernel_rfl) (by kernel_rfl) (by kernel_rfl)
      (OpenSpec.preRow_of_cond 8 hx (by kernel_rfl) (fun k hk => by cases hk) (by kernel_rfl) (laid_met7 os))) ?_
  intro W base args ds gs before hval hW _ _ _ hL _ _
  exact contract7 H enc W base args ds gs before hval hW hL
set_option maxRecDepth 200000 in
theorem said7 : Rows.TwiceFixesSaid :=
  OpenClaim.holds_of_cond 7 Tryz.f7 rfl rfl rfl rfl rfl rfl rfl ⟨rfl, rfl, rfl, rfl, rfl⟩ rfl rfl rfl rfl rfl (by kernel_rfl) Tryz.func7 joined7
    (of_decide_eq_true (by kernel_rfl)) (by unfold Func.isWrapper; first | (rw [if_pos (by decide +kernel)]; kernel_rfl) | (rw [if_neg (by decide +kernel)]; exact ⟨rfl, rfl⟩))
    (fun os started H enc _ F => by rw [OpenClaim.pre_eq_preRow]; exact lifted7 os started H enc F)
theorem plain7 (f : FuncId) (fn : Func) (hf : Tryz.pinned.checked.prog.funcNamed "seedcorn/seedcornlaw48.TwiceFixes" = some f) (hfn : Tryz.pinned.checked.prog.funcs[f]? = some fn) :
    true = Tryz.pinned.checked.prog.looks [] ∧ ∀ (j : Nat) t, fn.params[j]? = some t → Tryz.pinned.checked.prog.wantsStandIn t = false := by
  obtain rfl : f = 7 := Option.some.inj ((show Tryz.prog.funcNamed "seedcorn/seedcornlaw48.TwiceFixes" = some 7 by kernel_rfl).symm.trans hf) |>.symm
  obtain rfl : fn = Tryz.f7 := (Option.some.inj (Tryz.func7.symm.trans hfn)).symm
  refine ⟨looks47, fun j t ht => ?_⟩
  rw [Tryz.params7] at ht
  have ht' : t = 9 ∨ t = 44 := by simpa using Array.mem_of_getElem? ht
  rcases ht' with rfl | rfl
  · exact want9
  · exact want44
theorem twiceFixes_holds : Rows.TwiceFixesCardSaid :=
  Claim7.holds_tied_plain_at .later [] _ _ _ _ said7 (fun _ h => by cases h) (by kernel_rfl) (fun _ h => by cases h) twiceFixes_row_tie rfl ⟨rfl, rfl⟩ (by kernel_rfl) rfl plain7 (goesBy_of noGo47 rfl)
end Go.Proofs.YtaeeffddinppeaaGreatDoor
