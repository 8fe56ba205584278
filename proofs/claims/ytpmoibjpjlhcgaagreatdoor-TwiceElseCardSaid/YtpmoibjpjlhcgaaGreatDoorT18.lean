/- A part of the proof: Ctm. -/
import Derived.Test.YtpmoibjpjlhcgaaGreatDoorT10
import Derived.Test.YtpmoibjpjlhcgaaGreatDoorT16
import Derived.Test.YtpmoibjpjlhcgaaGreatDoorT17
set_option linter.unusedSimpArgs false
set_option linter.unusedVariables false
set_option maxRecDepth 200000
set_option maxHeartbeats 8000000
namespace Go.Proofs.YtpmoibjpjlhcgaaGreatDoor
open Go Go.Ab Go.ChangeShapes Go.WideShapes Go.ChangeAt Go.RowKit
theorem gl5 {W : World} (h : laidMetH Tryz.prog Rows.twiceElseRow.laid W) : GlOk (There W) W :=
  gl_of (l := Rows.twiceElseRow.laid) h (by simp [Rows.twiceElseRow]; rfl) (by simp [Rows.twiceElseRow]) (by simp [Rows.twiceElseRow])
set_option maxRecDepth 200000 in
theorem E7a (H : Type) (enc : TypeId × Value → H) (W : World) (base : Nat) (args : Array Value) (ds gs : List (DataW H)) (before : List MemPlace)
    (hval : ∀ (j : Nat) t v, Tryz.f5.params[j]? = some t → args[j]? = some v → Value.okWide Tryz.prog W .any base t v)
    (hW : DataW.Whole enc Tryz.prog Tryz.f5.params.toList Rows.twiceElseSpec.vars false W args.toList ds gs before) (hL : laidMetH Tryz.prog Rows.twiceElseRow.laid W) :
    Calls Tryz.prog 5 args W fun e W' => ∃ v, e = .returned v ∧ Rows.twiceElseSpec.post enc Tryz.prog Tryz.f5 false true false false W args v W' := by
  have hW' := hW
  obtain ⟨p, q, hA0, hV, rfl, hfz, hnd⟩ := hW
  have hA : DataW.TrodAll enc Tryz.prog W 0 (fun _ => true) true Tryz.f5.params.toList args.toList ds p := hA0
  rw [Tryz.params5] at hA hval
  obtain ⟨v0, vs0, d0, ds0, p0, q0, hargs, rfl, rfl, h0, r0⟩ := trodAll_cons hA
  obtain ⟨v1, vs1, d1, ds1, p1, q1, rfl, rfl, rfl, h1, r1⟩ := trodAll_cons r0
  obtain ⟨v2, vs2, d2, ds2, p2, q2, rfl, rfl, rfl, h2, r2⟩ := trodAll_cons r1
  obtain ⟨rfl, rfl, rfl⟩ := trodAll_nil r2
  obtain rfl : args = #[v0, v1, v2] := by cases args; simp_all
  obtain ⟨rfl, rfl⟩ := trodVars_none hV
  obtain ⟨P, hP⟩ : ∃ P, P = Tryz.prog := ⟨_, rfl⟩
  rw [← hP] at hval
  have k0 := hval 0 9 v0 rfl rfl
  rw [hP] at k0
  obtain ⟨z0, rfl⟩ := okWide_string Tryz.underlying9 k0
  obtain ⟨fuel0, hf0⟩ := h0
  obtain ⟨x0, hr0, hw0⟩ := Fr (N := Rows.uptoBulk d0) Tryz.underlying9 fuel0 _ _ hf0 (Nat.le_refl _)
  simp [RepDL, Value.cells] at hr0
  have k1 := hval 1 9 v1 rfl rfl
  rw [hP] at k1
  obtain ⟨z1, rfl⟩ := okWide_string Tryz.underlying9 k1
  obtain ⟨fuel1, hf1⟩ := h1
  obtain ⟨x1, hr1, hw1⟩ := Fr (N := Rows.uptoBulk d1) Tryz.underlying9 fuel1 _ _ hf1 (Nat.le_refl _)
  simp [RepDL, Value.cells] at hr1
  have k2 := hval 2 9 v2 rfl rfl
  rw [hP] at k2
  obtain ⟨z2, rfl⟩ := okWide_string Tryz.underlying9 k2
  obtain ⟨fuel2, hf2⟩ := h2
  obtain ⟨x2, hr2, hw2⟩ := Fr (N := Rows.uptoBulk d2) Tryz.underlying9 fuel2 _ _ hf2 (Nat.le_refl _)
  simp [RepDL, Value.cells] at hr2
  have hd := L5_ok.1 5 [.sc (.string x0), .sc (.string x1), .sc (.string x2)] _ (g5 x0 x1 x2   ) okFn_5 (There W) W [.string z0, .string z1, .string z2] (fun b h => h) (gl5 hL) (.cons hr0 (.cons hr1 (.cons hr2 .nil)))
  refine hd.mono fun e W' ⟨u, he, hp⟩ => ?_
  subst he
  rw [R7] at hp
  obtain rfl := Pw Lda hp
  exact ⟨_, rfl, K9a hW' rfl Qh (by rw [Tryz.params5]; exact List.forall_mem_cons.2 ⟨⟨rd9, lt9⟩, List.forall_mem_cons.2 ⟨⟨rd9, lt9⟩, List.forall_mem_cons.2 ⟨⟨rd9, lt9⟩, List.forall_mem_nil _⟩⟩⟩) (by kernel_rfl) Tryz.underlying4 rfl (O1 hp)⟩
theorem Eoa (os : Os) : laidMet Tryz.prog Rows.twiceElseRow.laid ((laidWorld os).forCall (fun _ _ => 0) ⟨#[], #[.string ⟨#[]⟩, .string ⟨#[]⟩, .string ⟨#[]⟩], []⟩).memory :=
  laidMet_of_run' 8 (by kernel_rfl) (by kernel_rfl)
theorem reads5 (os : Os) {H : Type} (enc : TypeId × Value → H) : ∃ places, DataW.whole enc Tryz.prog ((laidWorld os).forCall (fun _ _ => 0) ⟨#[], #[.string ⟨#[]⟩, .string ⟨#[]⟩, .string ⟨#[]⟩], []⟩).memory Tryz.f5.params.toList Rows.twiceElseSpec.vars false #[Value.string ⟨#[]⟩, .string ⟨#[]⟩, .string ⟨#[]⟩].toList 8 = some ([.lit (.string []), .lit (.string []), .lit (.string [])], [], places) :=
  ⟨[], by kernel_rfl⟩
set_option maxRecDepth 100000 in
theorem lifted5 (os : Os) (started : os.Started) (H : Type) (enc : TypeId × Value → H) (F : Stop.Interp) :
    ReturnsInHanded {} Tryz.checked os 5 .any ((OpenSpec.ofChange Rows.twiceElseSpec).preRow enc Tryz.prog Tryz.f5 Rows.twiceElseRow.domain false Rows.twiceElseRow.laid) (((OpenSpec.ofChange Rows.twiceElseSpec).at F).post enc Tryz.prog Tryz.f5 false true false false) := by
  obtain ⟨places, hx⟩ := reads5 os enc
  refine returnsInHanded_of_row (C := Tryz.checked) (s := OpenSpec.ofChange Rows.twiceElseSpec) own47 started (by kernel_rfl) Tryz.func5
    (witness_row_at (enc := enc) (C := Tryz.checked) false (laidWorld os) #[.string ⟨#[]⟩, .string ⟨#[]⟩, .string ⟨#[]⟩] rfl (by kernel_rfl) (by kernel_rfl) (by kernel_rfl)
      (OpenSpec.preRow_of_cond 8 hx (by kernel_rfl) (fun k hk => by cases hk) (by kernel_rfl) (Eoa os))) ?_
  intro W base args ds gs before hval hW _ _ _ hL _ _
  exact E7a H enc W base args ds gs before hval hW hL
set_option maxRecDepth 200000 in
theorem said5 : Rows.TwiceElseSaid :=
  OpenClaim.holds_of_cond 5 Tryz.f5 rfl rfl rfl rfl rfl rfl rfl ⟨rfl, rfl, rfl, rfl, rfl⟩ rfl rfl rfl rfl rfl (by kernel_rfl) Tryz.func5 joined5
    (of_decide_eq_true (by kernel_rfl)) (by unfold Func.isWrapper; first | (rw [if_pos (by decide +kernel)]; kernel_rfl) | (rw [if_neg (by decide +kernel)]; exact ⟨rfl, rfl⟩))
    (fun os started H enc _ F => by rw [OpenClaim.pre_eq_preRow]; exact lifted5 os started H enc F)
theorem plain5 (f : FuncId) (fn : Func) (hf : Tryz.pinned.checked.prog.funcNamed "seedcorn/seedcornlaw48.TwiceElse" = some f) (hfn : Tryz.pinned.checked.prog.funcs[f]? = some fn) :
    true = Tryz.pinned.checked.prog.looks [] ∧ ∀ (j : Nat) t, fn.params[j]? = some t → Tryz.pinned.checked.prog.wantsStandIn t = false := by
  obtain rfl : f = 5 := Option.some.inj ((show Tryz.prog.funcNamed "seedcorn/seedcornlaw48.TwiceElse" = some 5 by kernel_rfl).symm.trans hf) |>.symm
  obtain rfl : fn = Tryz.f5 := (Option.some.inj (Tryz.func5.symm.trans hfn)).symm
  refine ⟨looks47, fun j t ht => ?_⟩
  rw [Tryz.params5] at ht
  have ht' : t = 9 := by simpa using Array.mem_of_getElem? ht
  subst ht'
  · exact want9
theorem twiceElse_holds : Rows.TwiceElseCardSaid :=
  Claim7.holds_tied_plain_at .later [] _ _ _ _ said5 (fun _ h => by cases h) (by kernel_rfl) (fun _ h => by cases h) twiceElse_row_tie rfl ⟨rfl, rfl⟩ (by kernel_rfl) rfl plain5 (Eua noGo47 rfl)
end Go.Proofs.YtpmoibjpjlhcgaaGreatDoor
