/- A part of the proof: Cts. -/
import Derived.Test.YtpedpkegmalgmaaGreatDoorZ11
import Derived.Test.YtpedpkegmalgmaaGreatDoorZ28
import Derived.Test.YtpedpkegmalgmaaGreatDoorZ29
set_option linter.unusedSimpArgs false
set_option linter.unusedVariables false
set_option maxRecDepth 200000
set_option maxHeartbeats 8000000
namespace Go.Proofs.YtpedpkegmalgmaaGreatDoor
open Go Go.Ab Go.ChangeShapes Go.WideShapes Go.ChangeAt Go.RowKit
theorem gl4 {W : World} (h : laidMetH Tryz.prog Rows.releaseSeatsRow.laid W) : GlOk (There W) W :=
  gl_of (l := Rows.releaseSeatsRow.laid) h (by simp [Rows.releaseSeatsRow]; rfl) (by simp [Rows.releaseSeatsRow]) (by simp [Rows.releaseSeatsRow])
set_option maxRecDepth 200000 in
theorem contract4 (H : Type) (enc : TypeId × Value → H) (W : World) (base : Nat) (args : Array Value) (ds gs : List (DataW H)) (before : List MemPlace)
    (hval : ∀ (j : Nat) t v, Tryz.f4.params[j]? = some t → args[j]? = some v → Value.okWide Tryz.prog W .any base t v)
    (hW : DataW.Whole enc Tryz.prog Tryz.f4.params.toList Rows.releaseSeatsSpec.vars false W args.toList ds gs before) (hL : laidMetH Tryz.prog Rows.releaseSeatsRow.laid W) :
    Calls Tryz.prog 4 args W fun e W' => ∃ v, e = .returned v ∧ Rows.releaseSeatsSpec.post enc Tryz.prog Tryz.f4 false true false false W args v W' := by
  have hW' := hW
  obtain ⟨p, q, hA0, hV, rfl, hfz, hnd⟩ := hW
  have hA : DataW.TrodAll enc Tryz.prog W 0 (fun _ => true) true Tryz.f4.params.toList args.toList ds p := hA0
  rw [Tryz.params4] at hA hval
  obtain ⟨v0, vs0, d0, ds0, p0, q0, hargs, rfl, rfl, h0, r0⟩ := trodAll_cons hA
  obtain ⟨rfl, rfl, rfl⟩ := trodAll_nil r0
  obtain rfl : args = #[v0] := by cases args; simp_all
  obtain ⟨rfl, rfl⟩ := trodVars_none hV
  obtain ⟨P, hP⟩ : ∃ P, P = Tryz.prog := ⟨_, rfl⟩
  rw [← hP] at hval
  have k0 := hval 0 48 v0 rfl rfl
  rw [hP] at k0
  obtain ⟨cs0, rfl, hcs0⟩ := okWide_struct Tryz.underlying48 k0
  obtain ⟨fuel0, hf0⟩ := h0
  obtain ⟨x0, hr0, hw0⟩ := reads_ask (N := Rows.uptoBulk d0)  fuel0 _ _ hf0 (Nat.le_refl _)
  have hd := LL7_ok.1 4 [.agg x0.row] _ (law4 x0 hw0.1 hw0.2.1 hw0.2.2.1 hw0.2.2.2) okFn_4 (There W) W [.agg cs0] (fun b h => h) (gl4 hL) (.cons ⟨cs0.toList, rfl, hr0⟩ .nil)
  refine hd.mono fun e W' ⟨u, he, hp⟩ => ?_
  subst he
  rw [rtys_4] at hp
  obtain rfl := callPost_true isAggB_4 hp
  exact ⟨_, rfl, law_post hW' rfl laidOut47 (by rw [Tryz.params4]; exact List.forall_mem_cons.2 ⟨⟨rd48, lt48⟩, List.forall_mem_nil _⟩) (by kernel_rfl) Tryz.underlying4 rfl (callPost_below hp)⟩
theorem laid_met4 (os : Os) : laidMet Tryz.prog Rows.releaseSeatsRow.laid ((laidWorld os).forCall (fun _ _ => 0) ⟨#[], #[ask0], []⟩).memory :=
  laidMet_of_run' 8 (by kernel_rfl) (by kernel_rfl)
theorem reads4 (os : Os) {H : Type} (enc : TypeId × Value → H) : ∃ places, DataW.whole enc Tryz.prog ((laidWorld os).forCall (fun _ _ => 0) ⟨#[], #[ask0], []⟩).memory Tryz.f4.params.toList Rows.releaseSeatsSpec.vars false #[ask0].toList 8 = some ([.agg [.agg [.agg [.lit (.int .u32 0), .lit (.int .u32 0), .lit (.int .u32 0), .lit (.int .u32 0)], .agg [.lit (.int .u32 0), .lit (.int .u32 0), .lit (.int .u32 0), .lit (.int .u32 0)], .agg [.agg [.lit (.int .i64 0), .nil, .lit (.string []), .lit (.int .i64 0), .agg [.lit (.int .u32 0), .lit (.int .u32 0), .lit (.int .u32 0), .lit (.int .u32 0)], .lit (.string [])], .agg [.lit (.int .i64 0), .nil, .lit (.string []), .lit (.int .i64 0), .agg [.lit (.int .u32 0), .lit (.int .u32 0), .lit (.int .u32 0), .lit (.int .u32 0)], .lit (.string [])]], .agg [.lit (.int .i64 0), .agg [.lit (.int .u32 0), .lit (.int .u32 0), .lit (.int .u32 0), .lit (.int .u32 0)], .nil, .nil, .lit (.int .i64 0)], .nil, .agg [.lit (.int .i64 0), .agg [.lit (.int .u32 0), .lit (.int .u32 0), .lit (.int .u32 0), .lit (.int .u32 0)]], .nil], .agg [.nil], .agg [.nil, .lit (.int .i64 0)], .lit (.int .i64 0)]], [], places) :=
  ⟨[], by kernel_rfl⟩
set_option maxRecDepth 100000 in
theorem lifted4 (os : Os) (started : os.Started) (H : Type) (enc : TypeId × Value → H) (F : Stop.Interp) :
    ReturnsInHanded {} Tryz.checked os 4 .any ((OpenSpec.ofChange Rows.releaseSeatsSpec).preRow enc Tryz.prog Tryz.f4 Rows.releaseSeatsRow.domain false Rows.releaseSeatsRow.laid) (((OpenSpec.ofChange Rows.releaseSeatsSpec).at F).post enc Tryz.prog Tryz.f4 false true false false) := by
  obtain ⟨places, hx⟩ := reads4 os enc
  refine returnsInHanded_of_row (C := Tryz.checked) (s := OpenSpec.ofChange Rows.releaseSeatsSpec) own47 started (by kernel_rfl) Tryz.func4
    (witness_row_at (enc := enc) (C := Tryz.checked) false (laidWorld os) #[ask0] rfl (by kernel_rfl) (by kernel_rfl) (by kernel_rfl)
      (OpenSpec.preRow_of_cond 8 hx (by kernel_rfl) (fun k hk => by cases hk) (by kernel_rfl) (laid_met4 os))) ?_
  intro W base args ds gs before hval hW _ _ _ hL _ _
  exact contract4 H enc W base args ds gs before hval hW hL
set_option maxRecDepth 200000 in
theorem said4 : Rows.ReleaseSeatsSaid :=
  OpenClaim.holds_of_cond 4 Tryz.f4 rfl rfl rfl rfl rfl rfl rfl ⟨rfl, rfl, rfl, rfl, rfl⟩ rfl rfl rfl rfl rfl (by kernel_rfl) Tryz.func4 joined4
    (of_decide_eq_true (by kernel_rfl)) (by unfold Func.isWrapper; first | (rw [if_pos (by decide +kernel)]; kernel_rfl) | (rw [if_neg (by decide +kernel)]; exact ⟨rfl, rfl⟩))
    (fun os started H enc _ F => by rw [OpenClaim.pre_eq_preRow]; exact lifted4 os started H enc F)
theorem plain4 (f : FuncId) (fn : Func) (hf : Tryz.pinned.checked.prog.funcNamed "seedcorn/seedcornlaw49.ReleaseSeats" = some f) (hfn : Tryz.pinned.checked.prog.funcs[f]? = some fn) :
    true = Tryz.pinned.checked.prog.looks [] ∧ ∀ (j : Nat) t, fn.params[j]? = some t → Tryz.pinned.checked.prog.wantsStandIn t = false := by
  obtain rfl : f = 4 := Option.some.inj ((show Tryz.prog.funcNamed "seedcorn/seedcornlaw49.ReleaseSeats" = some 4 by kernel_rfl).symm.trans hf) |>.symm
  obtain rfl : fn = Tryz.f4 := (Option.some.inj (Tryz.func4.symm.trans hfn)).symm
  refine ⟨looks47, fun j t ht => ?_⟩
  rw [Tryz.params4] at ht
  have ht' : t = 48 := by simpa using Array.mem_of_getElem? ht
  subst ht'
  · exact want48
theorem releaseSeats_holds : Rows.ReleaseSeatsCardSaid :=
  Claim7.holds_tied_plain_at .later [] _ _ _ _ said4 (fun _ h => by cases h) (by kernel_rfl) (fun _ h => by cases h) releaseSeats_row_tie rfl ⟨rfl, rfl⟩ (by kernel_rfl) rfl plain4 (goesBy_of noGo47 rfl)
end Go.Proofs.YtpedpkegmalgmaaGreatDoor
