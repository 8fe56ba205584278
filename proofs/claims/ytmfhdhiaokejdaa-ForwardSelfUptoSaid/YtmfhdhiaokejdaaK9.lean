/- Law 31: the statements, from what the calls come to. -/
import Derived.Test.YtmfhdhiaokejdaaK8
namespace Go.Proofs.Ytmfhdhiaokejdaa
open Go Go.Ab Go.ChangeShapes Go.WideShapes Go.ChangeAt Go.RowKit
set_option linter.unusedSimpArgs false
set_option linter.unusedVariables false
theorem own31 : ownKnob Try.prog.godebug = none := by kernel_rfl
theorem laidOut31 : laidOutB Try.prog = true := by kernel_rfl
theorem rd24 : Try.prog.readableRec 24 = true := by kernel_rfl
theorem lt24 : 24 < Try.prog.types.size := of_decide_eq_true (by kernel_rfl)
theorem mixed31 : Try.prog.follows .mixedOrders = true := by kernel_rfl

theorem contract3 {call : Orc} (hC : DatOk Try.prog call) (hall : ∀ f : Fn, f.wf 1048576 → call.dat 3 [.agg f.row] = some [.sc (.bool true)]) (H : Type) (enc : TypeId × Value → H) (W : World) (base : Nat) (args : Array Value) (ds gs : List (DataW H)) (before : List MemPlace)
    (hval : ∀ (j : Nat) t v, Try.f3.params[j]? = some t → args[j]? = some v → Value.okWide Try.prog W .any base t v)
    (hW : DataW.Whole enc Try.prog Try.f3.params.toList Rows.forwardOfSpec.vars false W args.toList ds gs before) (hk : Rows.uptoSmall H (ds ++ gs) = true) :
    Calls Try.prog 3 args W fun e W' => ∃ v, e = .returned v ∧ Rows.forwardOfSpec.post enc Try.prog Try.f3 false true false false W args v W' := by
  have hW' := hW
  obtain ⟨p, q, hA0, hV, rfl, hfz, hnd⟩ := hW
  have hA : DataW.TrodAll enc Try.prog W 0 (fun _ => true) true Try.f3.params.toList args.toList ds p := hA0
  rw [Try.params3] at hA hval
  obtain ⟨v0, vs0, d0, ds0, p0, q0, hargs, rfl, rfl, h0, r0⟩ := trodAll_cons hA
  obtain ⟨rfl, rfl, rfl⟩ := trodAll_nil r0
  obtain rfl : args = #[v0] := by cases args; simp_all
  obtain ⟨rfl, rfl⟩ := trodVars_none hV
  have hk' : Rows.uptoBulk d0 ≤ 1048576 := by
    have h := of_decide_eq_true hk
    simp only [List.append_nil, Rows.uptoBulkAll] at h
    omega
  obtain ⟨cs, rfl, hcs⟩ := okWide_struct Try.underlying24 (hval 0 24 v0 rfl rfl)
  obtain ⟨fuel, hf⟩ := h0
  obtain ⟨f, hr, hwf⟩ := reads_fn (N := 1048576) fuel _ _ hf hk'
  have hd := hC 3 [.agg f.row] _ (hall f hwf) okFn_3 (There W) W [.agg cs] (fun b h => h) (.cons ⟨cs.toList, rfl, hr⟩ .nil)
  refine hd.mono fun e W' ⟨u, he, hp⟩ => ?_
  subst he
  rw [rtys_3] at hp
  obtain rfl := callPost_true isAggB_4 hp
  exact ⟨_, rfl, law_post hW' rfl laidOut31 (by rw [Try.params3]; intro t ht; simp at ht; subst ht; exact ⟨rd24, lt24⟩) (by kernel_rfl) Try.underlying4 rfl (callPost_below hp)⟩
set_option maxRecDepth 100000 in
theorem lifted3 {call : Orc} (hC : DatOk Try.prog call) (hall : ∀ f : Fn, f.wf 1048576 → call.dat 3 [.agg f.row] = some [.sc (.bool true)]) (os : Os) (started : os.Started) (H : Type) (enc : TypeId × Value → H) (F : Stop.Interp) :
    ReturnsInHanded {} Try.checked os 3 .any ((Rows.OpenSpec.upto Rows.forwardOfSpec).pre6 enc Try.prog Try.f3 Rows.forwardOfUptoRow.domain false) (((Rows.OpenSpec.upto Rows.forwardOfSpec).at F).post enc Try.prog Try.f3 false true false false) := by
  refine returnsInHanded_of_cond (C := Try.checked) (s := Rows.OpenSpec.upto Rows.forwardOfSpec) (k := Rows.uptoSmall) rfl own31 started (by kernel_rfl) Try.func3
    (OpenSpec.witness (enc := enc) (C := Try.checked) (s := Rows.OpenSpec.upto Rows.forwardOfSpec) (k := Rows.uptoSmall) rfl false ⟨#[], #[.agg #[.int .i64 0, .slice none 0 0]], []⟩ 8 (by kernel_rfl) (by kernel_rfl) (by kernel_rfl)
      (x := ([.agg [.lit (.int .i64 0), .nil]], [], [])) (by kernel_rfl) rfl (by kernel_rfl)) ?_
  intro W base args ds gs before hval hW _ hk _
  exact contract3 hC hall H enc W base args ds gs before hval hW hk
theorem said3 {call : Orc} (hC : DatOk Try.prog call) (hall : ∀ f : Fn, f.wf 1048576 → call.dat 3 [.agg f.row] = some [.sc (.bool true)]) : Rows.ForwardOfUptoSaid :=
  OpenClaim.holds_of_cond 3 Try.f3 rfl rfl rfl rfl rfl rfl rfl ⟨rfl, rfl, rfl, rfl, rfl⟩ rfl rfl rfl rfl rfl (by kernel_rfl) Try.func3 (by kernel_rfl)
    (of_decide_eq_true (by kernel_rfl)) (by unfold Func.isWrapper; first | (rw [if_pos (by decide +kernel)]; kernel_rfl) | (rw [if_neg (by decide +kernel)]; exact ⟨rfl, rfl⟩))
    (fun os started H enc _ F => lifted3 hC hall os started H enc F)

theorem contract4 {call : Orc} (hC : DatOk Try.prog call) (hall : ∀ f : Fn, f.wf 1048576 → call.dat 4 [.agg f.row] = some [.sc (.bool true)]) (H : Type) (enc : TypeId × Value → H) (W : World) (base : Nat) (args : Array Value) (ds gs : List (DataW H)) (before : List MemPlace)
    (hval : ∀ (j : Nat) t v, Try.f4.params[j]? = some t → args[j]? = some v → Value.okWide Try.prog W .any base t v)
    (hW : DataW.Whole enc Try.prog Try.f4.params.toList Rows.forwardShapesSpec.vars false W args.toList ds gs before) (hk : Rows.uptoSmall H (ds ++ gs) = true) :
    Calls Try.prog 4 args W fun e W' => ∃ v, e = .returned v ∧ Rows.forwardShapesSpec.post enc Try.prog Try.f4 false true false false W args v W' := by
  have hW' := hW
  obtain ⟨p, q, hA0, hV, rfl, hfz, hnd⟩ := hW
  have hA : DataW.TrodAll enc Try.prog W 0 (fun _ => true) true Try.f4.params.toList args.toList ds p := hA0
  rw [Try.params4] at hA hval
  obtain ⟨v0, vs0, d0, ds0, p0, q0, hargs, rfl, rfl, h0, r0⟩ := trodAll_cons hA
  obtain ⟨rfl, rfl, rfl⟩ := trodAll_nil r0
  obtain rfl : args = #[v0] := by cases args; simp_all
  obtain ⟨rfl, rfl⟩ := trodVars_none hV
  have hk' : Rows.uptoBulk d0 ≤ 1048576 := by
    have h := of_decide_eq_true hk
    simp only [List.append_nil, Rows.uptoBulkAll] at h
    omega
  obtain ⟨cs, rfl, hcs⟩ := okWide_struct Try.underlying24 (hval 0 24 v0 rfl rfl)
  obtain ⟨fuel, hf⟩ := h0
  obtain ⟨f, hr, hwf⟩ := reads_fn (N := 1048576) fuel _ _ hf hk'
  have hd := hC 4 [.agg f.row] _ (hall f hwf) okFn_4 (There W) W [.agg cs] (fun b h => h) (.cons ⟨cs.toList, rfl, hr⟩ .nil)
  refine hd.mono fun e W' ⟨u, he, hp⟩ => ?_
  subst he
  rw [rtys_4] at hp
  obtain rfl := callPost_true isAggB_4 hp
  exact ⟨_, rfl, law_post hW' rfl laidOut31 (by rw [Try.params4]; intro t ht; simp at ht; subst ht; exact ⟨rd24, lt24⟩) (by kernel_rfl) Try.underlying4 rfl (callPost_below hp)⟩
set_option maxRecDepth 100000 in
theorem lifted4 {call : Orc} (hC : DatOk Try.prog call) (hall : ∀ f : Fn, f.wf 1048576 → call.dat 4 [.agg f.row] = some [.sc (.bool true)]) (os : Os) (started : os.Started) (H : Type) (enc : TypeId × Value → H) (F : Stop.Interp) :
    ReturnsInHanded {} Try.checked os 4 .any ((Rows.OpenSpec.upto Rows.forwardShapesSpec).pre6 enc Try.prog Try.f4 Rows.forwardShapesUptoRow.domain false) (((Rows.OpenSpec.upto Rows.forwardShapesSpec).at F).post enc Try.prog Try.f4 false true false false) := by
  refine returnsInHanded_of_cond (C := Try.checked) (s := Rows.OpenSpec.upto Rows.forwardShapesSpec) (k := Rows.uptoSmall) rfl own31 started (by kernel_rfl) Try.func4
    (OpenSpec.witness (enc := enc) (C := Try.checked) (s := Rows.OpenSpec.upto Rows.forwardShapesSpec) (k := Rows.uptoSmall) rfl false ⟨#[], #[.agg #[.int .i64 0, .slice none 0 0]], []⟩ 8 (by kernel_rfl) (by kernel_rfl) (by kernel_rfl)
      (x := ([.agg [.lit (.int .i64 0), .nil]], [], [])) (by kernel_rfl) rfl (by kernel_rfl)) ?_
  intro W base args ds gs before hval hW _ hk _
  exact contract4 hC hall H enc W base args ds gs before hval hW hk
theorem said4 {call : Orc} (hC : DatOk Try.prog call) (hall : ∀ f : Fn, f.wf 1048576 → call.dat 4 [.agg f.row] = some [.sc (.bool true)]) : Rows.ForwardShapesUptoSaid :=
  OpenClaim.holds_of_cond 4 Try.f4 rfl rfl rfl rfl rfl rfl rfl ⟨rfl, rfl, rfl, rfl, rfl⟩ rfl rfl rfl rfl rfl (by kernel_rfl) Try.func4 (by kernel_rfl)
    (of_decide_eq_true (by kernel_rfl)) (by unfold Func.isWrapper; first | (rw [if_pos (by decide +kernel)]; kernel_rfl) | (rw [if_neg (by decide +kernel)]; exact ⟨rfl, rfl⟩))
    (fun os started H enc _ F => lifted4 hC hall os started H enc F)

theorem contract5 {call : Orc} (hC : DatOk Try.prog call) (hall : ∀ f : Fn, f.wf 1048576 → call.dat 5 [.agg f.row] = some [.sc (.bool true)]) (H : Type) (enc : TypeId × Value → H) (W : World) (base : Nat) (args : Array Value) (ds gs : List (DataW H)) (before : List MemPlace)
    (hval : ∀ (j : Nat) t v, Try.f5.params[j]? = some t → args[j]? = some v → Value.okWide Try.prog W .any base t v)
    (hW : DataW.Whole enc Try.prog Try.f5.params.toList Rows.forwardDoneSpec.vars false W args.toList ds gs before) (hk : Rows.uptoSmall H (ds ++ gs) = true) :
    Calls Try.prog 5 args W fun e W' => ∃ v, e = .returned v ∧ Rows.forwardDoneSpec.post enc Try.prog Try.f5 false true false false W args v W' := by
  have hW' := hW
  obtain ⟨p, q, hA0, hV, rfl, hfz, hnd⟩ := hW
  have hA : DataW.TrodAll enc Try.prog W 0 (fun _ => true) true Try.f5.params.toList args.toList ds p := hA0
  rw [Try.params5] at hA hval
  obtain ⟨v0, vs0, d0, ds0, p0, q0, hargs, rfl, rfl, h0, r0⟩ := trodAll_cons hA
  obtain ⟨rfl, rfl, rfl⟩ := trodAll_nil r0
  obtain rfl : args = #[v0] := by cases args; simp_all
  obtain ⟨rfl, rfl⟩ := trodVars_none hV
  have hk' : Rows.uptoBulk d0 ≤ 1048576 := by
    have h := of_decide_eq_true hk
    simp only [List.append_nil, Rows.uptoBulkAll] at h
    omega
  obtain ⟨cs, rfl, hcs⟩ := okWide_struct Try.underlying24 (hval 0 24 v0 rfl rfl)
  obtain ⟨fuel, hf⟩ := h0
  obtain ⟨f, hr, hwf⟩ := reads_fn (N := 1048576) fuel _ _ hf hk'
  have hd := hC 5 [.agg f.row] _ (hall f hwf) okFn_5 (There W) W [.agg cs] (fun b h => h) (.cons ⟨cs.toList, rfl, hr⟩ .nil)
  refine hd.mono fun e W' ⟨u, he, hp⟩ => ?_
  subst he
  rw [rtys_5] at hp
  obtain rfl := callPost_true isAggB_4 hp
  exact ⟨_, rfl, law_post hW' rfl laidOut31 (by rw [Try.params5]; intro t ht; simp at ht; subst ht; exact ⟨rd24, lt24⟩) (by kernel_rfl) Try.underlying4 rfl (callPost_below hp)⟩
set_option maxRecDepth 100000 in
theorem lifted5 {call : Orc} (hC : DatOk Try.prog call) (hall : ∀ f : Fn, f.wf 1048576 → call.dat 5 [.agg f.row] = some [.sc (.bool true)]) (os : Os) (started : os.Started) (H : Type) (enc : TypeId × Value → H) (F : Stop.Interp) :
    ReturnsInHanded {} Try.checked os 5 .any ((Rows.OpenSpec.upto Rows.forwardDoneSpec).pre6 enc Try.prog Try.f5 Rows.forwardDoneUptoRow.domain false) (((Rows.OpenSpec.upto Rows.forwardDoneSpec).at F).post enc Try.prog Try.f5 false true false false) := by
  refine returnsInHanded_of_cond (C := Try.checked) (s := Rows.OpenSpec.upto Rows.forwardDoneSpec) (k := Rows.uptoSmall) rfl own31 started (by kernel_rfl) Try.func5
    (OpenSpec.witness (enc := enc) (C := Try.checked) (s := Rows.OpenSpec.upto Rows.forwardDoneSpec) (k := Rows.uptoSmall) rfl false ⟨#[], #[.agg #[.int .i64 0, .slice none 0 0]], []⟩ 8 (by kernel_rfl) (by kernel_rfl) (by kernel_rfl)
      (x := ([.agg [.lit (.int .i64 0), .nil]], [], [])) (by kernel_rfl) rfl (by kernel_rfl)) ?_
  intro W base args ds gs before hval hW _ hk _
  exact contract5 hC hall H enc W base args ds gs before hval hW hk
theorem said5 {call : Orc} (hC : DatOk Try.prog call) (hall : ∀ f : Fn, f.wf 1048576 → call.dat 5 [.agg f.row] = some [.sc (.bool true)]) : Rows.ForwardDoneUptoSaid :=
  OpenClaim.holds_of_cond 5 Try.f5 rfl rfl rfl rfl rfl rfl rfl ⟨rfl, rfl, rfl, rfl, rfl⟩ rfl rfl rfl rfl rfl (by kernel_rfl) Try.func5 (by kernel_rfl)
    (of_decide_eq_true (by kernel_rfl)) (by unfold Func.isWrapper; first | (rw [if_pos (by decide +kernel)]; kernel_rfl) | (rw [if_neg (by decide +kernel)]; exact ⟨rfl, rfl⟩))
    (fun os started H enc _ F => lifted5 hC hall os started H enc F)

theorem contract7 {call : Orc} (hC : DatOk Try.prog call) (hall : ∀ f : Fn, f.wf 1048576 → call.dat 7 [.agg f.row] = some [.sc (.bool true)]) (H : Type) (enc : TypeId × Value → H) (W : World) (base : Nat) (args : Array Value) (ds gs : List (DataW H)) (before : List MemPlace)
    (hval : ∀ (j : Nat) t v, Try.f7.params[j]? = some t → args[j]? = some v → Value.okWide Try.prog W .any base t v)
    (hW : DataW.Whole enc Try.prog Try.f7.params.toList Rows.forwardTwiceSpec.vars false W args.toList ds gs before) (hk : Rows.uptoSmall H (ds ++ gs) = true) :
    Calls Try.prog 7 args W fun e W' => ∃ v, e = .returned v ∧ Rows.forwardTwiceSpec.post enc Try.prog Try.f7 false true false false W args v W' := by
  have hW' := hW
  obtain ⟨p, q, hA0, hV, rfl, hfz, hnd⟩ := hW
  have hA : DataW.TrodAll enc Try.prog W 0 (fun _ => true) true Try.f7.params.toList args.toList ds p := hA0
  rw [Try.params7] at hA hval
  obtain ⟨v0, vs0, d0, ds0, p0, q0, hargs, rfl, rfl, h0, r0⟩ := trodAll_cons hA
  obtain ⟨rfl, rfl, rfl⟩ := trodAll_nil r0
  obtain rfl : args = #[v0] := by cases args; simp_all
  obtain ⟨rfl, rfl⟩ := trodVars_none hV
  have hk' : Rows.uptoBulk d0 ≤ 1048576 := by
    have h := of_decide_eq_true hk
    simp only [List.append_nil, Rows.uptoBulkAll] at h
    omega
  obtain ⟨cs, rfl, hcs⟩ := okWide_struct Try.underlying24 (hval 0 24 v0 rfl rfl)
  obtain ⟨fuel, hf⟩ := h0
  obtain ⟨f, hr, hwf⟩ := reads_fn (N := 1048576) fuel _ _ hf hk'
  have hd := hC 7 [.agg f.row] _ (hall f hwf) okFn_7 (There W) W [.agg cs] (fun b h => h) (.cons ⟨cs.toList, rfl, hr⟩ .nil)
  refine hd.mono fun e W' ⟨u, he, hp⟩ => ?_
  subst he
  rw [rtys_7] at hp
  obtain rfl := callPost_true isAggB_4 hp
  exact ⟨_, rfl, law_post hW' rfl laidOut31 (by rw [Try.params7]; intro t ht; simp at ht; subst ht; exact ⟨rd24, lt24⟩) (by kernel_rfl) Try.underlying4 rfl (callPost_below hp)⟩
set_option maxRecDepth 100000 in
theorem lifted7 {call : Orc} (hC : DatOk Try.prog call) (hall : ∀ f : Fn, f.wf 1048576 → call.dat 7 [.agg f.row] = some [.sc (.bool true)]) (os : Os) (started : os.Started) (H : Type) (enc : TypeId × Value → H) (F : Stop.Interp) :
    ReturnsInHanded {} Try.checked os 7 .any ((Rows.OpenSpec.upto Rows.forwardTwiceSpec).pre6 enc Try.prog Try.f7 Rows.forwardTwiceUptoRow.domain false) (((Rows.OpenSpec.upto Rows.forwardTwiceSpec).at F).post enc Try.prog Try.f7 false true false false) := by
  refine returnsInHanded_of_cond (C := Try.checked) (s := Rows.OpenSpec.upto Rows.forwardTwiceSpec) (k := Rows.uptoSmall) rfl own31 started (by kernel_rfl) Try.func7
    (OpenSpec.witness (enc := enc) (C := Try.checked) (s := Rows.OpenSpec.upto Rows.forwardTwiceSpec) (k := Rows.uptoSmall) rfl false ⟨#[], #[.agg #[.int .i64 0, .slice none 0 0]], []⟩ 8 (by kernel_rfl) (by kernel_rfl) (by kernel_rfl)
      (x := ([.agg [.lit (.int .i64 0), .nil]], [], [])) (by kernel_rfl) rfl (by kernel_rfl)) ?_
  intro W base args ds gs before hval hW _ hk _
  exact contract7 hC hall H enc W base args ds gs before hval hW hk
theorem said7 {call : Orc} (hC : DatOk Try.prog call) (hall : ∀ f : Fn, f.wf 1048576 → call.dat 7 [.agg f.row] = some [.sc (.bool true)]) : Rows.ForwardTwiceUptoSaid :=
  OpenClaim.holds_of_cond 7 Try.f7 rfl rfl rfl rfl rfl rfl rfl ⟨rfl, rfl, rfl, rfl, rfl⟩ rfl rfl rfl rfl rfl (by kernel_rfl) Try.func7 (by kernel_rfl)
    (of_decide_eq_true (by kernel_rfl)) (by unfold Func.isWrapper; first | (rw [if_pos (by decide +kernel)]; kernel_rfl) | (rw [if_neg (by decide +kernel)]; exact ⟨rfl, rfl⟩))
    (fun os started H enc _ F => lifted7 hC hall os started H enc F)

end Go.Proofs.Ytmfhdhiaokejdaa
