/- Lists that are cut, made, built; structs and arrays that are built; conversions. No program of Go is named here. -/
import Derived.Test.YtmfhdhiaokejdaaAb9
namespace Go.Ab
open Go
set_option linter.unusedSimpArgs false
set_option linter.unusedVariables false

section
variable {P : Program} {I K : Nat → Prop} {m : Mp} {hp hp' : Hp} {w : World} {k : Nat}

/-! ### cut -/
def oRep (k : Nat) (I : Nat → Prop) (m : Mp) (hp : Hp) (w : World) : Option AV → Option Value → Prop
  | none, none => True
  | some a, some u => Rep k I m hp w a u
  | _, _ => False

theorem bound_some {d n : Nat} {a : Option AV} {u : Option Value} (h : bound d a = some n) (hr : oRep k I m hp w a u) :
    (a = none ∧ u = none ∧ n = d) ∨ ∃ kd x, u = some (.int kd x) ∧ 0 ≤ x ∧ n = x.toNat := by
  cases a with
  | none => cases u with
    | none => simp [bound] at h; exact .inl ⟨rfl, rfl, h.symm⟩
    | some u => simp [oRep] at hr
  | some a =>
    cases u with
    | none => simp [oRep] at hr
    | some u =>
      unfold bound at h
      split at h
      · rename_i heq; cases heq
      · rename_i kd x heq
        cases heq
        split at h
        · rename_i hx
          cases h
          simp only [oRep, Rep] at hr
          subst hr
          exact .inr ⟨kd, x, rfl, hx, rfl⟩
        · cases h
      · cases h

theorem run_bound (w : World) {kd : IntKind} {x : Int} {y : Nat} {c : BoundsCode} (h0 : 0 ≤ x) (hy : x.toNat ≤ y) : (Instr.sliceBound (.int kd x) y c).run P w = .ok x.toNat w := by
  have : x ≤ (y : Int) := by omega
  simp [Instr.sliceBound, asIntOf, h0, this]

/-- The bounds of a cut without a third one. -/
theorem run_bounds2 (w : World) (isSlice : Bool) {len cap l h : Nat} {lo hi : Option AV} {ul uh : Option Value} (rl : oRep k I m hp w lo ul) (rh : oRep k I m hp w hi uh) (hl : bound 0 lo = some l) (hh : bound len hi = some h)
    (h1 : l ≤ h) (h2 : h ≤ len) (h3 : len ≤ cap) : (Instr.sliceBounds isSlice len cap ul uh none).run P w = .ok (l, h, cap) w := by
  rcases bound_some hl rl with ⟨_, rfl, rfl⟩ | ⟨kd, x, rfl, hx, rfl⟩ <;> rcases bound_some hh rh with ⟨_, rfl, rfl⟩ | ⟨kd', y, rfl, hy, rfl⟩
  · simp [Instr.sliceBounds]
  · simp [Instr.sliceBounds, run_bound w hy (show y.toNat ≤ cap by omega)]
  · simp [Instr.sliceBounds, run_bound w hx (show x.toNat ≤ h by omega)]
  · simp [Instr.sliceBounds, run_bound w hy (show y.toNat ≤ cap by omega), run_bound w hx h1]
theorem run_bounds3 (w : World) {len cap l h q : Nat} {lo hi mx : Option AV} {ul uh um : Option Value} (rl : oRep k I m hp w lo ul) (rh : oRep k I m hp w hi uh) (rm : oRep k I m hp w mx um) (hl : bound 0 lo = some l) (hh : bound len hi = some h) (hm : bound 0 mx = some q)
    (h1 : l ≤ h) (h2 : h ≤ q) (h3 : q ≤ cap) (hs : hi.isSome) (ms : mx.isSome) : (Instr.sliceBounds true len cap ul uh um).run P w = .ok (l, h, q) w := by
  rcases bound_some hm rm with ⟨rfl, _, _⟩ | ⟨kz, z, rfl, hz, rfl⟩
  · simp at ms
  rcases bound_some hh rh with ⟨rfl, _, _⟩ | ⟨kd', y, rfl, hy, rfl⟩
  · simp at hs
  rcases bound_some hl rl with ⟨_, rfl, rfl⟩ | ⟨kd, x, rfl, hx, rfl⟩
  · simp [Instr.sliceBounds, run_bound w hz h3, run_bound w hy h2]
  · simp [Instr.sliceBounds, run_bound w hz h3, run_bound w hy h2, run_bound w hx h1]

/-- A part of a list, as data. -/
theorem RepD.cut {J : Nat → Prop} {f f' : Bool} {sz l h cap c' : Nat} {rows : List (List AV)} {A : Option Addr} (hr : RepD J w (.sl f sz rows) (.slice A rows.length cap)) (h1 : l ≤ h) (h2 : h ≤ rows.length) (hc : h ≤ c') (hcc : c' ≤ cap) (hf : f' = true → c' = h) :
    RepD J w (.sl f' sz ((rows.take h).drop l)) (.slice (if c' = l then A else A.map (·.add (l * sz))) (h - l) (c' - l)) := by
  simp only [RepD] at hr ⊢
  obtain ⟨A', cap', he, h3, h4, h5, h6⟩ := hr
  simp only [Value.slice.injEq] at he
  obtain ⟨rfl, _, rfl⟩ := he
  have hlen : ((rows.take h).drop l).length = h - l := by rw [List.length_drop, List.length_take]; omega
  refine ⟨_, _, by rw [hlen], by rw [hlen]; omega, by omega, fun hft => by rw [hlen, hf hft], ?_⟩
  by_cases hlh : h = l
  · left
    apply List.eq_nil_of_length_eq_zero
    rw [hlen]; omega
  · rcases h6 with rfl | ⟨b, o, us, rfl, hb, hcc', hrr⟩
    · simp at h2; omega
    · right
      obtain ⟨hev, hal⟩ := (RepRows_iff _ _).1 hrr
      refine ⟨b, o + l * sz, (us.take (h * sz)).drop (l * sz), ?_, hb, fun j v hv => ?_, ?_⟩
      · rw [if_neg (by omega)]
        simp [add_plain]
      · rw [List.getElem?_drop, List.getElem?_take] at hv
        split at hv
        · have := hcc' _ v hv
          rwa [← Nat.add_assoc] at this
        · cases hv
      · rw [RepRows_iff]
        refine ⟨(hev.take h).drop l, ?_⟩
        rw [(hev.take h).flatten_drop, hev.flatten_take]
        exact (hal.take _).drop _

theorem slice_run (w : World) {t e : TypeId} (ht : P.underlying t = some (.slice e)) {i : TypeInfo} (hi : P.info? e = some i) {A : Option Addr} {len cap l h q : Nat} {ul uh um : Option Value} (hb : (Instr.sliceBounds true len cap ul uh um).run P w = .ok (l, h, q) w) :
    (Instr.sliceAt t (.slice A len cap) ul uh um).run P w = .ok (.slice (if q = l then A else A.map (·.add (l * i.size))) (h - l) (q - l)) w := by
  simp [Instr.sliceAt, Instr.slice, run_underlying ht, hb, sizeOf, typeInfo, hi]

theorem chunks_flat (sz : Nat) : ∀ (n : Nat) (l : List AV), n * sz ≤ l.length → (chunks sz n l).flatten = l.take (n * sz) ∧ Even sz (chunks sz n l) ∧ (chunks sz n l).length = n
  | 0, l, _ => ⟨by simp [chunks], fun r hr => by simp [chunks] at hr, rfl⟩
  | n + 1, l, h => by
    have hle : sz ≤ l.length := by rw [Nat.add_mul] at h; omega
    obtain ⟨h1, h2, h3⟩ := chunks_flat sz n (l.drop sz) (by rw [List.length_drop]; rw [Nat.add_mul] at h; omega)
    refine ⟨?_, fun r hr => ?_, by simp [chunks, h3]⟩
    · simp only [chunks, List.flatten_cons, h1]
      have e : (n + 1) * sz = sz + n * sz := by rw [Nat.add_mul]; omega
      rw [e, List.take_add]
    · rcases List.mem_cons.1 hr with rfl | hr
      · rw [List.length_take]; omega
      · exact h2 r hr

theorem tOk_ok {t : TypeId} (h : tOk P t = true) : (∃ i, P.info? t = some i ∧ P.cellsOf t = i.size) ∧ (P.underlying t).isSome := by
  simp only [tOk, Bool.and_eq_true] at h
  obtain ⟨i, hi⟩ := Option.isSome_iff_exists.1 h.1
  exact ⟨⟨i, hi, by simp [Program.cellsOf, hi]⟩, h.2⟩
theorem arrOf_ok {t e : TypeId} {n : Nat} (h : arrOf P t = some (n, e)) : P.underlying t = some (.array n e) := by
  unfold arrOf at h
  split at h
  · rename_i n' e' he'; cases h; exact he'
  · cases h

theorem oRep_none {u : Option Value} (h : oRep k I m hp w none u) : u = none := by cases u <;> simp_all [oRep]

theorem slice_ok (G : Gam I K m hp w) {t : TypeId} {x v : AV} {lo hi mx : Option AV} {u : Value} {ul uh um : Option Value} (hr : Rep k I m hp w x u) (rl : oRep k I m hp w lo ul) (rh : oRep k I m hp w hi uh) (rm : oRep k I m hp w mx um)
    (h : (sliceP P t x lo hi mx).run hp = some (v, hp')) :
    ∃ I' u', (Instr.sliceAt t u ul uh um).run P w = .ok u' w ∧ Gam I' K m hp' w ∧ Ext I K m hp w I' m hp' w ∧ Rep k I' m hp' w v u' := by
  cases x with
  | sc vi =>
    simp only [Rep] at hr
    subst hr
    unfold sliceP at h
    split at h
    all_goals first | (simp [Prog.run] at h; done) | (rename_i heq; simp at heq; done) | skip
    rename_i s heq
    simp only [AV.sc.injEq] at heq
    subst heq
    split at h
    · rename_i l hh _ _ _
      split at h
      · rename_i hc
        simp only [Prog.run, Option.some.injEq, Prod.mk.injEq] at h
        obtain ⟨rfl, rfl⟩ := h
        have hum := oRep_none rm
        subst hum
        have hb := run_bounds2 (P := P) w false rl rh ‹bound 0 lo = _› ‹bound s.size hi = _› hc.1 hc.2 (Nat.le_refl _)
        refine ⟨I, .string (s.extract l hh), ?_, G, .refl _ _ _ _ _, by simp only [Rep]⟩
        simp [Instr.sliceAt, Instr.slice, run_underlying (strB_ok ‹strB P t = true›), hb]
      · simp [Prog.run] at h
    · simp [Prog.run] at h
  | sl f sz rows =>
    simp only [sliceP] at h
    have hr0 := hr
    simp only [Rep, RepD] at hr0
    obtain ⟨A, cap, rfl, h1, h2, h3, h4⟩ := hr0
    simp only [Rep] at hr
    split at h
    · rename_i e l hh _ _ _
      split at h
      case isFalse => simp [Prog.run] at h
      rename_i hc
      obtain ⟨c1, c2, rfl, c4⟩ := hc
      simp only [Prog.run, Option.some.injEq, Prod.mk.injEq] at h
      obtain ⟨rfl, rfl⟩ := h
      have hum := oRep_none rm
      subst hum
      obtain ⟨⟨i, hi, hsz⟩, _⟩ := tOk_ok c4
      have hb := run_bounds2 (P := P) w true rl rh ‹bound 0 lo = _› ‹bound rows.length _ = _› c1 c2 h1
      refine ⟨I, _, slice_run w (slel_ok ‹slel P t = _›) hi hb, G, .refl _ _ _ _ _, ?_⟩
      simp only [Rep]
      rw [← hsz]
      exact hr.cut c1 c2 (by omega) (Nat.le_refl _) (by simp)
    · rename_i e l hh mm _ _ _
      split at h
      · rename_i q _
        split at h
        case isFalse => simp [Prog.run] at h
        rename_i hc
        obtain ⟨c1, rfl, c2, rfl, c3, c4⟩ := hc
        simp only [Prog.run, Option.some.injEq, Prod.mk.injEq] at h
        obtain ⟨rfl, rfl⟩ := h
        obtain ⟨⟨i, hi, hsz⟩, _⟩ := tOk_ok c4
        have hb := run_bounds3 (P := P) (len := rows.length) (cap := cap) w rl rh rm ‹bound 0 lo = _› ‹bound rows.length _ = _› ‹bound 0 (some mm) = _› c1 (Nat.le_refl _) (by omega) c3 rfl
        refine ⟨I, _, slice_run w (slel_ok ‹slel P t = _›) hi hb, G, .refl _ _ _ _ _, ?_⟩
        simp only [Rep]
        rw [← hsz]
        exact hr.cut c1 c2 (Nat.le_refl _) (by omega) (fun _ => rfl)
      · simp [Prog.run] at h
    · simp [Prog.run] at h
  | own x g n =>
    simp only [sliceP, Prog.run] at h
    cases hx : hp x with
    | no g' => rw [hx] at h; simp [Prog.run] at h
    | box g' c f => rw [hx] at h; simp [Prog.run] at h
    | arr g' sz e' rows f =>
      rw [hx] at h
      simp only at h
      split at h
      · rename_i e l hh _ _ _
        split at h
        case isFalse => simp [Prog.run] at h
        rename_i hc
        obtain ⟨rfl, c1, c2, rfl, c4⟩ := hc
        have hum := oRep_none rm
        subst hum
        obtain ⟨⟨i, hi, hsz⟩, _⟩ := tOk_ok c4
        obtain ⟨hn, _, hd⟩ := G.ownRows hx hr
        have hr0 := hr
        simp only [Rep] at hr0
        obtain ⟨r1, r2, r3⟩ := hr0
        obtain ⟨r4, r5⟩ := r3 _ e' rows f hx
        split at h
        · rename_i hl0
          subst hl0
          simp only [Prog.run, Option.some.injEq, Prod.mk.injEq] at h
          obtain ⟨rfl, rfl⟩ := h
          rcases r5 with ⟨m0, rfl, rfl⟩ | ⟨b, cap, hm, rfl⟩
          · have hb := run_bounds2 (P := P) w true (cap := 0) rl rh ‹bound 0 lo = _› ‹bound 0 _ = _› c1 c2 (Nat.le_refl _)
            refine ⟨I, _, slice_run w (slel_ok ‹slel P t = _›) hi hb, G, .refl _ _ _ _ _, ?_⟩
            simp only [Rep]
            refine ⟨r1, r2, fun sz e rows' fz hx' => ⟨by omega, .inl ⟨m0, ?_, by omega⟩⟩⟩
            have : hh = 0 := by omega
            subst this; simp
          · have hcap : n ≤ cap := by
              have ho := G.obj x
              rw [hx] at ho
              rcases ho with ⟨h1, _⟩ | ⟨b', cap', us, mk, h1, h2, h3, h4, h5, h6, h7, h8, h9⟩
              · rw [h1] at hm; cases hm
              · rw [h1] at hm; cases hm; omega
            have hb := run_bounds2 (P := P) w true (cap := cap) rl rh ‹bound 0 lo = _› ‹bound n _ = _› c1 c2 hcap
            refine ⟨I, _, slice_run w (slel_ok ‹slel P t = _›) hi hb, G, .refl _ _ _ _ _, ?_⟩
            simp only [Rep]
            refine ⟨r1, r2, fun sz e rows' fz hx' => ?_⟩
            rw [hx] at hx'; cases hx'
            refine ⟨by omega, .inr ⟨b, cap, hm, ?_⟩⟩
            simp [add_plain]
        · simp only [Prog.run, Option.some.injEq, Prod.mk.injEq] at h
          obtain ⟨rfl, rfl⟩ := h
          obtain ⟨I', G', E', hb'⟩ := G.freeze hx
          have hdat := hd I' E'.isub hb'
          have hlen : (rows.take n).length = n := by rw [List.length_take]; omega
          have hu : ∃ A cap, u = .slice A (rows.take n).length cap ∧ n ≤ cap := by
            have := hdat
            simp only [RepD] at this
            obtain ⟨A, cap, e1, e2, _⟩ := this
            exact ⟨A, cap, e1, by omega⟩
          obtain ⟨A, cap, rfl, hcap⟩ := hu
          rw [hlen] at hdat ⊢
          have hb := run_bounds2 (P := P) w true (cap := cap) rl rh ‹bound 0 lo = _› ‹bound n _ = _› c1 c2 hcap
          refine ⟨I', _, slice_run w (slel_ok ‹slel P t = _›) hi hb, G', E', ?_⟩
          simp only [Rep]
          rw [← hsz]
          have hcut := RepD.cut (rows := rows.take n) (f' := false) (c' := cap) (l := l) (h := hh) (cap := cap) (A := A) (by rw [hlen]; exact hdat) c1 (by rw [hlen]; exact c2) (by omega) (Nat.le_refl _) (by simp)
          rwa [List.take_take, Nat.min_eq_left c2] at hcut
      · rename_i e l hh mm _ _ _
        split at h
        · rename_i q _
          split at h
          case isFalse => simp [Prog.run] at h
          rename_i hc
          obtain ⟨rfl, c1, rfl, c2, rfl, c3, c4⟩ := hc
          simp only [Prog.run, Option.some.injEq, Prod.mk.injEq] at h
          obtain ⟨rfl, rfl⟩ := h
          obtain ⟨⟨i, hi, hsz⟩, _⟩ := tOk_ok c4
          obtain ⟨hn, _, hd⟩ := G.ownRows hx hr
          obtain ⟨I', G', E', hb'⟩ := G.freeze hx
          have hdat := hd I' E'.isub hb'
          have hlen : (rows.take n).length = n := by rw [List.length_take]; omega
          have hu : ∃ A cap, u = .slice A (rows.take n).length cap ∧ n ≤ cap := by
            have := hdat
            simp only [RepD] at this
            obtain ⟨A, cap, e1, e2, _⟩ := this
            exact ⟨A, cap, e1, by omega⟩
          obtain ⟨A, cap, rfl, hcap⟩ := hu
          rw [hlen] at hdat ⊢
          have hb := run_bounds3 (P := P) (len := n) (cap := cap) w rl rh rm ‹bound 0 lo = _› ‹bound n _ = _› ‹bound 0 (some mm) = _› c1 (Nat.le_refl _) (by omega) c3 rfl
          refine ⟨I', _, slice_run w (slel_ok ‹slel P t = _›) hi hb, G', E', ?_⟩
          simp only [Rep]
          rw [← hsz]
          have hcut := RepD.cut (rows := rows.take n) (f' := true) (c' := hh) (l := l) (h := hh) (cap := cap) (A := A) (by rw [hlen]; exact hdat) c1 (by rw [hlen]; exact c2) (Nat.le_refl _) (by omega) (fun _ => rfl)
          rwa [List.take_take, Nat.min_eq_left c2] at hcut
        · simp [Prog.run] at h
      · split at h <;> simp [Prog.run] at h
  | ptr x g off =>
    cases off with
    | succ off => simp [sliceP, Prog.run] at h
    | zero =>
      simp only [sliceP] at h
      split at h
      · rename_i n e _
        simp only [Prog.run] at h
        cases hx : hp x with
        | no g' => rw [hx] at h; simp [Prog.run] at h
        | arr g' sz e' rows f => rw [hx] at h; simp [Prog.run] at h
        | box g' cells f =>
          rw [hx] at h
          simp only at h
          split at h
          case isFalse => simp [Prog.run] at h
          rename_i hc
          obtain ⟨rfl, hmax, hl, hdat, hok⟩ := hc
          simp only [Prog.run, Option.some.injEq, Prod.mk.injEq] at h
          obtain ⟨rfl, rfl⟩ := h
          have h1 := oRep_none rl
          have h2 := oRep_none rh
          have h3 := oRep_none rm
          subst h1 h2 h3
          obtain ⟨⟨i, hi, hsz⟩, _⟩ := tOk_ok hok
          have hdd : ∀ us, RepL x.d I m hp w cells us → RepDL I w cells us := fun us hus => by
            rw [RepL_iff] at hus
            rw [RepDL_iff]
            refine ⟨hus.1, fun j a u ha hu => ?_⟩
            have h1 := hus.2 j a u ha hu
            have h2 : isDat a = true := List.all_eq_true.1 hdat a (List.mem_of_getElem? ha)
            cases a <;> simp [isDat] at h2 <;> simp only [Rep] at h1
            · simp only [RepD]; exact ⟨h1, h2⟩
            · exact h1
            · exact h1
          obtain ⟨I', G', E', hb'⟩ := G.freezeBox hx hdd
          have ho := G'.obj x
          rw [upd_same] at ho
          obtain ⟨b, c, us, T, mk, o1, o2, o3, o4, o5, o6⟩ := ho
          have hda := (o5 rfl).2
          simp only [Rep] at hr
          obtain ⟨_, _, hr⟩ := hr
          obtain ⟨b', c', hm, rfl⟩ := hr cells f hx
          rw [o1] at hm; cases hm
          obtain ⟨q1, q2, q3⟩ := chunks_flat (P.cellsOf e) n cells (by omega)
          refine ⟨I', .slice (some (if n = 0 then ⟨b, 0, none⟩ else (⟨b, 0, none⟩ : Addr).add (0 * i.size))) n n, ?_, G', E', ?_⟩
          · simp [Instr.sliceAt, run_underlying (arrOf_ok ‹arrOf P t = _›), Instr.sureAddr, Instr.sliceBounds, sizeOf, typeInfo, hi]
          · simp only [Rep, RepD]
            refine ⟨_, n, by rw [q3], by rw [q3]; exact Nat.le_refl _, hmax, fun _ => q3.symm, .inr ⟨b, 0, us.toList, ?_, (o5 rfl).1, fun j v hv => ?_, ?_⟩⟩
            · simp [Addr.add]
            · rw [Nat.zero_add, cell_of_row w b j us T mk o2]
              simpa using hv
            · rw [RepRows_iff, q1, ← hl, List.take_length]
              exact ⟨q2, (RepDL_iff _ _).1 hda⟩
      · simp [Prog.run] at h
  | dp cells off =>
    simp only [sliceP] at h
    split at h
    · rename_i n e _
      split at h
      case isFalse => simp [Prog.run] at h
      rename_i hc
      obtain ⟨hl, hok, hmax⟩ := hc
      simp only [Prog.run, Option.some.injEq, Prod.mk.injEq] at h
      obtain ⟨rfl, rfl⟩ := h
      have h1 := oRep_none rl
      have h2 := oRep_none rh
      have h3 := oRep_none rm
      subst h1 h2 h3
      obtain ⟨⟨i, hi, hsz⟩, _⟩ := tOk_ok hok
      simp only [Rep, RepD] at hr
      obtain ⟨b, o, us, rfl, hb, hcc, hl'⟩ := hr
      obtain ⟨q1, q2, q3⟩ := chunks_flat (P.cellsOf e) n (cells.drop off) hl
      refine ⟨I, .slice (some (if n = 0 then ⟨b, o + off, none⟩ else (⟨b, o + off, none⟩ : Addr).add (0 * i.size))) n n, ?_, G, .refl _ _ _ _ _, ?_⟩
      · simp [Instr.sliceAt, run_underlying (arrOf_ok ‹arrOf P t = _›), Instr.sureAddr, Instr.sliceBounds, sizeOf, typeInfo, hi]
      · simp only [Rep, RepD]
        refine ⟨_, n, by rw [q3], by rw [q3]; exact Nat.le_refl _, hmax, fun _ => q3.symm, .inr ⟨b, o + off, (us.drop off).take (n * P.cellsOf e), ?_, hb, fun j v hv => ?_, ?_⟩⟩
        · simp [Addr.add]
        · rw [List.getElem?_take] at hv
          split at hv
          · rw [List.getElem?_drop] at hv
            have := hcc _ v hv
            rwa [← Nat.add_assoc] at this
          · cases hv
        · rw [RepRows_iff, q1]
          exact ⟨q2, (((RepDL_iff _ _).1 hl').drop off).take _⟩
    · simp [Prog.run] at h
  | any | eptr | agg | tup | vec | fn => simp [sliceP, Prog.run] at h
end
end Go.Ab
