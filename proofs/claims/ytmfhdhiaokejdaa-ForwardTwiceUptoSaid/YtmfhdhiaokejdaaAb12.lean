/- Conversions. No program of Go is named here. -/
import Derived.Test.YtmfhdhiaokejdaaAb11
import Derived.Laws.IdiomStrings
namespace Go.Ab
open Go
set_option linter.unusedSimpArgs false
set_option linter.unusedVariables false

section
variable {P : Program} {I K : Nat → Prop} {m : Mp} {hp hp' : Hp} {w : World} {k : Nat}

theorem bytesOfRows_ok : ∀ {rows : List (List AV)} {l : List UInt8} {news : List Value}, bytesOfRows rows = some l → AllR (RepD I w) rows.flatten news → ∃ ns : List Int, news = ns.map (Value.int .u8) ∧ l = ns.map fun n => UInt8.ofNat n.toNat
  | [], l, news, h, ha => by
    simp only [bytesOfRows, Option.some.injEq] at h
    subst h
    have : news = [] := List.eq_nil_of_length_eq_zero (by rw [← ha.1]; rfl)
    exact ⟨[], this, rfl⟩
  | r :: rs, l, news, h, ha => by
    unfold bytesOfRows at h
    split at h
    · rename_i heq; cases heq
    · rename_i n rs' heq
      cases heq
      cases hr : bytesOfRows rs with
      | none => rw [hr] at h; cases h
      | some l' =>
        rw [hr] at h
        simp only [Option.map_some, Option.some.injEq] at h
        obtain ⟨v, vs, rfl, h1, h2⟩ := AllR.cons_inv (show AllR (RepD I w) (.sc (.int .u8 n) :: rs.flatten) news by simpa using ha)
        obtain ⟨ns, e1, e2⟩ := bytesOfRows_ok hr h2
        simp only [RepD] at h1
        exact ⟨n :: ns, by rw [h1.1, e1]; rfl, by rw [← h, e2]; rfl⟩
    · cases h

theorem rows_slice {x : AV} {u : Value} {sz : Nat} {rows : List (List AV)} (hx0 : ∀ s, x ≠ .sc (.string s)) (hr : Rep k I m hp w x u) (h : (rowsP x).run hp = some ((sz, rows), hp')) :
    ∃ A cap, u = .slice A rows.length cap ∧ (A = none → rows = []) := by
  cases x with
  | sl f sz' rows' =>
    simp only [rowsP, Prog.run, Option.some.injEq, Prod.mk.injEq] at h
    obtain ⟨⟨rfl, rfl⟩, rfl⟩ := h
    simp only [Rep, RepD] at hr
    obtain ⟨A, cap, rfl, h1, h2, _, h4⟩ := hr
    refine ⟨A, cap, rfl, fun hA => ?_⟩
    rcases h4 with h4 | ⟨b, o, us, hb, _⟩
    · exact h4
    · rw [hb] at hA; cases hA
  | own y g n =>
    simp only [rowsP, Prog.run] at h
    cases hx : hp y with
    | no g' => rw [hx] at h; simp [Prog.run] at h
    | box g' c f => rw [hx] at h; simp [Prog.run] at h
    | arr g' sz' e rows' f =>
      rw [hx] at h
      simp only at h
      split at h
      · rename_i hc
        obtain ⟨rfl, hn⟩ := hc
        simp only [Prog.run, Option.some.injEq, Prod.mk.injEq] at h
        obtain ⟨⟨rfl, rfl⟩, rfl⟩ := h
        simp only [Rep] at hr
        obtain ⟨_, _, hr⟩ := hr
        obtain ⟨_, hr⟩ := hr sz' e rows' f hx
        have hl : (rows'.take n).length = n := by rw [List.length_take]; omega
        rcases hr with ⟨h0, rfl, rfl⟩ | ⟨b, cap, hm, rfl⟩
        · exact ⟨none, 0, by simp, fun _ => by simp⟩
        · exact ⟨_, cap, by rw [hl], fun hA => (by cases hA)⟩
      · simp [Prog.run] at h
  | sc v =>
    simp only [Rep] at hr
    subst hr
    unfold rowsP at h
    split at h
    all_goals first | (simp [Prog.run] at h; done) | skip
    · rename_i heq; simp at heq
    · rename_i heq; simp at heq
    · rename_i heq
      simp only [AV.sc.injEq] at heq
      subst heq
      simp only [Prog.run, Option.some.injEq, Prod.mk.injEq] at h
      obtain ⟨⟨rfl, rfl⟩, rfl⟩ := h
      exact ⟨none, 0, rfl, fun _ => rfl⟩
    · rename_i s heq
      exact absurd heq (hx0 s)
  | any | dp | ptr | eptr | agg | tup | vec | fn => simp [rowsP, Prog.run] at h

theorem intK_ok {t : TypeId} {kd : IntKind} (h : intK P t = some kd) : P.underlying t = some (.int kd) := by
  unfold intK at h
  split at h
  · rename_i k' he; cases h; exact he
  · cases h

theorem grown_bytes (s : ByteArray) (cap : Nat) (h : s.size ≤ cap) :
    RepRows I w 1 (s.data.toList.map fun b => [.sc (.int .u8 b.toNat)]) ((bytesRow s cap).toList.take ((s.data.toList.map fun b => [AV.sc (.int .u8 b.toNat)]).length * 1)) ∧ (bytesRow s cap).toList.length = cap * 1 := by
  have hf : ∀ l : List UInt8, (l.map fun b => [AV.sc (.int .u8 b.toNat)]).flatten = l.map fun b => AV.sc (.int .u8 b.toNat) := by
    intro l; induction l with
    | nil => rfl
    | cons a l ih => simp [ih]
  have ha : AllR (RepD I w) (s.data.toList.map fun b => AV.sc (.int .u8 b.toNat)) (s.data.toList.map fun b => Value.int .u8 b.toNat) := by
    refine ⟨by simp, fun j a u h1 h2 => ?_⟩
    rw [List.getElem?_map] at h1 h2
    cases hc : s.data.toList[j]? with
    | none => rw [hc] at h1; cases h1
    | some b => rw [hc] at h1 h2; cases h1; cases h2; simp only [RepD]; exact ⟨trivial, rfl⟩
  have hsz : s.data.size = s.size := rfl
  have hrow : (bytesRow s cap).toList = (s.data.toList.map fun b => Value.int .u8 b.toNat) ++ List.replicate (cap - s.size) (.int .u8 0) := by simp [bytesRow]
  rw [hrow]
  constructor
  · rw [RepRows_iff, hf]
    refine ⟨fun r hr => ?_, ?_⟩
    · obtain ⟨b, _, rfl⟩ := List.mem_map.1 hr; rfl
    · rw [List.take_left' (by simp)]; exact ha
  · simp [hsz]; omega

theorem convert_ok (G : Gam I K m hp w) {y : Nm} (hy : y.d ≤ k) {src dst : TypeId} {x v : AV} {u : Value} (hr : Rep k I m hp w x u) (h : (convertP P y src dst x).run hp = some (v, hp')) :
    ∃ u' w' m', (convert src dst u).run P w = .ok u' w' ∧ Gam I K m' hp' w' ∧ Ext I K m hp w I m' hp' w' ∧ Rep k I m' hp' w' v u' := by
  unfold convertP at h
  split at h
  · rename_i kd n
    simp only [Rep] at hr
    subst hr
    split at h
    · rename_i kd' hk
      split at h
      · rename_i hs
        simp only [Prog.run, Option.some.injEq, Prod.mk.injEq] at h
        obtain ⟨rfl, rfl⟩ := h
        obtain ⟨d, hd⟩ := Option.isSome_iff_exists.1 hs
        refine ⟨.int kd' (kd'.wrap n), w, m, ?_, G, .refl _ _ _ _ _, by simp only [Rep]⟩
        simp [convert, run_underlying hd, run_underlying (intK_ok hk), Conv.intToInt]
      · simp [Prog.run] at h
    · simp [Prog.run] at h
  · rename_i s
    simp only [Rep] at hr
    subst hr
    split at h
    case isFalse => simp [Prog.run] at h
    rename_i hs
    split at h
    · rename_i hd
      simp only [Prog.run, Option.some.injEq, Prod.mk.injEq] at h
      obtain ⟨rfl, rfl⟩ := h
      refine ⟨.string s, w, m, ?_, G, .refl _ _ _ _ _, by simp only [Rep]⟩
      simp [convert, run_underlying (strB_ok hs), run_underlying (strB_ok hd)]
    · split at h
      · rename_i e he
        split at h
        · rename_i hc
          obtain ⟨h1, h2, h3⟩ := hc
          have hrun := run_bytes_of_string (P := P) w src dst e s (strB_ok hs) (slel_ok he) (intK_ok h1)
          have hge := grownCap_ge w s.size 0 e
          have hle := grownCap_le_maxLen w s.size 0 e h3
          obtain ⟨a1, a2⟩ := grown_bytes (I := I) (w := w) s (grownCap w s.size 0 e) hge
          have hlen : (s.data.toList.map fun b => [AV.sc (.int .u8 b.toNat)]).length = s.size := by simp
          obtain ⟨m', G', E', R'⟩ := newArr_ok (w := w) (us := (bytesRow s (grownCap w s.size 0 e)).toList) (cap := grownCap w s.size 0 e) (mk := ((bytesRow s (grownCap w s.size 0 e)).size, (bytesRow s (grownCap w s.size 0 e)).size + 1))
            G hy (fun j hj => by simp only [Array.toArray_toList] at hj; simp; omega) a2 (by rw [hlen]; exact hge) hle a1 h (.inr rfl)
          rw [hlen] at R'
          exact ⟨_, _, m', hrun, G', E', R'⟩
        · simp [Prog.run] at h
      · simp [Prog.run] at h
  · rename_i hn1 hn2
    split at h
    case h_2 => simp [Prog.run] at h
    rename_i e he
    split at h
    case isFalse => simp [Prog.run] at h
    rename_i hc
    obtain ⟨hd, h8⟩ := hc
    obtain ⟨⟨sz, rows⟩, hp1, r1, h2⟩ := run_bind_some h
    clear h
    obtain ⟨rfl, hsrc⟩ := rows_ok (P := P) G hr r1
    obtain ⟨A, cap, rfl, hA⟩ := rows_slice hn2 hr r1
    simp only at h2
    split at h2
    case h_2 => simp [Prog.run] at h2
    rename_i l hl
    split at h2
    case isFalse => simp [Prog.run] at h2
    rename_i hsz
    simp only [Prog.run, Option.some.injEq, Prod.mk.injEq] at h2
    obtain ⟨rfl, rfl⟩ := h2
    obtain ⟨news, hS, hN, hE⟩ := hsrc 1 hsz
    obtain ⟨ns, rfl, rfl⟩ := bytesOfRows_ok hl hN
    refine ⟨.string ⟨⟨ns.map fun n => UInt8.ofNat n.toNat⟩⟩, w, m, ?_, G, .refl _ _ _ _ _, by simp only [Rep]⟩
    rw [run_convert_bytes_string w src dst e A rows.length cap (slel_ok he) (intK_ok h8) (strB_ok hd)]
    have hfold : ∀ (ns : List Int) (r : ByteArray), ns.foldl (fun r n => r.push (UInt8.ofNat n.toNat)) r = ⟨r.data ++ (ns.map fun n => UInt8.ofNat n.toNat).toArray⟩ := by
      intro ns; induction ns with
      | nil => intro r; simp
      | cons n ns ih => intro r; rw [List.foldl_cons, ih]; simp [ByteArray.push]
    have he0 : ByteArray.empty.data = #[] := rfl
    cases A with
    | none =>
      have hr0 : rows = [] := hA rfl
      subst hr0
      have : ns = [] := by have := hS.length; simpa using this
      subst this
      simp [Conv.bytesToString]
      rfl
    | some a =>
      have hf := hS.first w rfl
      have hl2 : (loadCells a rows.length).run P w = .ok (ns.map (Value.int .u8)).toArray w := by simpa [Builtin.firstCells] using hf
      rw [run_bytesToString w a rows.length cap ns hl2, hfold, he0]
      simp
end
end Go.Ab
