/- append. No program of Go is named here. -/
import Derived.Test.YtmfhdhiaokejdaaAb7
namespace Go.Ab
open Go
set_option linter.unusedSimpArgs false
set_option linter.unusedVariables false

section
variable {P : Program} {I K : Nat → Prop} {m : Mp} {hp hp' : Hp} {w : World} {k : Nat}

theorem src_slice {b o n c size : Nat} {us : List Value} (hc : CellsAt w b o us) (hl : us.length = n * size) : Src P w size n (.slice (some ⟨b, o, none⟩) n c) us where
  len := fun w' => rfl
  first := fun w' hw => by
    refine run_firstCells_some w' size n _ n c us hl fun j v hv => ?_
    rw [add_plain]
    have := hc j v hv
    simpa [World.cell?, hw] using this
  length := hl
theorem src_none {size c : Nat} {A : Option Addr} : Src P w size 0 (.slice A 0 c) [] where
  len := fun w' => rfl
  first := fun w' _ => by
    cases A with
    | none => simp [Builtin.firstCells]
    | some a => simp [Builtin.firstCells, loadCells, loadCellsFrom]
  length := by simp

theorem rows_ok (G : Gam I K m hp w) {x : AV} {u : Value} {sz : Nat} {rows : List (List AV)} (hr : Rep k I m hp w x u) (h : (rowsP x).run hp = some ((sz, rows), hp')) :
    hp' = hp ∧ ∀ size, (sz = size ∨ rows = []) → ∃ news, Src P w size rows.length u news ∧ AllR (RepD I w) rows.flatten news ∧ Even size rows := by
  cases x with
  | sl f sz' rows' =>
    simp only [rowsP, Prog.run, Option.some.injEq, Prod.mk.injEq] at h
    obtain ⟨⟨rfl, rfl⟩, rfl⟩ := h
    refine ⟨rfl, fun size hsz => ?_⟩
    simp only [Rep, RepD] at hr
    obtain ⟨A, cap, rfl, h1, h2, _, h4⟩ := hr
    rcases h4 with rfl | ⟨b, o, us, rfl, hb, hc, hrr⟩
    · exact ⟨[], src_none, by simpa using AllR.nil, fun r hr => by simp at hr⟩
    · obtain ⟨he, ha⟩ := (RepRows_iff _ _).1 hrr
      rcases hsz with rfl | rfl
      · exact ⟨us, src_slice hc (by rw [← ha.1, he.length]), ha, he⟩
      · exact ⟨[], src_none, by simpa using AllR.nil, fun r hr => by simp at hr⟩
  | own y g n =>
    simp only [rowsP, Prog.run] at h
    cases hx : hp y with
    | no g' => rw [hx] at h; simp [Prog.run] at h
    | box g' c f => rw [hx] at h; simp [Prog.run] at h
    | arr g' sz' e rows' f =>
      rw [hx] at h
      simp only at h
      split at h
      · rename_i hc
        obtain ⟨rfl, hn⟩ := hc
        simp only [Prog.run, Option.some.injEq, Prod.mk.injEq] at h
        obtain ⟨⟨rfl, rfl⟩, rfl⟩ := h
        refine ⟨rfl, fun size hsz => ?_⟩
        simp only [Rep] at hr
        obtain ⟨_, _, hr⟩ := hr
        obtain ⟨_, hr⟩ := hr sz' e rows' f hx
        rcases hr with ⟨h0, rfl, rfl⟩ | ⟨b, cap, hm, rfl⟩
        · exact ⟨[], by simpa using src_none, by simpa using AllR.nil, fun r hr => by simp at hr⟩
        · by_cases hz : rows'.take n = []
          · have hn0 : n = 0 := by
              have := congrArg List.length hz
              rw [List.length_take, List.length_nil] at this
              omega
            subst hn0
            exact ⟨[], by simpa using src_none, by simpa using AllR.nil, fun r hr => by simp at hr⟩
          · have hsz' : sz' = size := hsz.resolve_right hz
            subst hsz'
            have ho := G.obj y
            rw [hx] at ho
            rcases ho with ⟨h1, _⟩ | ⟨b', cap', us, mk, h1, h2, h3, h4, h5, h6, h7, h8, h9⟩
            · rw [h1] at hm; cases hm
            · rw [h1] at hm; cases hm
              obtain ⟨he, ha⟩ := (RepRows_iff _ _).1 h7
              have ha' := ha.take (n * sz')
              rw [List.take_take, Nat.min_eq_left (Nat.mul_le_mul_right _ hn), ← he.flatten_take] at ha'
              have hlen : (rows'.take n).length = n := by rw [List.length_take]; omega
              refine ⟨us.toList.take (n * sz'), ?_, ha', he.take n⟩
              rw [hlen]
              refine src_slice (fun j v hv => ?_) (by rw [← ha'.1, (he.take n).length, hlen])
              rw [List.getElem?_take] at hv
              split at hv
              · rw [Nat.zero_add, cell_of_row w b j us e mk h2]
                simpa using hv
              · cases hv
      · simp [Prog.run] at h
  | sc v =>
    simp only [Rep] at hr
    subst hr
    unfold rowsP at h
    split at h
    all_goals first | (simp [Prog.run] at h; done) | skip
    · rename_i heq; simp at heq
    · rename_i heq; simp at heq
    · rename_i heq
      simp only [AV.sc.injEq] at heq
      subst heq
      simp only [Prog.run, Option.some.injEq, Prod.mk.injEq] at h
      obtain ⟨⟨rfl, rfl⟩, rfl⟩ := h
      exact ⟨rfl, fun size _ => ⟨[], src_none, by simpa using AllR.nil, fun r hr => by simp at hr⟩⟩
    · rename_i s heq
      simp only [AV.sc.injEq] at heq
      subst heq
      simp only [Prog.run, Option.some.injEq, Prod.mk.injEq] at h
      obtain ⟨⟨rfl, rfl⟩, rfl⟩ := h
      refine ⟨rfl, fun size hsz => ?_⟩
      have hall : AllR (RepD I w) (s.data.toList.map fun b => [AV.sc (.int .u8 b.toNat)]).flatten (s.data.toList.map fun b => Value.int .u8 b.toNat) := by
        have e : (s.data.toList.map fun b => [AV.sc (.int .u8 b.toNat)]).flatten = s.data.toList.map fun b => AV.sc (.int .u8 b.toNat) := by
          induction s.data.toList with
          | nil => rfl
          | cons b l ih => simp [ih]
        rw [e]
        refine ⟨by simp, fun i a u ha hu => ?_⟩
        rw [List.getElem?_map] at ha hu
        cases hb : s.data.toList[i]? with
        | none => rw [hb] at ha; cases ha
        | some b =>
          rw [hb] at ha hu
          cases ha; cases hu
          simp [RepD, Value.oneCell']
      have hs1 : size = 1 ∨ s.data.toList = [] := by
        rcases hsz with h | h
        · exact .inl h.symm
        · exact .inr (by simpa using h)
      refine ⟨_, ⟨fun w' => ?_, fun w' _ => ?_, ?_⟩, hall, ?_⟩
      · show Result.ok s.size w' = Result.ok (List.length (s.data.toList.map _)) w'
        rw [List.length_map]
        rfl
      · have e : s.extract 0 s.data.toList.length = s := by
          apply ByteArray.ext
          simp
        simp only [Builtin.firstCells, List.length_map]
        rw [e]
        simp
        congr 1
        apply Array.ext'
        simp
      · rcases hs1 with rfl | h0
        · simp
        · simp [h0]
      · intro r hr
        rw [List.mem_map] at hr
        obtain ⟨b, hb, rfl⟩ := hr
        rcases hs1 with rfl | h0
        · rfl
        · rw [h0] at hb; simp at hb
  | any | ptr | eptr | dp | agg | tup | vec | fn => simp [rowsP, Prog.run] at h

theorem zok_ok {e : TypeId} (h : zok P e = true) : ∃ i z, P.info? e = some i ∧ i.zero = some z ∧ z.cells.size = i.size ∧ 0 < i.size ∧ P.cellsOf e = i.size ∧ P.bytesOf e = i.bytes := by
  unfold zok zeros at h
  cases hi : P.info? e with
  | none => simp [hi] at h
  | some i =>
    cases hz : i.zero with
    | none => simp [hi, hz] at h
    | some z =>
      simp [hi, hz, Program.cellsOf] at h
      exact ⟨i, z, rfl, hz, h.1, h.2, by simp [Program.cellsOf, hi], by simp [Program.bytesOf, hi]⟩
theorem srcT_ok {t : TypeId} (h : srcT P t = true) : notInt P t := by
  unfold srcT at h
  split at h
  · rename_i e he; exact .inl ⟨e, he⟩
  · rename_i he; exact .inr he
  · cases h
theorem slel_ok {t e : TypeId} (h : slel P t = some e) : P.underlying t = some (.slice e) := by
  unfold slel at h
  split at h
  · rename_i e' he; cases h; exact he
  · cases h

/-- The rows of a block that append has made. -/
theorem grown_rows {sz n cap : Nat} {rows : List (List AV)} {olds rest : List Value} (he : Even sz rows) (ha : AllR (RepD I w) rows.flatten olds) (hn : rows.length = n) (hr : rest.length = (cap - n) * sz) (hc : n ≤ cap) :
    RepRows I w sz rows ((olds ++ rest).take (rows.length * sz)) ∧ (olds ++ rest).length = cap * sz := by
  have hl : olds.length = rows.length * sz := by rw [← ha.1, he.length]
  constructor
  · rw [RepRows_iff]
    refine ⟨he, ?_⟩
    rw [List.take_left' hl]
    exact ha
  · rw [List.length_append, hl, hr, hn, ← Nat.add_mul]
    congr 1; omega

theorem append_ok (G : Gam I K m hp w) {y : Nm} (hy : y.d ≤ k) {t t' ty : TypeId} {s x v : AV} {us ux : Value} (hrs : Rep k I m hp w s us) (hrx : Rep k I m hp w x ux)
    (h : (appendP P y t t' s x).run hp = some (v, hp')) :
    ∃ u' w' m', (Builtin.append_ #[t, t'] ty #[us, ux]).run P w = .ok u' w' ∧ Gam I K m' hp' w' ∧ Ext I K m hp w I m' hp' w' ∧ Rep k I m' hp' w' v u' := by
  unfold appendP at h
  split at h
  case h_2 => simp [Prog.run] at h
  rename_i e he
  have ht := slel_ok he
  split at h
  case isFalse => simp [Prog.run] at h
  rename_i hzs
  obtain ⟨hz, hst⟩ := hzs
  obtain ⟨i, z, hi, hzz, hzc, hpos, hci, hbi⟩ := zok_ok hz
  have hu := srcT_ok hst
  obtain ⟨⟨sz', src⟩, hp1, r1, h2⟩ := run_bind_some h
  clear h
  obtain ⟨e1, hsrc⟩ := rows_ok (P := P) G hrx r1
  rw [e1] at h2
  clear r1 e1
  simp only at h2
  split at h2
  case isFalse => simp [Prog.run] at h2
  rename_i hsz
  obtain ⟨news, hS, hN, hE⟩ := hsrc (P.cellsOf e) hsz
  rw [hci] at hS hE
  -- a new block, with rows ahead
  have fresh : ∀ (x : Nm) (g : Nat) (olds : List Value) (rows : List (List AV)) (old : Nat), x.d ≤ k → (hp x).gen < g → Even i.size rows → AllR (RepD I w) rows.flatten olds → rows.length + src.length ≤ maxLen →
      ∃ m', Gam I K m' (upd hp x (.arr g i.size e (rows ++ src) false)) (w.drew.alloc (.cells (olds.toArray ++ news.toArray ++ Builtin.zeroCells z.cells (grownCap w (rows.length + src.length) old e - (rows.length + src.length))) e)) ∧
        Ext I K m hp w I m' (upd hp x (.arr g i.size e (rows ++ src) false)) (w.drew.alloc (.cells (olds.toArray ++ news.toArray ++ Builtin.zeroCells z.cells (grownCap w (rows.length + src.length) old e - (rows.length + src.length))) e)) ∧
        Rep k I m' (upd hp x (.arr g i.size e (rows ++ src) false)) (w.drew.alloc (.cells (olds.toArray ++ news.toArray ++ Builtin.zeroCells z.cells (grownCap w (rows.length + src.length) old e - (rows.length + src.length))) e))
          (.own x g (rows.length + src.length)) (.slice (some ⟨w.heap.size, 0, none⟩) (rows.length + src.length) (grownCap w (rows.length + src.length) old e)) := by
    intro x g olds rows old hxk hg hev hal hmax
    have hge := grownCap_ge w (rows.length + src.length) old e
    have hle := grownCap_le_maxLen w (rows.length + src.length) old e hmax
    obtain ⟨a1, a2⟩ := grown_rows (rest := (Builtin.zeroCells z.cells (grownCap w (rows.length + src.length) old e - (rows.length + src.length))).toList) (hev.append hE) (by rw [List.flatten_append]; exact hal.append hN) (by rw [List.length_append])
      (by rw [Array.length_toList, size_zeroCells, hzc]) hge
    obtain ⟨G2, E2⟩ := G.alloc (x := x) (o := .arr g i.size e (rows ++ src) false) (.cells (olds.toArray ++ news.toArray ++ Builtin.zeroCells z.cells (grownCap w (rows.length + src.length) old e - (rows.length + src.length))) e) (grownCap w (rows.length + src.length) old e) hg
      (fun w' m' hb hm E => .inr ⟨w.heap.size, _, _, (0, 0), hm, hb, noMark0 _, by have := a2; simp at this ⊢; omega, by rw [List.length_append]; exact hge, hle,
        RepRows.mono E.isub (fun b hb => E.keep b (.inl hb)) _ _ _ (by simpa using a1), fun h => (by cases h), fun _ => G.fresh⟩) (.inr rfl)
    refine ⟨_, G2, E2, ?_⟩
    simp only [Rep]
    refine ⟨hxk, by rw [upd_same]; exact Nat.le_refl _, fun sz e' rows' fz hx => ?_⟩
    rw [upd_same] at hx
    cases hx
    exact ⟨by rw [List.length_append]; exact Nat.le_refl _, .inr ⟨_, _, upd_same _ _ _, rfl⟩⟩
  -- onto nothing
  have onNil : ∀ (x : Nm) (g : Nat), x.d ≤ k → (hp x).gen < g → src.length ≤ maxLen → src.length * i.bytes ≤ 140737488355328 →
      ∃ u' w' m', (Builtin.append_ #[t, t'] ty #[.slice none 0 0, ux]).run P w = .ok u' w' ∧ Gam I K m' (upd hp x (.arr g i.size e src false)) w' ∧ Ext I K m hp w I m' (upd hp x (.arr g i.size e src false)) w' ∧
        Rep k I m' (upd hp x (.arr g i.size e src false)) w' (.own x g src.length) u' := by
    intro x g hxk hg hmax hby
    by_cases h0 : src.length = 0
    · have hs0 : src = [] := List.eq_nil_of_length_eq_zero h0
      subst hs0
      have hn0 : news = [] := List.eq_nil_of_length_eq_zero (by rw [hS.length]; simp)
      subst hn0
      have hg' : (hp x).gen < (AObj.arr g i.size e [] false).gen := hg
      refine ⟨_, w, upd m x none, append_nil0 w t t' ty e i ht hu hi ux hS, G.bump (.refl I K w) (fun _ h => h) hg' (.inl ⟨upd_same _ _ _, rfl⟩) (fun _ _ _ _ _ => rfl) (fun _ _ _ _ _ _ h => h) (fun _ r hr => (by cases hr)) G.ilt G.ik, .bump (.refl I K w) (fun _ h => h) hg', ?_⟩
      simp only [Rep]
      refine ⟨hxk, by rw [upd_same]; exact Nat.le_refl _, fun sz e' rows' fz hx => ?_⟩
      rw [upd_same] at hx
      cases hx
      exact ⟨Nat.le_refl _, .inl ⟨upd_same _ _ _, trivial, rfl⟩⟩
    · have hm63 : (src.length : Int) ≤ 9223372036854775807 := by simp only [maxLen] at hmax; omega
      have hr := append_nil w t t' ty e i z ht hu hi hzz ux src.length news hS (by omega) hm63 (by omega)
      obtain ⟨m', G', E', R'⟩ := fresh x g [] [] 0 hxk hg (fun r hr => by simp at hr) (by simpa using AllR.nil) (by simpa using hmax)
      simp only [List.length_nil, Nat.zero_add, List.nil_append] at G' E' R'
      refine ⟨_, _, m', hr, ?_, ?_, ?_⟩
      · simpa using G'
      · simpa using E'
      · simpa using R'
  split at h2
  · -- onto what is owned
    rename_i zn g n
    simp only [Prog.run] at h2
    cases hx : hp zn with
    | no g' => rw [hx] at h2; simp [Prog.run] at h2
    | box g' c f => rw [hx] at h2; simp [Prog.run] at h2
    | arr g' sz e' rows f =>
      rw [hx] at h2
      simp only at h2
      split at h2
      case isFalse => simp [Prog.run] at h2
      rename_i hc
      obtain ⟨rfl, rfl, rfl, ⟨rfl, rfl⟩, hby, hmax⟩ := hc
      simp only [Prog.run, Option.some.injEq, Prod.mk.injEq] at h2
      obtain ⟨rfl, rfl⟩ := h2
      simp only [Rep] at hrs
      obtain ⟨hzd, _, hrs⟩ := hrs
      obtain ⟨_, hrs⟩ := hrs _ e' rows false hx
      have hgen : (hp zn).gen < g' + 1 := by rw [hx]; simp [AObj.gen]
      have ho := G.obj zn
      rw [hx] at ho
      rw [hci] at ho ⊢
      rw [hbi] at hby
      rcases hrs with ⟨h0, rfl, hn0⟩ | ⟨b, cap, hm, rfl⟩
      · have hr0 : rows = [] := List.eq_nil_of_length_eq_zero hn0
        subst hr0
        simp only [List.length_nil, Nat.zero_add, List.nil_append] at hby hmax ⊢
        exact onNil zn (g' + 1) hzd hgen hmax hby
      · rcases ho with ⟨h1, _⟩ | ⟨b', cap', cur, mk, h1, h2, h3, h4, h5, h6, h7, h8, h9⟩
        · rw [h1] at hm; cases hm
        · rw [h1] at hm; cases hm
          obtain ⟨hev, hal⟩ := (RepRows_iff _ _).1 h7
          have hold : (cur.toList.take (rows.length * i.size)).length = rows.length * i.size := by rw [← hal.1, hev.length]
          by_cases hroom : rows.length + src.length ≤ cap
          · have hnl : news.length = src.length * i.size := hS.length
            have hfit : rows.length * i.size + news.length ≤ cur.size := by rw [hnl, h4, ← Nat.add_mul]; exact Nat.mul_le_mul_right _ hroom
            have hr := append_room w t t' ty e' i ht hu hi b rows.length cap cur mk h2 h3 ux src.length news hS hN.one hroom hfit
            obtain ⟨hni, hnk⟩ := h9 rfl
            have hp' : m zn = some (b, cap) := h1
            have em : upd m zn (some (b, cap)) = m := by funext q; by_cases hq : q = zn <;> simp [upd, hq, h1]
            have E2 : Ext I K m hp w I (upd m zn (some (b, cap))) (upd hp zn (.arr (g' + 1) i.size e' (rows ++ src) false)) (w.setRow b (cur.toList.take (rows.length * i.size) ++ news ++ cur.toList.drop (rows.length * i.size + news.length)).toArray) := .bump (.setRow hni hnk) (fun _ h => h) hgen
            refine ⟨_, _, upd m zn (some (b, cap)), hr, G.bump (.setRow hni hnk) (fun _ h => h) hgen ?_ (fun q hq hl r hr => setRow_other w b r.1 _ (fun e => hq (G.inj q zn r (b, cap) hl (by rw [hx]; rfl) hr h1 e))) (fun _ _ _ _ _ _ h => h) ?_ (fun c hc => by have := G.ilt c hc; simpa [World.setRow] using this) G.ik, E2, ?_⟩
            · refine .inr ⟨b, cap, _, mk, upd_same _ _ _, setRow_heap w b cur _ e' mk h2, fun j hj => h3 j ?_, ?_, by rw [List.length_append]; exact hroom, h6, ?_, fun h => (by cases h), fun _ => ⟨hni, hnk⟩⟩
              · simp at hj; omega
              · simp; omega
              · refine RepRows.mono E2.isub (fun b hb => E2.keep b (.inl hb)) _ _ _ ((RepRows_iff _ _).2 ⟨hev.append hE, ?_⟩)
                rw [List.flatten_append]
                have happ := hal.append hN
                have hl2 : (cur.toList.take (rows.length * i.size) ++ news).length = (rows ++ src).length * i.size := by rw [List.length_append, hold, hnl, List.length_append, Nat.add_mul]
                rw [List.take_left' hl2]
                exact happ
            · intro _ r hr q hq hl s hs e
              cases hr
              exact hq (G.inj q zn s (b, cap) hl (by rw [hx]; rfl) hs h1 e.symm)
            · simp only [Rep]
              refine ⟨hzd, by rw [upd_same]; exact Nat.le_refl _, fun sz e' rows' fz hx => ?_⟩
              rw [upd_same] at hx
              cases hx
              exact ⟨by rw [List.length_append]; exact Nat.le_refl _, .inr ⟨b, cap, upd_same _ _ _, rfl⟩⟩
          · have hcell : ∀ j v, (cur.toList.take (rows.length * i.size))[j]? = some v → w.cell? ((⟨b, 0, none⟩ : Addr).add j) = some v := fun j v hv => by
              rw [add_plain, Nat.zero_add, cell_of_row w b j cur e' mk h2]
              rw [List.getElem?_take] at hv
              split at hv
              · simpa using hv
              · cases hv
            have hm63 : ((rows.length + src.length : Nat) : Int) ≤ 9223372036854775807 := by simp only [maxLen] at hmax; omega
            have hr := append_grow w t t' ty e' i z ht hu hi hzz ⟨b, 0, none⟩ rows.length cap _ hold hcell ux src.length news hS (by omega) hm63 (growslice_fits (by omega) hby)
            obtain ⟨m', G', E', R'⟩ := fresh zn (g' + 1) _ rows cap hzd hgen hev hal hmax
            exact ⟨_, _, m', hr, G', E', R'⟩
  · -- onto nil
    split at h2
    case isFalse => simp [Prog.run] at h2
    rename_i hc
    simp only [newArr, Prog.run, Option.some.injEq, Prod.mk.injEq] at h2
    obtain ⟨rfl, rfl⟩ := h2
    simp only [Rep] at hrs
    subst hrs
    rw [hci]
    rw [hbi] at hc
    exact onNil y ((hp y).gen + 1) hy (Nat.lt_succ_self _) hc.2 hc.1
  · -- onto a list without spare room
    rename_i sz rows
    split at h2
    case isFalse => simp [Prog.run] at h2
    rename_i hc
    obtain ⟨rfl, h0, hby, hmax⟩ := hc
    simp only [newArr, Prog.run, Option.some.injEq, Prod.mk.injEq] at h2
    obtain ⟨rfl, rfl⟩ := h2
    simp only [Rep, RepD] at hrs
    obtain ⟨A, cap, rfl, h1, h2, h3, h4⟩ := hrs
    have hcap : cap = rows.length := h3 trivial
    subst hcap
    rw [hci] at h4 ⊢
    rw [hbi] at hby
    have hm63 : ((rows.length + src.length : Nat) : Int) ≤ 9223372036854775807 := by simp only [maxLen] at hmax; omega
    rw [List.length_append]
    rcases h4 with rfl | ⟨b, o, cur, rfl, hb, hcc, hrr⟩
    · cases A with
      | none =>
        simp only [List.length_nil, Nat.zero_add, List.nil_append] at *
        exact onNil y ((hp y).gen + 1) hy (Nat.lt_succ_self _) hmax hby
      | some ad =>
        obtain ⟨m', G', E', R'⟩ := fresh y ((hp y).gen + 1) [] [] 0 hy (Nat.lt_succ_self _) (fun r hr => by simp at hr) (by simpa using AllR.nil) hmax
        have hr := append_grow w t t' ty e i z ht hu hi hzz ad 0 0 [] (by simp) (by simp) ux src.length news hS (by omega) (by simpa using hm63) (growslice_fits (by omega) (by simpa using hby))
        exact ⟨_, _, m', hr, G', E', R'⟩
    · obtain ⟨hev, hal⟩ := (RepRows_iff _ _).1 hrr
      obtain ⟨m', G', E', R'⟩ := fresh y ((hp y).gen + 1) cur rows rows.length hy (Nat.lt_succ_self _) hev hal hmax
      have hr := append_grow w t t' ty e i z ht hu hi hzz ⟨b, o, none⟩ rows.length rows.length cur (by rw [← hal.1, hev.length]) (fun j v hv => by rw [add_plain]; exact hcc j v hv) ux src.length news hS (by omega) hm63 (growslice_fits (by omega) hby)
      exact ⟨_, _, m', hr, G', E', R'⟩
  · simp [Prog.run] at h2
end
end Go.Ab
