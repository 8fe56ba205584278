/- Law 47, KitLie: the card of the statement, without a condition: at every signer and link the call answers true and leaves its arguments as they were, where the listed variable starts as the text lays it. -/
import Derived.Test.YtdokejnokhicbaaGreatDoorK3
import Derived.Test.YtdokejnokhicbaaGreatDoorRows
import Derived.WalkKit
import Derived.ProofKit
import Derived.OpenShut
import Derived.JoinedCond
import Derived.Test.YtdokejnokhicbaaGreatDoorMh
import Derived.Test.YtdokejnokhicbaaGreatDoorP9
import Derived.Test.YtdokejnokhicbaaGreatDoorCards
import Derived.Test.YtdokejnokhicbaaGreatDoorTie
import Derived.Deep.DeepHandedRow
import Derived.Lib.LaidTab
namespace Go.Proofs.YtdokejnokhicbaaGreatDoor
open Go Go.Ab Go.ChangeShapes Go.WideShapes Go.ChangeAt Go.RowKit
set_option linter.unusedSimpArgs false
set_option linter.unusedVariables false

section
variable {H : Type} {enc : TypeId × Value → H} {P : Program} {w : World}
/-- The blocks that there are. -/
abbrev There (w : World) (b : Nat) : Prop := b < w.heap.size
/-- What is read as of type t, of bulk N at most, is data that Lean has as an a. -/
def Reads {α : Type} (H : Type) (enc : TypeId × Value → H) (P : Program) (w : World) (N : Nat) (t : TypeId) (row : α → List AV) (ok : α → Prop) : Prop :=
  ∀ fuel cs (x : DataW H × List MemPlace), DataW.trod enc P w 0 (fun _ => true) true fuel t cs = some x → Rows.uptoBulk x.1 ≤ N → ∃ a, RepDL (There w) w (row a) cs ∧ ok a

theorem bulk_one (d : DataW H) : 1 ≤ Rows.uptoBulk d := by
  cases d with
  | lit l => cases l <;> simp [Rows.uptoBulk]
  | _ => simp [Rows.uptoBulk]
theorem bulk_part {d : DataW H} {l : List (DataW H)} (h : d ∈ l) : Rows.uptoBulk d ≤ Rows.uptoBulkAll l := by
  induction l with
  | nil => cases h
  | cons x r ih =>
    simp only [Rows.uptoBulkAll]
    cases List.mem_cons.1 h with
    | inl e => subst e; omega
    | inr e => have := ih e; omega
theorem bulk_len (l : List (DataW H)) : l.length ≤ Rows.uptoBulkAll l := by
  induction l with
  | nil => simp [Rows.uptoBulkAll]
  | cons x r ih => have := bulk_one x; simp only [Rows.uptoBulkAll, List.length_cons]; omega

theorem reads_int {N : Nat} {t : TypeId} {k : IntKind} (ht : P.underlying t = some (.int k)) : Reads H enc P w N t (fun n : Int => [.sc (.int k n)]) (fun n => (Lit.int k n).wf = true) := by
  intro fuel cs x h _
  obtain ⟨n, rfl, rfl, hw⟩ := DataW.trod_int ht h
  exact ⟨n, by simp [RepDL, RepD, Value.oneCell'], hw⟩
theorem reads_bool {N : Nat} {t : TypeId} (ht : P.underlying t = some .bool) : Reads H enc P w N t (fun n : Bool => [.sc (.bool n)]) (fun _ => True) := by
  intro fuel cs x h _
  obtain ⟨n, rfl, rfl⟩ := DataW.trod_bool ht h
  exact ⟨n, by simp [RepDL, RepD, Value.oneCell'], trivial⟩
theorem reads_string {N : Nat} {t : TypeId} (ht : P.underlying t = some .string) : Reads H enc P w N t (fun s : ByteArray => [.sc (.string s)]) (fun s => s.size ≤ N) := by
  intro fuel cs x h hb
  obtain ⟨s, rfl, rfl, _⟩ := DataW.trod_string ht h
  refine ⟨s, by simp [RepDL, RepD, Value.oneCell'], ?_⟩
  simp [Rows.uptoBulk] at hb
  have : s.size = s.data.size := rfl
  omega

theorem cells_some {a : Addr} {n : Nat} {us : List Value} (h : w.cells? 0 a n = some us) : us.length = n ∧ ∀ i, i < n → w.cell? (a.add i) = us[i]? := by
  unfold World.cells? at h
  rw [if_pos (Nat.zero_le _)] at h
  exact ⟨by simpa using mapM_some_length h, fun i hi => mapM_some_get h i i (by simp [hi])⟩
theorem rows_snoc {I : Nat → Prop} {sz : Nat} {r : List AV} {u : List Value} (hu : u.length = sz) (hr : RepDL I w r u) : ∀ {rows : List (List AV)} {us : List Value}, RepRows I w sz rows us → RepRows I w sz (rows ++ [r]) (us ++ u)
  | [], us, h => by
    simp only [RepRows] at h
    subst h
    simp only [List.nil_append, RepRows]
    exact ⟨u, [], by simp, hu, hr, rfl⟩
  | r' :: rs, us, h => by
    simp only [RepRows, List.cons_append] at h ⊢
    obtain ⟨u1, u2, rfl, hl, h1, h2⟩ := h
    exact ⟨u1, u2 ++ u, by simp, hl, h1, rows_snoc hu hr h2⟩
theorem spot_none {a : Addr} {v : Value} (h : w.cell? a = some v) : a = ⟨a.block, a.off, none⟩ ∧ a.block < w.heap.size := by
  unfold World.cell? at h
  split at h
  · rename_i c t mk hb
    split at h
    · cases h
    · rename_i hs
      refine ⟨?_, ?_⟩
      · obtain ⟨b, o, s⟩ := a
        cases s with
        | none => rfl
        | some _ => simp at hs
      · exact (Array.getElem?_eq_some_iff.1 hb).1
  · cases h

theorem add_mk (b o j : Nat) : (⟨b, o, none⟩ : Addr).add j = ⟨b, o + j, none⟩ := by
  unfold Addr.add
  split
  · rename_i h; simp [h]
  · rfl
theorem reads_slice {α : Type} {N sz : Nat} {t e : TypeId} {row : α → List AV} {ok : α → Prop} (ht : P.underlying t = some (.slice e)) (hsz : P.cellsOf e = sz) (hp : 0 < sz) (hel : Reads H enc P w N e row ok) :
    Reads H enc P w N t (fun l : List α => [.sl false sz (l.map row)]) (fun l => l.length ≤ N ∧ ∀ a ∈ l, ok a) := by
  intro fuel cs x h hb
  rcases DataW.trod_slice ht h with ⟨rfl, rfl⟩ | ⟨a, len, cap, elems, rest, n, rfl, rfl, rfl, _, hle, hcap, hlen, hel', _, _⟩
  · refine ⟨[], ?_, by simp, by simp⟩
    simp only [RepDL, RepD, List.map_nil, List.length_nil]
    exact ⟨_, [], rfl, ⟨none, 0, rfl, Nat.le_refl _, by unfold maxLen; omega, by simp, .inl trivial⟩, rfl⟩
  · simp only [Rows.uptoBulk] at hb
    have hbl := bulk_len (elems.map (·.1))
    simp only [List.length_map] at hbl
    by_cases hl0 : len = 0
    · subst hl0
      refine ⟨[], ?_, by simp, by simp⟩
      simp only [RepDL, RepD, List.map_nil, List.length_nil]
      exact ⟨_, [], rfl, ⟨some a, cap, rfl, hle, hcap, by simp, .inl trivial⟩, rfl⟩
    obtain ⟨b, o, hbo, hbs⟩ : ∃ b o, a = ⟨b, o, none⟩ ∧ b < w.heap.size := by
      have he := hel' 0 (by omega)
      rw [List.getElem?_eq_getElem (by omega), Option.bind_eq_some_iff] at he
      obtain ⟨u, hu, _⟩ := he
      obtain ⟨c1, c2⟩ := cells_some hu
      have hc0 := c2 0 (by omega)
      rw [List.getElem?_eq_getElem (by omega)] at hc0
      have := spot_none hc0
      simp only [Nat.zero_mul, Addr.add, if_true] at this
      exact ⟨_, _, this.1, this.2⟩
    subst hbo
    have key : ∀ k, k ≤ len → ∃ (l : List α) (us : List Value), l.length = k ∧ us.length = k * sz ∧ RepRows (There w) w sz (l.map row) us ∧ (∀ j, j < k * sz → w.cell? ⟨b, o + j, none⟩ = us[j]?) ∧ ∀ z ∈ l, ok z := by
      intro k
      induction k with
      | zero => intro _; exact ⟨[], [], rfl, by simp, by simp [RepRows], by simp, by simp⟩
      | succ k ih =>
        intro hk
        obtain ⟨l, us, h1, h2, h3, h4, h5⟩ := ih (by omega)
        have he := hel' k (by omega)
        have hlt : k < elems.length := by omega
        rw [List.getElem?_eq_getElem hlt, Option.bind_eq_some_iff] at he
        obtain ⟨u, hu, hr⟩ := he
        obtain ⟨c1, c2⟩ := cells_some hu
        have hbk := bulk_part (d := (elems[k]).1) (l := elems.map (·.1)) (List.mem_map.2 ⟨_, List.getElem_mem hlt, rfl⟩)
        obtain ⟨z, hz1, hz2⟩ := hel n u _ hr (by omega)
        rw [hsz] at c1 c2
        refine ⟨l ++ [z], us ++ u, by simp [h1], by simp [h2, c1, Nat.succ_mul], ?_, ?_, ?_⟩
        · rw [List.map_append]; exact rows_snoc c1 hz1 h3
        · intro j hj
          rw [Nat.succ_mul] at hj
          by_cases hjk : j < k * sz
          · rw [List.getElem?_append_left (by omega)]; exact h4 j hjk
          · rw [List.getElem?_append_right (by omega), h2, ← c2 (j - k * sz) (by omega), add_mk, add_mk]
            rw [show o + k * sz + (j - k * sz) = o + j by omega]
        · intro y hy
          rcases List.mem_append.1 hy with hy | hy
          · exact h5 y hy
          · rw [List.mem_singleton] at hy; subst hy; exact hz2
    obtain ⟨l, us, h1, h2, h3, h4, h5⟩ := key len (Nat.le_refl _)
    refine ⟨l, ?_, by omega, h5⟩
    simp only [RepDL, RepD]
    refine ⟨_, [], rfl, ⟨some ⟨b, o, none⟩, cap, by simp [h1], by simp [h1, hle], hcap, by simp, ?_⟩, rfl⟩
    right
    refine ⟨b, o, us, rfl, hbs, ?_, h3⟩
    intro j v hj
    have hjl : j < us.length := (List.getElem?_eq_some_iff.1 hj).1
    have := h4 j (by omega)
    rw [hj] at this
    exact this

/-- A struct's fields. -/
theorem trod_fields {t : TypeId} {fs : Array Field} {fuel : Nat} {cs : List Value} {x : DataW H × List MemPlace} {N : Nat} (ht : P.underlying t = some (.struct fs)) (h : DataW.trod enc P w 0 (fun _ => true) true fuel t cs = some x) (hb : Rows.uptoBulk x.1 ≤ N) :
    cs.length = P.cellsOf t ∧ ∃ n, ∀ (i : Nat) f, fs[i]? = some f → ∃ y, DataW.trod enc P w 0 (fun _ => true) true n f.type ((cs.drop f.offset).take (P.cellsOf f.type)) = some y ∧ Rows.uptoBulk y.1 ≤ N := by
  obtain ⟨xs, n, _, rfl, hl, hlx, hg⟩ := DataW.trod_struct ht h
  simp only [Rows.uptoBulk] at hb
  refine ⟨hl, n, fun i f hf => ?_⟩
  have hlt : i < fs.size := (Array.getElem?_eq_some_iff.1 hf).1
  have hg' := hg i f hf
  have hix : i < xs.length := by omega
  rw [List.getElem?_eq_getElem hix] at hg'
  have hbk := bulk_part (d := (xs[i]).1) (l := xs.map (·.1)) (List.mem_map.2 ⟨_, List.getElem_mem hix, rfl⟩)
  exact ⟨_, hg', by omega⟩
/-- The same of an array. -/
theorem trod_items {t e : TypeId} {m : Nat} {fuel : Nat} {cs : List Value} {x : DataW H × List MemPlace} {N : Nat} (ht : P.underlying t = some (.array m e)) (h : DataW.trod enc P w 0 (fun _ => true) true fuel t cs = some x) (hb : Rows.uptoBulk x.1 ≤ N) :
    cs.length = P.cellsOf t ∧ ∃ n, ∀ i, i < m → ∃ y, DataW.trod enc P w 0 (fun _ => true) true n e ((cs.drop (i * P.cellsOf e)).take (P.cellsOf e)) = some y ∧ Rows.uptoBulk y.1 ≤ N := by
  obtain ⟨xs, n, _, rfl, hl, hlx, hg⟩ := DataW.trod_array ht h
  simp only [Rows.uptoBulk] at hb
  refine ⟨hl, n, fun i hi => ?_⟩
  have hg' := hg i hi
  have hix : i < xs.length := by omega
  rw [List.getElem?_eq_getElem hix] at hg'
  have hbk := bulk_part (d := (xs[i]).1) (l := xs.map (·.1)) (List.mem_map.2 ⟨_, List.getElem_mem hix, rfl⟩)
  exact ⟨_, hg', by omega⟩

/-! ### what the claim says -/
theorem trodAll_stays (hl : laidOutB P = true) {W W' : World} (hb : Below W.heap.size W W') {sp : Nat → Bool} : ∀ {ts : List TypeId} {vs : List Value} {ds : List (DataW H)} {ps : List MemPlace}, (∀ t ∈ ts, P.readableRec t = true ∧ t < P.types.size) →
    DataW.TrodAll enc P W 0 (fun _ => true) true ts vs ds ps → (∀ p ∈ ps, p.block < W.heap.size ∧ sp p.block = true) → DataW.TrodAll enc P W' 0 sp true ts vs ds ps
  | [], _, _, _, _, h, _ => by
    obtain ⟨rfl, rfl, rfl⟩ := trodAll_nil h
    exact rfl
  | t :: ts, _, _, _, ht, h, hs => by
    obtain ⟨v, vs1, d, ds1, a, b, rfl, rfl, rfl, h1, h2⟩ := trodAll_cons h
    refine ⟨a, b, WideElems.Trod_stays hl (ht t (List.mem_cons_self ..)).1 (ht t (List.mem_cons_self ..)).2 h1 (fun x hx => hb.same (hs x (List.mem_append_left _ hx)).1) (fun x hx => (hs x (List.mem_append_left _ hx)).2), ?_, rfl⟩
    exact trodAll_stays hl hb (fun t h => ht t (List.mem_cons_of_mem _ h)) h2 (fun p hp => hs p (List.mem_append_right _ hp))
theorem law_post {f : Func} {s : ChangeSpec} {apart fresh handsOn again : Bool} {W W' : World} {args : Array Value} {ds gs : List (DataW H)} {before : List MemPlace} {tb : TypeId}
    (hW : DataW.Whole enc P f.params.toList s.vars apart W args.toList ds gs before) (hv : s.vars = []) (hl : laidOutB P = true) (ht : ∀ t ∈ f.params.toList, P.readableRec t = true ∧ t < P.types.size)
    (hres : f.resultTypes = #[tb]) (htb : P.underlying tb = some .bool) (hfn : s.fn H (ds ++ gs) = { results := [.lit (.bool true)], args := ds }) (hb : Below W.heap.size W W') : s.post enc P f apart fresh handsOn again W args (.bool true) W' := by
  have hlt : ∀ p ∈ before, p.block < W.heap.size := fun p hp => hW.lt p hp
  obtain ⟨p, q, hA, hV, rfl, hz, hn⟩ := hW
  have hW : DataW.Whole enc P f.params.toList s.vars apart W args.toList ds gs (p ++ q) := ⟨p, q, hA, hV, rfl, hz, hn⟩
  rw [hv] at hV
  obtain ⟨rfl, rfl⟩ := trodVars_none hV
  simp only [List.append_nil] at hfn hlt hz hn hW
  have hr : ∀ (b : Nat) (sp : Nat → Bool) (hd : Bool), DataW.TrodAll enc P W' b sp hd f.resultTypes.toList ((Value.bool true).resultList f.resultTypes.size) [.lit (.bool true)] [] := by
    intro b sp hd
    rw [hres]
    exact trodAll_mk1 (shut_bool htb _)
  have ha : ∀ sp : Nat → Bool, (∀ x ∈ p, sp x.block = true) → DataW.TrodAll enc P W' 0 sp true f.params.toList args.toList ds p := fun sp hs => trodAll_stays hl hb ht hA (fun x hx => ⟨hlt x hx, hs x hx⟩)
  have hok : ∀ (j : Nat) (t : TypeId) (r : Value), f.resultTypes[j]? = some t → ((Value.bool true).resultList f.resultTypes.size)[j]? = some r → Value.okWide P W' .any 0 t r := by
    exact ok_one hres rfl (okWide_bool_mk htb _)
  refine ⟨ds, [], p, [], p, [], hW, by simp only [List.append_nil]; rw [hfn]; exact hr _ _ _, by simp only [List.append_nil]; rw [hfn]; exact ha _ (fun x hx => by simpa using hlt x hx), by simp only [List.append_nil]; rw [hv, hfn]; exact rfl, hb.frame _, fun _ => ?_⟩
  refine ⟨hok, [.lit (.bool true)] ++ ds, [], p, ⟨p, [], ?_, by rw [hv]; exact rfl, by simp, ?_, hn⟩, fun x hx _ => hx⟩
  · have := trodAll_append (ha (fun _ => true) (fun _ _ => rfl)) (hr 0 (fun _ => true) true)
    simpa using this
  · intro b off hp
    rw [hb.frozen (p := ⟨b, off, none⟩) (hlt _ hp)]
    exact hz b off hp
theorem callPost_below {I : Nat → Prop} {W W' : World} {ts : List TypeId} {rs : List AV} {u : Value} (h : CallPost P I W ts rs u W') : Below W.heap.size W W' := ⟨h.os, h.tape, h.output, h.size, fun k hk => h.old k hk⟩
theorem callPost_true {I : Nat → Prop} {W W' : World} {tb : TypeId} {u : Value} (htb : isAggB P tb = false) (h : CallPost P I W [tb] [.sc (.bool true)] u W') : u = .bool true := by
  obtain ⟨I', us, bs, rfl, _, _, _, _, _, hr⟩ := h.res
  simp only [RepResL] at hr
  obtain ⟨v, us', b1, b2, rfl, _, h1, rfl, _⟩ := hr
  unfold RepRes at h1
  rw [if_neg (by simp [htb])] at h1
  simp only [RepH, RepD] at h1
  exact h1.2.1
end
end Go.Proofs.YtdokejnokhicbaaGreatDoor

namespace Go.Proofs.YtdokejnokhicbaaGreatDoor
open Go Go.Ab
set_option linter.unusedSimpArgs false
set_option linter.unusedVariables false
theorem awz : (lim Tryz.prog E47 X47).dat 4 [] = some [bv true] := d7
end Go.Proofs.YtdokejnokhicbaaGreatDoor

namespace Go.Proofs.YtdokejnokhicbaaGreatDoor
open Go Go.Ab Go.ChangeShapes Go.WideShapes Go.ChangeAt Go.RowKit
set_option linter.unusedSimpArgs false
set_option linter.unusedVariables false
theorem own47 : ownKnob Tryz.prog.godebug = none := by kernel_rfl
theorem laidOut47 : laidOutB Tryz.prog = true := by kernel_rfl
theorem mixed47 : Tryz.prog.follows .mixedOrders = true := by kernel_rfl
theorem E47_law : EqLaw Tryz.prog E47.eq := by
  intro t ht w x y us vs b h1 h2 h
  simp only [E47, Bool.or_eq_true, beq_iff_eq] at ht
  rcases ht with rfl | rfl
  · exact array_law (by kernel_rfl) (by kernel_rfl) (by kernel_rfl) w x y us vs b h1 h2 h
  · exact struct_law (by kernel_rfl) (by kernel_rfl) (by kernel_rfl) (by kernel_rfl) (by kernel_rfl) w x y us vs b h1 h2 h
theorem L47_ok : DatOk Tryz.prog (lim Tryz.prog E47 X47) := (lim_ok mixed47 E47_law X47_ok).1
theorem gTab : Tryz.prog.globalNamed "seedcorn/digest.places" = some 0 := by kernel_rfl
theorem gTabType : (Tryz.prog.globals[0]?).map (·.type) = some 138 := by kernel_rfl
/-- What the row's list gives: the table's cells. -/
theorem table {W : World} (h : laidMetH Tryz.prog Rows.kitLieRow.laid W) : Lib.TabIs Tryz.prog W "seedcorn/digest.places" .i64 [7, 9, 13, 18] :=
  Lib.tabIs_of_head (rest := []) gTab gTabType Tryz.underlying138 Tryz.underlying3 cellsOf_3 cellsOf_138 h
theorem table_gl {W : World} (h : laidMetH Tryz.prog Rows.kitLieRow.laid W) : GlOk (There W) W := by
  have c0 : W.cell? ⟨0, 0, none⟩ = some (.int .i64 7) := (table h).cell gTab 0 (by decide)
  have c1 : W.cell? ⟨0, 1, none⟩ = some (.int .i64 9) := (table h).cell gTab 1 (by decide)
  have c2 : W.cell? ⟨0, 2, none⟩ = some (.int .i64 13) := (table h).cell gTab 2 (by decide)
  have c3 : W.cell? ⟨0, 3, none⟩ = some (.int .i64 18) := (table h).cell gTab 3 (by decide)
  intro g vs hg
  unfold globT at hg
  split at hg
  · cases hg
    refine ⟨(spot_none c0).2, fun j v hj => ?_⟩
    match j, hj with
    | 0, hj => cases hj; exact c0
    | 1, hj => cases hj; exact c1
    | 2, hj => cases hj; exact c2
    | 3, hj => cases hj; exact c3
    | j + 4, hj => simp at hj
  · cases hg
/-- A world for the witness: the settled one, the table holding what its initialiser lays. -/
noncomputable def laidWorld (os : Os) : World :=
  { World.holding Tryz.prog os ⟨#[], #[], []⟩ with heap := (World.holding Tryz.prog os ⟨#[], #[], []⟩).heap.modify 0 fun
      | .cells _ t frozen => .cells #[.int .i64 7, .int .i64 9, .int .i64 13, .int .i64 18] t frozen
      | o => o }
theorem rd26 : Tryz.prog.readableRec 26 = true := by kernel_rfl
theorem lt26 : 26 < Tryz.prog.types.size := of_decide_eq_true (by kernel_rfl)
theorem rd28 : Tryz.prog.readableRec 28 = true := by kernel_rfl
theorem lt28 : 28 < Tryz.prog.types.size := of_decide_eq_true (by kernel_rfl)
theorem u32_range {n : Int} (h : (Lit.int .u32 n).wf = true) : U n := by
  have e : IntKind.u32.min = 0 := rfl
  have e2 : IntKind.u32.max = 4294967295 := rfl
  unfold U
  simp [Lit.wf] at h
  first | omega | (simp [IntKind.inRange, e, e2] at h; omega)
end Go.Proofs.YtdokejnokhicbaaGreatDoor

namespace Go.Proofs.YtdokejnokhicbaaGreatDoor
open Go Go.Ab Go.ChangeShapes Go.WideShapes Go.ChangeAt Go.RowKit
set_option linter.unusedSimpArgs false
set_option linter.unusedVariables false
section
variable {H : Type} {enc : TypeId × Value → H} {w : World} {N : Nat}
theorem cut4 {l : List Value} (h : l.length = 4) : ∃ a b c d, l = [a, b, c, d] := by
  match l, h with
  | [a, b, c, d], _ => exact ⟨a, b, c, d, rfl⟩
theorem cut6 {cs : List Value} (h : cs.length = 6) : cs.take 4 ++ ((cs.drop 4).take 1 ++ (cs.drop 5).take 1) = cs := by
  match cs, h with
  | [_, _, _, _, _, _], _ => rfl
theorem reads_d4 : Reads H enc Tryz.prog w N 24 D4.row D4.U := by
  intro fuel cs x h hb
  obtain ⟨hl, n, hf⟩ := trod_items Tryz.underlying24 h hb
  rw [cellsOf_24] at hl
  obtain ⟨c0, c1, c2, c3, rfl⟩ := cut4 hl
  have e0 := hf 0 (by omega)
  have e1 := hf 1 (by omega)
  have e2 := hf 2 (by omega)
  have e3 := hf 3 (by omega)
  simp only [cellsOf_22, Nat.mul_one, List.drop_zero, List.drop_succ_cons, List.take_succ_cons, List.take_zero] at e0 e1 e2 e3
  obtain ⟨y0, h0, b0⟩ := e0
  obtain ⟨y1, h1, b1⟩ := e1
  obtain ⟨y2, h2, b2⟩ := e2
  obtain ⟨y3, h3, b3⟩ := e3
  obtain ⟨v0, r0, w0⟩ := reads_int (N := N) Tryz.underlying22 _ _ _ h0 b0
  obtain ⟨v1, r1, w1⟩ := reads_int (N := N) Tryz.underlying22 _ _ _ h1 b1
  obtain ⟨v2, r2, w2⟩ := reads_int (N := N) Tryz.underlying22 _ _ _ h2 b2
  obtain ⟨v3, r3, w3⟩ := reads_int (N := N) Tryz.underlying22 _ _ _ h3 b3
  refine ⟨⟨v0, v1, v2, v3⟩, ?_, u32_range w0, u32_range w1, u32_range w2, u32_range w3⟩
  simp [RepDL] at r0 r1 r2 r3
  simp only [D4.row]
  exact ⟨_, _, rfl, r0, ⟨_, _, rfl, r1, ⟨_, _, rfl, r2, ⟨_, _, rfl, r3, rfl⟩⟩⟩⟩
theorem repDL_append {I : Nat → Prop} {xs ys : List AV} {us vs : List Value} (h1 : RepDL I w xs us) (h2 : RepDL I w ys vs) : RepDL I w (xs ++ ys) (us ++ vs) :=
  (RepDL_iff _ _).2 (((RepDL_iff _ _).1 h1).append ((RepDL_iff _ _).1 h2))
theorem reads_link : Reads H enc Tryz.prog w N 28 (fun p : D4 × D4 => p.1.row ++ p.2.row) (fun p => p.1.U ∧ p.2.U) := by
  intro fuel cs x h hb
  obtain ⟨hl, n, hf⟩ := trod_fields Tryz.underlying28 h hb
  rw [cellsOf_28] at hl
  have e0 := hf 0
  have e1 := hf 1
  simp only [List.getElem?_toArray, List.getElem?_cons_zero, List.getElem?_cons_succ, Option.some.injEq, forall_eq', cellsOf_24, List.drop_zero] at e0 e1
  obtain ⟨y0, h0, b0⟩ := e0
  obtain ⟨y1, h1, b1⟩ := e1
  obtain ⟨v0, r0, w0⟩ := reads_d4 (N := N) _ _ _ h0 b0
  obtain ⟨v1, r1, w1⟩ := reads_d4 (N := N) _ _ _ h1 b1
  refine ⟨(v0, v1), ?_, w0, w1⟩
  have := repDL_append r0 r1
  rwa [List.take_of_length_le (l := cs.drop 4) (by rw [List.length_drop]; omega), List.take_append_drop] at this
theorem reads_signer : Reads H enc Tryz.prog w N 26 (fun p : D4 × Int × Int => p.1.row ++ [iv p.2.1, iv p.2.2]) (fun p => p.1.U) := by
  intro fuel cs x h hb
  obtain ⟨hl, n, hf⟩ := trod_fields Tryz.underlying26 h hb
  rw [cellsOf_26] at hl
  have e0 := hf 0
  have e1 := hf 1
  have e2 := hf 2
  simp only [List.getElem?_toArray, List.getElem?_cons_zero, List.getElem?_cons_succ, Option.some.injEq, forall_eq', cellsOf_24, cellsOf_3, List.drop_zero] at e0 e1 e2
  obtain ⟨y0, h0, b0⟩ := e0
  obtain ⟨y1, h1, b1⟩ := e1
  obtain ⟨y2, h2, b2⟩ := e2
  obtain ⟨v0, r0, w0⟩ := reads_d4 (N := N) _ _ _ h0 b0
  obtain ⟨v1, r1, w1⟩ := reads_int (N := N) Tryz.underlying3 _ _ _ h1 b1
  obtain ⟨v2, r2, w2⟩ := reads_int (N := N) Tryz.underlying3 _ _ _ h2 b2
  refine ⟨(v0, v1, v2), ?_, w0⟩
  have := repDL_append r0 (repDL_append r1 r2)
  rw [cut6 hl] at this
  exact this
theorem okWide_array {m : Nat} {e : TypeId} {P : Program} {r : Reach} {base : Nat} {t : TypeId} {v : Value} (ht : P.underlying t = some (.array m e)) (h : Value.okWide P w r base t v) : ∃ cs, v = .agg cs ∧ cs.size = P.cellsOf t := by
  simp only [Value.okWide, ht] at h
  obtain ⟨cs, h1, h2, _⟩ := h
  exact ⟨cs, h1, h2⟩
end
set_option maxRecDepth 200000 in
theorem contract3 (H : Type) (enc : TypeId × Value → H) (W : World) (base : Nat) (args : Array Value) (ds gs : List (DataW H)) (before : List MemPlace)
    (hval : ∀ (j : Nat) t v, Tryz.f3.params[j]? = some t → args[j]? = some v → Value.okWide Tryz.prog W .any base t v)
    (hW : DataW.Whole enc Tryz.prog Tryz.f3.params.toList Rows.kitLieSpec.vars false W args.toList ds gs before) (hL : laidMetH Tryz.prog Rows.kitLieRow.laid W) :
    Calls Tryz.prog 3 args W fun e W' => ∃ v, e = .returned v ∧ Rows.kitLieSpec.post enc Tryz.prog Tryz.f3 false true false false W args v W' := by
  have hW' := hW
  obtain ⟨p, q, hA0, hV, rfl, hfz, hnd⟩ := hW
  have hA : DataW.TrodAll enc Tryz.prog W 0 (fun _ => true) true Tryz.f3.params.toList args.toList ds p := hA0
  rw [Tryz.params3] at hA hval
  obtain ⟨v0, vs0, d0, ds0, p0, q0, hargs, rfl, rfl, h0, r0⟩ := trodAll_cons hA
  obtain ⟨v1, vs1, d1, ds1, p1, q1, rfl, rfl, rfl, h1, r1⟩ := trodAll_cons r0
  obtain ⟨rfl, rfl, rfl⟩ := trodAll_nil r1
  obtain rfl : args = #[v0, v1] := by cases args; simp_all
  obtain ⟨rfl, rfl⟩ := trodVars_none hV
  obtain ⟨P, hP⟩ : ∃ P, P = Tryz.prog := ⟨_, rfl⟩
  rw [← hP] at hval
  have k0 := hval 0 26 v0 rfl rfl
  have k1 := hval 1 28 v1 rfl rfl
  rw [hP] at k0 k1
  obtain ⟨cs0, rfl, hcs0⟩ := okWide_struct Tryz.underlying26 k0
  obtain ⟨fuel0, hf0⟩ := h0
  obtain ⟨x0, hr0, hw0⟩ := reads_signer (N := Rows.uptoBulk d0) fuel0 _ _ hf0 (Nat.le_refl _)
  obtain ⟨cs1, rfl, hcs1⟩ := okWide_struct Tryz.underlying28 k1
  obtain ⟨fuel1, hf1⟩ := h1
  obtain ⟨x1, hr1, hw1⟩ := reads_link (N := Rows.uptoBulk d1) fuel1 _ _ hf1 (Nat.le_refl _)
  have hd := L47_ok 3 [.agg (x0.1.row ++ [iv x0.2.1, iv x0.2.2]), .agg (x1.1.row ++ x1.2.row)] _ (f3 awz x0.1 x1.1 x1.2 x0.2.1 x0.2.2 hw0 hw1.1 hw1.2) okFn_3 (There W) W [.agg cs0, .agg cs1] (fun b h => h) (table_gl hL) (.cons ⟨cs0.toList, rfl, hr0⟩ (.cons ⟨cs1.toList, rfl, hr1⟩ .nil))
  refine hd.mono fun e W' ⟨u, he, hp⟩ => ?_
  subst he
  rw [rtys_3] at hp
  obtain rfl := callPost_true isAggB_4 hp
  exact ⟨_, rfl, law_post hW' rfl laidOut47 (by rw [Tryz.params3]; exact List.forall_mem_cons.2 ⟨⟨rd26, lt26⟩, List.forall_mem_cons.2 ⟨⟨rd28, lt28⟩, List.forall_mem_nil _⟩⟩) (by kernel_rfl) Tryz.underlying4 rfl (callPost_below hp)⟩
theorem laid_met3 (os : Os) : laidMet Tryz.prog Rows.kitLieRow.laid ((laidWorld os).forCall (fun _ _ => 0) ⟨#[], #[.agg #[.int .u32 0, .int .u32 0, .int .u32 0, .int .u32 0, .int .i64 0, .int .i64 0], .agg #[.int .u32 0, .int .u32 0, .int .u32 0, .int .u32 0, .int .u32 0, .int .u32 0, .int .u32 0, .int .u32 0]], []⟩).memory :=
  laidMet_of_run' 8 (by kernel_rfl) (by kernel_rfl)
theorem reads3 (os : Os) {H : Type} (enc : TypeId × Value → H) : ∃ places, DataW.whole enc Tryz.prog ((laidWorld os).forCall (fun _ _ => 0) ⟨#[], #[.agg #[.int .u32 0, .int .u32 0, .int .u32 0, .int .u32 0, .int .i64 0, .int .i64 0], .agg #[.int .u32 0, .int .u32 0, .int .u32 0, .int .u32 0, .int .u32 0, .int .u32 0, .int .u32 0, .int .u32 0]], []⟩).memory Tryz.f3.params.toList Rows.kitLieSpec.vars false #[Value.agg #[.int .u32 0, .int .u32 0, .int .u32 0, .int .u32 0, .int .i64 0, .int .i64 0], .agg #[.int .u32 0, .int .u32 0, .int .u32 0, .int .u32 0, .int .u32 0, .int .u32 0, .int .u32 0, .int .u32 0]].toList 8 = some ([.agg [.agg [.lit (.int .u32 0), .lit (.int .u32 0), .lit (.int .u32 0), .lit (.int .u32 0)], .lit (.int .i64 0), .lit (.int .i64 0)], .agg [.agg [.lit (.int .u32 0), .lit (.int .u32 0), .lit (.int .u32 0), .lit (.int .u32 0)], .agg [.lit (.int .u32 0), .lit (.int .u32 0), .lit (.int .u32 0), .lit (.int .u32 0)]]], [], places) :=
  ⟨[], by kernel_rfl⟩
set_option maxRecDepth 100000 in
theorem lifted3 (os : Os) (started : os.Started) (H : Type) (enc : TypeId × Value → H) (F : Stop.Interp) :
    ReturnsInHanded {} Tryz.checked os 3 .any ((OpenSpec.ofChange Rows.kitLieSpec).preRow enc Tryz.prog Tryz.f3 Rows.kitLieRow.domain false Rows.kitLieRow.laid) (((OpenSpec.ofChange Rows.kitLieSpec).at F).post enc Tryz.prog Tryz.f3 false true false false) := by
  obtain ⟨places, hx⟩ := reads3 os enc
  refine returnsInHanded_of_row (C := Tryz.checked) (s := OpenSpec.ofChange Rows.kitLieSpec) own47 started (by kernel_rfl) Tryz.func3
    (witness_row_at (enc := enc) (C := Tryz.checked) false (laidWorld os) #[.agg #[.int .u32 0, .int .u32 0, .int .u32 0, .int .u32 0, .int .i64 0, .int .i64 0], .agg #[.int .u32 0, .int .u32 0, .int .u32 0, .int .u32 0, .int .u32 0, .int .u32 0, .int .u32 0, .int .u32 0]] rfl (by kernel_rfl) (by kernel_rfl) (by kernel_rfl)
      (OpenSpec.preRow_of_cond 8 hx (by kernel_rfl) (fun k hk => by cases hk) (by kernel_rfl) (laid_met3 os))) ?_
  intro W base args ds gs before hval hW _ _ _ hL _ _
  exact contract3 H enc W base args ds gs before hval hW hL
theorem said3 : Rows.KitLieSaid :=
  OpenClaim.holds_of_cond 3 Tryz.f3 rfl rfl rfl rfl rfl rfl rfl ⟨rfl, rfl, rfl, rfl, rfl⟩ rfl rfl rfl rfl rfl (by kernel_rfl) Tryz.func3 (by kernel_rfl)
    (of_decide_eq_true (by kernel_rfl)) (by unfold Func.isWrapper; first | (rw [if_pos (by decide +kernel)]; kernel_rfl) | (rw [if_neg (by decide +kernel)]; exact ⟨rfl, rfl⟩))
    (fun os started H enc _ F => by rw [OpenClaim.pre_eq_preRow]; exact lifted3 os started H enc F)
theorem plain3 (f : FuncId) (fn : Func) (hf : Tryz.pinned.checked.prog.funcNamed "seedcorn/seedcornlaw47.KitLie" = some f) (hfn : Tryz.pinned.checked.prog.funcs[f]? = some fn) :
    false = Tryz.pinned.checked.prog.looks [] ∧ ∀ (j : Nat) t, fn.params[j]? = some t → Tryz.pinned.checked.prog.wantsStandIn t = false := by
  obtain rfl : f = 3 := Option.some.inj ((show Tryz.prog.funcNamed "seedcorn/seedcornlaw47.KitLie" = some 3 by kernel_rfl).symm.trans hf) |>.symm
  obtain rfl : fn = Tryz.f3 := (Option.some.inj (Tryz.func3.symm.trans hfn)).symm
  refine ⟨by kernel_rfl, fun j t ht => ?_⟩
  rw [Tryz.params3] at ht
  have ht' : t = 26 ∨ t = 28 := by simpa using Array.mem_of_getElem? ht
  rcases ht' with rfl | rfl
  · exact (show Tryz.prog.wantsStandIn 26 = false by kernel_rfl)
  · exact (show Tryz.prog.wantsStandIn 28 = false by kernel_rfl)
theorem lie_holds : Rows.KitLieCardSaid :=
  Claim7.holds_tied_plain_at .later [] _ _ _ _ said3 (fun _ h => by cases h) (by kernel_rfl) (fun _ h => by cases h) kitLie_row_tie rfl ⟨rfl, rfl⟩ (by kernel_rfl) rfl plain3 (by kernel_rfl)
end Go.Proofs.YtdokejnokhicbaaGreatDoor
