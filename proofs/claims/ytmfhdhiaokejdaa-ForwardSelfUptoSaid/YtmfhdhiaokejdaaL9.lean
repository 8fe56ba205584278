/- Law 31, ForwardSelf: at every program, text and two numbers of at most 1048576 values and letters together the call answers true and leaves its arguments as they were. -/
import Derived.Test.YtmfhdhiaokejdaaKi
import Derived.Test.YtmfhdhiaokejdaaL6
import Derived.Test.YtmfhdhiaokejdaaKh
namespace Go.Proofs.Ytmfhdhiaokejdaa
open Go Go.Ab
set_option linter.unusedSimpArgs false
set_option linter.unusedVariables false
def selfBlk (v : Int) (b : Blk) : Blk := { b with ins := copyT v v :: b.ins }
def selfFn (x : Int) (f : Fn) : Fn := if 0 < f.regs then ⟨f.regs, f.blocks.map (selfBlk (x.tmod f.regs))⟩ else f
/-- The same state, but for the steps, which are twice as many at most, and e. -/
structure Two (s s' : RS) (e : Int) : Prop where
  eq : s' = { s with steps := s'.steps }
  le : s'.steps ≤ 2 * s.steps + e
theorem Two.fin {s s' : RS} {e : Int} (h : Two s s' e) : s'.fin = s.fin := by rw [h.eq]
theorem Two.out {s s' : RS} {e : Int} (h : Two s s' e) : s'.out = s.out := by rw [h.eq]
theorem Two.more {s s' : RS} {e : Int} (h : Two s s' e) : Two { s with steps := s.steps + 1 } { s' with steps := s'.steps + 1 } (e - 1) := by
  obtain ⟨h1, h2⟩ := h
  refine ⟨?_, by show s'.steps + 1 ≤ 2 * (s.steps + 1) + (e - 1); omega⟩
  rw [h1]
theorem Two.weak {s s' : RS} {e e' : Int} (h : Two s s' e) (he : e ≤ e') : Two s s' e' := ⟨h.eq, by have := h.le; omega⟩
/-- How two calls end. -/
structure Outs (c : RC) (t t' u u' : RS) : Prop where
  up : t.steps ≤ u.steps ∧ u.steps ≤ c.fuel
  two : u.fin = 5 ∨ (Two u u' 0 ∧ t'.steps ≤ u'.steps)
theorem one_steps {c c' : RC} (hi : c'.inp = c.inp) {ap : Int → Int → Int → Int × Int} {call call' : Int → RS → RS} {t : Tac} (ht : t.op ≠ 10) (s : RS) (x : Int) (r : List Int) :
    oneS c' ap call' t { s with steps := x } r = ({ (oneS c ap call t s r).1 with steps := x }, (oneS c ap call t s r).2) ∧ (oneS c ap call t s r).1.steps = s.steps := by
  unfold oneS
  rw [hi]
  by_cases h1 : t.op = 1
  · simp only [if_pos h1]; exact ⟨trivial, trivial⟩
  by_cases h2 : t.op = 2
  · simp only [if_neg h1, if_pos h2]; exact ⟨trivial, trivial⟩
  by_cases h3 : t.op = 3
  · simp only [if_neg h1, if_neg h2, if_pos h3]; split <;> exact ⟨rfl, rfl⟩
  by_cases h4 : t.op = 4
  · simp only [if_neg h1, if_neg h2, if_neg h3, if_pos h4]; exact ⟨trivial, trivial⟩
  by_cases h5 : t.op = 5
  · simp only [if_neg h1, if_neg h2, if_neg h3, if_neg h4, if_pos h5]; exact ⟨trivial, trivial⟩
  by_cases h6 : t.op = 6
  · simp only [if_neg h1, if_neg h2, if_neg h3, if_neg h4, if_neg h5, if_pos h6]; split <;> exact ⟨rfl, rfl⟩
  by_cases h7 : t.op = 7
  · simp only [if_neg h1, if_neg h2, if_neg h3, if_neg h4, if_neg h5, if_neg h6, if_pos h7]; split <;> exact ⟨rfl, rfl⟩
  by_cases h8 : t.op = 8
  · simp only [if_neg h1, if_neg h2, if_neg h3, if_neg h4, if_neg h5, if_neg h6, if_neg h7, if_pos h8]; split <;> exact ⟨rfl, rfl⟩
  by_cases h9 : t.op = 9
  · simp only [if_neg h1, if_neg h2, if_neg h3, if_neg h4, if_neg h5, if_neg h6, if_neg h7, if_neg h8, if_pos h9]; split <;> exact ⟨rfl, rfl⟩
  · simp only [if_neg h1, if_neg h2, if_neg h3, if_neg h4, if_neg h5, if_neg h6, if_neg h7, if_neg h8, if_neg h9, if_neg ht]; exact ⟨trivial, trivial⟩
/-- How two runs of instructions end. -/
structure InsOut (c : RC) (s s' : RS) (p p' : RS × List Int × Bool) : Prop where
  up : s.steps ≤ p.1.steps ∧ p.1.steps ≤ c.fuel
  two : (p.1.fin = 5 ∧ p.2.2 = false) ∨ (p.1.fin ≠ 0 ∧ p.2.2 = false ∧ p'.2.2 = false ∧ Two p.1 p'.1 0 ∧ s'.steps ≤ p'.1.steps) ∨ (p.1.fin = 0 ∧ p.2.2 = true ∧ p'.2 = p.2 ∧ Two p.1 p'.1 1 ∧ s'.steps ≤ p'.1.steps)
theorem ins_two {c c' : RC} (hi : c'.inp = c.inp) (hfu : c'.fuel = 2 * c.fuel + 2) {ap : Int → Int → Int → Int × Int} {call call' : Int → RS → RS} {a a' : Int}
    (hcall : ∀ i t t', t.fin = 0 → a < t.steps → a' < t'.steps → t.steps ≤ c.fuel → Two t t' 0 → Outs c t t' (call i t) (call' i t')) :
    ∀ (ts : List Tac) (s s' : RS) (r : List Int), s.fin = 0 → a ≤ s.steps → a' ≤ s'.steps → s.steps ≤ c.fuel → Two s s' 1 → InsOut c s s' (insS c ap call ts s r) (insS c' ap call' ts s' r)
  | [], s, s', r, h0, _, _, hs, ht => ⟨⟨Int.le_refl _, hs⟩, .inr (.inr ⟨h0, rfl, rfl, ht, Int.le_refl _⟩)⟩
  | t :: ts, s, s', r, h0, ha, ha', hs, ht => by
    have hle := ht.le
    by_cases hfl : c.fuel ≤ s.steps
    · have e : insS c ap call (t :: ts) s r = ({ s with fin := 5 }, r, false) := by unfold insS; rw [if_pos hfl]
      exact ⟨by rw [e]; exact ⟨Int.le_refl _, hs⟩, .inl (by rw [e]; exact ⟨rfl, rfl⟩)⟩
    · have hfl' : ¬ c'.fuel ≤ s'.steps := by omega
      unfold insS
      rw [if_neg hfl, if_neg hfl']
      have hm := ht.more
      have h1 : Outs c { s with steps := s.steps + 1 } { s' with steps := s'.steps + 1 } (oneS c ap call t { s with steps := s.steps + 1 } r).1 (oneS c' ap call' t { s' with steps := s'.steps + 1 } r).1 ∧ ((oneS c ap call t { s with steps := s.steps + 1 } r).1.fin = 5 ∨ (oneS c' ap call' t { s' with steps := s'.steps + 1 } r).2 = (oneS c ap call t { s with steps := s.steps + 1 } r).2) := by
        by_cases h10 : t.op = 10
        · have e : ∀ (c : RC) (call : Int → RS → RS) (s : RS), oneS c ap call t s r = (call t.base s, r) := fun c call s => by unfold oneS; simp [h10]
          rw [e, e]
          exact ⟨hcall t.base _ _ h0 (by show a < s.steps + 1; omega) (by show a' < s'.steps + 1; omega) (by show s.steps + 1 ≤ c.fuel; omega) hm, .inr rfl⟩
        · obtain ⟨e1, e2⟩ := one_steps (c := c) (c' := c') hi (ap := ap) (call := call) (call' := call') h10 { s with steps := s.steps + 1 } (s'.steps + 1) r
          have e3 : ({ s' with steps := s'.steps + 1 } : RS) = { s with steps := s'.steps + 1 } := by rw [ht.eq]
          rw [e3, e1]
          refine ⟨⟨⟨?_, ?_⟩, .inr ⟨⟨rfl, ?_⟩, ?_⟩⟩, .inr rfl⟩
          · rw [e2]; exact Int.le_refl _
          · rw [e2]; show s.steps + 1 ≤ c.fuel; omega
          · rw [e2]; show s'.steps + 1 ≤ 2 * (s.steps + 1) + 0; omega
          · exact Int.le_refl _
      obtain ⟨⟨⟨u1, u2⟩, u3⟩, u4⟩ := h1
      generalize oneS c ap call t { s with steps := s.steps + 1 } r = p at u1 u2 u3 u4
      generalize oneS c' ap call' t { s' with steps := s'.steps + 1 } r = p' at u3 u4
      have u1' : s.steps + 1 ≤ p.1.steps := u1
      by_cases h5 : p.1.fin = 5
      · have e : (if p.1.fin ≠ 0 then (p.1, p.2, false) else insS c ap call ts p.1 p.2) = (p.1, p.2, false) := by rw [if_pos (by omega)]
        simp only [e]
        exact ⟨⟨by show s.steps ≤ p.1.steps; omega, u2⟩, .inl ⟨h5, rfl⟩⟩
      · have u3' := u3.resolve_left h5
        have u4' := u4.resolve_left h5
        have u5 : s'.steps + 1 ≤ p'.1.steps := u3'.2
        have hf := u3'.1.fin
        by_cases hz : p.1.fin = 0
        · have e1 : (if p.1.fin ≠ 0 then (p.1, p.2, false) else insS c ap call ts p.1 p.2) = insS c ap call ts p.1 p.2 := by rw [if_neg (by omega)]
          have e2 : (if p'.1.fin ≠ 0 then (p'.1, p'.2, false) else insS c' ap call' ts p'.1 p'.2) = insS c' ap call' ts p'.1 p.2 := by rw [if_neg (by omega), u4']
          simp only [e1, e2]
          obtain ⟨⟨v1, v2⟩, v3⟩ := ins_two hi hfu (ap := ap) hcall ts p.1 p'.1 p.2 hz (by omega) (by omega) u2 (u3'.1.weak (by omega))
          refine ⟨⟨by omega, v2⟩, ?_⟩
          rcases v3 with v | v | v
          · exact .inl v
          · exact .inr (.inl ⟨v.1, v.2.1, v.2.2.1, v.2.2.2.1, by omega⟩)
          · exact .inr (.inr ⟨v.1, v.2.1, v.2.2.1, v.2.2.2.1, by omega⟩)
        · have e1 : (if p.1.fin ≠ 0 then (p.1, p.2, false) else insS c ap call ts p.1 p.2) = (p.1, p.2, false) := by rw [if_pos (by omega)]
          have e2 : (if p'.1.fin ≠ 0 then (p'.1, p'.2, false) else insS c' ap call' ts p'.1 p'.2) = (p'.1, p'.2, false) := by rw [if_pos (by omega)]
          simp only [e1, e2]
          exact ⟨⟨by show s.steps ≤ p.1.steps; omega, u2⟩, .inr (.inl ⟨hz, rfl, rfl, u3'.1, by show s'.steps ≤ p'.1.steps; omega⟩)⟩
theorem set_same (r : List Int) (v : Int) : r.set v.toNat (rg r v) = r := by
  unfold rg
  apply List.ext_getElem?
  intro i
  rw [List.getElem?_set]
  split
  · rename_i h
    subst h
    split
    · rename_i h
      rw [List.getElem?_eq_getElem h, List.getD_eq_getElem?_getD, List.getElem?_eq_getElem h]; rfl
    · rename_i h
      rw [List.getElem?_eq_none (by omega)]
  · rfl
theorem ins_copy {c : RC} {ap : Int → Int → Int → Int × Int} {call : Int → RS → RS} {v : Int} {ts : List Tac} {s : RS} {r : List Int} (h0 : s.fin = 0) (hf : ¬ c.fuel ≤ s.steps) : insS c ap call (copyT v v :: ts) s r = insS c ap call ts { s with steps := s.steps + 1 } r := by
  have e : oneS c ap call (copyT v v) { s with steps := s.steps + 1 } r = ({ s with steps := s.steps + 1 }, r) := by
    unfold oneS copyT
    simp only [set_same]
    simp
  conv => lhs; unfold insS
  rw [if_neg hf, e]
  simp only [ne_eq]
  rw [if_neg (by simp [h0])]
theorem loopS_some {c : RC} {ap : Int → Int → Int → Int × Int} {n : Nat} {f : Fn} {pc : Int} {b : Blk} {s : RS} {r : List Int} (h : f.blocks[pc.toNat]? = some b) : loopS c ap (n + 1) f pc s r = (if (insS c ap (callS c ap n) b.ins s r).2.2 = false then (insS c ap (callS c ap n) b.ins s r).1 else if c.fuel ≤ (insS c ap (callS c ap n) b.ins s r).1.steps then { (insS c ap (callS c ap n) b.ins s r).1 with fin := 5 } else if b.en = 3 then { (insS c ap (callS c ap n) b.ins s r).1 with steps := (insS c ap (callS c ap n) b.ins s r).1.steps + 1 }
    else loopS c ap n f (if b.en = 2 ∧ rg (insS c ap (callS c ap n) b.ins s r).2.1 b.v = 0 then b.el else b.to) { (insS c ap (callS c ap n) b.ins s r).1 with steps := (insS c ap (callS c ap n) b.ins s r).1.steps + 1 } (insS c ap (callS c ap n) b.ins s r).2.1) := by
  conv => lhs; unfold loopS
  simp only [h]
  rfl
theorem loopS_none {c : RC} {ap : Int → Int → Int → Int × Int} {n : Nat} {f : Fn} {pc : Int} {s : RS} {r : List Int} (h : f.blocks[pc.toNat]? = none) : loopS c ap (n + 1) f pc s r = s := by
  conv => lhs; unfold loopS
  simp only [h]
theorem self_regs (x : Int) (f : Fn) : (selfFn x f).regs = f.regs := by unfold selfFn; split <;> rfl
theorem self_block {x : Int} {f : Fn} {i : Nat} {b : Blk} (h : f.blocks[i]? = some b) : ∃ b', (selfFn x f).blocks[i]? = some b' ∧ b'.en = b.en ∧ b'.v = b.v ∧ b'.to = b.to ∧ b'.el = b.el ∧ (b'.ins = b.ins ∨ ∃ v, b'.ins = copyT v v :: b.ins) := by
  unfold selfFn
  split
  · exact ⟨selfBlk (x.tmod f.regs) b, by simp only [List.getElem?_map, h, Option.map_some], rfl, rfl, rfl, rfl, .inr ⟨_, rfl⟩⟩
  · exact ⟨b, h, rfl, rfl, rfl, rfl, .inl rfl⟩
theorem self_none {x : Int} {f : Fn} {i : Nat} (h : f.blocks[i]? = none) : (selfFn x f).blocks[i]? = none := by
  unfold selfFn
  split
  · simp only [List.getElem?_map, h, Option.map_none]
  · exact h
theorem loop_two {c c' : RC} (hi : c'.inp = c.inp) (hfu : c'.fuel = 2 * c.fuel + 2) {x : Int} (hfs : c'.fs = c.fs.map (selfFn x)) {ap : Int → Int → Int → Int × Int} :
    ∀ (m m' : Nat) (f : Fn) (pc : Int) (s s' : RS) (r : List Int), s.fin = 0 → s.steps ≤ c.fuel → c.fuel - s.steps < m → c'.fuel - s'.steps < m' → Two s s' 0 → Outs c s s' (loopS c ap m f pc s r) (loopS c' ap m' (selfFn x f) pc s' r)
  | 0, _, _, _, _, _, _, _, hs, hm, _, _ => by omega
  | m + 1, 0, _, _, s, s', _, _, hs, _, hm', ht => by have := ht.le; omega
  | m + 1, m' + 1, f, pc, s, s', r, h0, hs, hm, hm', ht => by
    have hle := ht.le
    cases hb : f.blocks[pc.toNat]? with
    | none => rw [loopS_none hb, loopS_none (self_none hb)]; exact ⟨⟨Int.le_refl _, hs⟩, .inr ⟨ht, Int.le_refl _⟩⟩
    | some b =>
      obtain ⟨b', hb', e1, e2, e3, e4, e5⟩ := self_block (x := x) hb
      rw [loopS_some hb, loopS_some hb', e1, e2, e3, e4]
      have hcall : ∀ i t t', t.fin = 0 → s.steps < t.steps → s'.steps < t'.steps → t.steps ≤ c.fuel → Two t t' 0 → Outs c t t' (callS c ap m i t) (callS c' ap m' i t') := fun i t t' k0 k1 k2 k3 k4 => by
        unfold callS
        rw [hfs, List.getElem?_map]
        cases hg : c.fs[i.toNat]? with
        | none => exact ⟨⟨Int.le_refl _, k3⟩, .inr ⟨k4, Int.le_refl _⟩⟩
        | some g =>
          simp only [Option.map_some]
          rw [self_regs]
          exact loop_two hi hfu hfs m m' g 0 t t' _ k0 k3 (by omega) (by omega) k4
      obtain ⟨s1', g1, g2, g3⟩ : ∃ s1', insS c' ap (callS c' ap m') b'.ins s' r = insS c' ap (callS c' ap m') b.ins s1' r ∧ Two s s1' 1 ∧ s'.steps ≤ s1'.steps := by
        rcases e5 with e5 | ⟨v, e5⟩
        · exact ⟨s', by rw [e5], ht.weak (by omega), Int.le_refl _⟩
        · refine ⟨{ s' with steps := s'.steps + 1 }, by rw [e5, ins_copy (by rw [ht.fin]; exact h0) (by omega)], ⟨?_, ?_⟩, ?_⟩
          · rw [ht.eq]
          · show s'.steps + 1 ≤ 2 * s.steps + 1; omega
          · show s'.steps ≤ s'.steps + 1; omega
      rw [g1]
      obtain ⟨⟨u1, u2⟩, u3⟩ := ins_two hi hfu (ap := ap) hcall b.ins s s1' r h0 (Int.le_refl _) g3 hs g2
      generalize insS c ap (callS c ap m) b.ins s r = p at u1 u2 u3
      generalize insS c' ap (callS c' ap m') b.ins s1' r = p' at u3
      obtain ⟨q, rr, bb⟩ := p
      obtain ⟨q', rr', bb'⟩ := p'
      simp only at u1 u2 u3 ⊢
      rcases u3 with ⟨w1, w2⟩ | ⟨w1, w2, w3, w4, w5⟩ | ⟨w1, w2, w3, w4, w5⟩
      · rw [if_pos w2]
        exact ⟨⟨u1, u2⟩, .inl w1⟩
      · rw [if_pos w2, if_pos w3]
        exact ⟨⟨u1, u2⟩, .inr ⟨w4, by omega⟩⟩
      · obtain ⟨rfl, rfl⟩ := Prod.mk.inj w3
        subst w2
        simp only [Bool.true_eq_false, if_false]
        have w6 := w4.le
        by_cases hfl : c.fuel ≤ q.steps
        · rw [if_pos hfl]
          exact ⟨⟨u1, u2⟩, .inl rfl⟩
        · rw [if_neg hfl, if_neg (by omega : ¬ c'.fuel ≤ q'.steps)]
          have hmo := w4.more
          by_cases h3 : b.en = 3
          · rw [if_pos h3, if_pos h3]
            exact ⟨⟨by show s.steps ≤ q.steps + 1; omega, by show q.steps + 1 ≤ c.fuel; omega⟩, .inr ⟨hmo, by show s'.steps ≤ q'.steps + 1; omega⟩⟩
          · rw [if_neg h3, if_neg h3]
            obtain ⟨⟨v1, v2⟩, v3⟩ := loop_two hi hfu hfs m m' f (if b.en = 2 ∧ rg rr' b.v = 0 then b.el else b.to) { q with steps := q.steps + 1 } { q' with steps := q'.steps + 1 } rr' w1 (by show q.steps + 1 ≤ c.fuel; omega) (by show c.fuel - (q.steps + 1) < m; omega) (by show c'.fuel - (q'.steps + 1) < m'; omega) hmo
            have v1' : q.steps + 1 ≤ _ := v1
            refine ⟨⟨by omega, v2⟩, ?_⟩
            rcases v3 with v3 | ⟨v3, v4⟩
            · exact .inl v3
            · have v4' : q'.steps + 1 ≤ _ := v4
              exact .inr ⟨v3, by omega⟩
/-- The runs of both programs: the first has no fuel left, or they end alike and put out the same. -/
theorem run_two {nw fuel x : Int} {fs : List Fn} {inp : ByteArray} (h0 : 0 ≤ fuel) : (runS ⟨nw, fs, inp, fuel⟩).fin = 5 ∨ ((runS ⟨nw, fs.map (selfFn x), inp, 2 * fuel + 2⟩).fin = (runS ⟨nw, fs, inp, fuel⟩).fin ∧ (runS ⟨nw, fs.map (selfFn x), inp, 2 * fuel + 2⟩).out = (runS ⟨nw, fs, inp, fuel⟩).out) := by
  unfold runS callS
  simp only [List.length_map, Int.toNat_natCast, List.getElem?_map]
  cases hg : fs[fs.length - 1]? with
  | none => exact .inr ⟨rfl, rfl⟩
  | some g =>
    simp only [Option.map_some]
    rw [self_regs]
    obtain ⟨_, h⟩ := loop_two (c := ⟨nw, fs, inp, fuel⟩) (c' := ⟨nw, fs.map (selfFn x), inp, 2 * fuel + 2⟩) rfl rfl rfl (ap := apD) (fuel.toNat + 1) ((2 * fuel + 2).toNat + 1) g 0 (beginS ⟨nw, fs, inp, fuel⟩) (beginS ⟨nw, fs.map (selfFn x), inp, 2 * fuel + 2⟩) (List.replicate g.regs.toNat 0) rfl h0 (by show fuel - 0 < _; omega) (by show 2 * fuel + 2 - 0 < _; omega) ⟨rfl, by show (0 : Int) ≤ 2 * 0 + 0; omega⟩
    rcases h with h | ⟨h, _⟩
    · exact .inl h
    · exact .inr ⟨h.fin, h.out⟩
end Go.Proofs.Ytmfhdhiaokejdaa

namespace Go.Proofs.Ytmfhdhiaokejdaa
open Go Go.Ab
set_option linter.unusedSimpArgs false
set_option linter.unusedVariables false
theorem self_pos {x : Int} {f : Fn} (h : 0 < f.regs) : selfFn x f = ⟨f.regs, f.blocks.map (selfBlk (x.tmod f.regs))⟩ := by unfold selfFn; rw [if_pos h]
theorem self_zero {x : Int} {f : Fn} (h : ¬ 0 < f.regs) : selfFn x f = f := by unfold selfFn; rw [if_neg h]
theorem one_self {x : Int} (hx : 0 ≤ x) {f : Fn} {number words : Int} (h : oneB f number words = true) : oneB (selfFn x f) number words = true := by
  by_cases hp : 0 < f.regs
  · rw [self_pos hp]
    have v0 : 0 ≤ x.tmod f.regs := Int.tmod_nonneg _ hx
    have v1 : x.tmod f.regs < f.regs := Int.tmod_lt_of_pos _ hp
    unfold oneB at h ⊢
    simp only [Bool.and_eq_true, decide_eq_true_eq, List.all_eq_true, List.length_map] at h ⊢
    refine ⟨h.1, fun b hb => ?_⟩
    simp only [List.mem_map] at hb
    obtain ⟨a, ha, rfl⟩ := hb
    have h5 := h.2 a ha
    unfold okBlk at h5 ⊢
    simp only [Bool.and_eq_true, List.all_eq_true, selfBlk] at h5 ⊢
    refine ⟨h5.1, fun t ht => ?_⟩
    rcases List.mem_cons.1 ht with rfl | ht
    · simp [Tac.fitsB, fitsB, copyT, setsB, withinB, okUse, usesL, bare, v0, v1]
    · exact h5.2 t ht
  · rw [self_zero hp]; exact h
theorem self_len {x : Int} {f : Fn} : (selfFn x f).blocks.length = f.blocks.length := by unfold selfFn; split <;> simp
theorem self_ins {x : Int} {f : Fn} {b : Blk} (h : b ∈ (selfFn x f).blocks) : ∃ a ∈ f.blocks, b.ins = a.ins ∨ ∃ v, b.ins = copyT v v :: a.ins := by
  unfold selfFn at h
  split at h
  · simp only [List.mem_map] at h
    obtain ⟨a, ha, rfl⟩ := h
    exact ⟨a, ha, .inr ⟨_, rfl⟩⟩
  · exact ⟨b, h, .inl rfl⟩
theorem good_self {x : Int} (hx : 0 ≤ x) {f : Fn} {i nw : Int} (h : oneB f i nw = true) (hg : FnGood f i nw) (hl : ∀ b ∈ f.blocks, b.ins.length ≤ 120) : FnGood (selfFn x f) i nw := by
  refine good_mk (one_self hx h) (by rw [self_len]; exact hg.pos.2) (fun b hb => ?_) fun b hb t ht => ?_
  · obtain ⟨a, ha, e | ⟨v, e⟩⟩ := self_ins hb
    · rw [e]; exact hg.len a ha
    · rw [e]; have := hl a ha; simp; omega
  · obtain ⟨a, ha, e | ⟨v, e⟩⟩ := self_ins hb
    · rw [e] at ht; exact (hg.fit a ha t ht).2
    · rw [e] at ht
      rcases List.mem_cons.1 ht with rfl | ht
      · exact U0
      · exact (hg.fit a ha t ht).2
theorem self_fits {x : Int} {f : Fn} (h : f.fits) (hl : ∀ b ∈ f.blocks, b.ins.length ≤ 120) : (selfFn x f).fits := ⟨by rw [self_len]; exact h.1, fun b hb => by
  obtain ⟨a, ha, e | ⟨v, e⟩⟩ := self_ins hb
  · refine ⟨?_⟩
    rw [e]; exact (h.2 a ha).1
  · refine ⟨?_⟩
    rw [e]; have := hl a ha; simp [big]; omega⟩
theorem small_ins {f : Fn} (h : smallB f = true) : ∀ b ∈ f.blocks, b.ins.length ≤ 120 := by
  obtain ⟨n, bs, rfl, _, _, hins, _, _⟩ := small_good h
  exact hins
/-- A function's row, with copies put in and forwarded. -/
abbrev rS (x : Int) (f : Fn) : List AV := rF (selfFn x f)
theorem rS_map (x : Int) (fs : List Fn) : ((fs.map (selfFn x)).map fwdFn).map Fn.row = fs.map (rS x) := by
  rw [rF_map, List.map_map]; rfl
theorem right_self {x : Int} (hx : 0 ≤ x) {nw : Int} {fs : List Fn} (h : RightP nw fs) : RightP nw (fs.map (selfFn x)) :=
  ⟨h.1, h.2.1, fun e => h.2.2.1 (List.map_eq_nil_iff.1 e), fun i f hf => by
    rw [List.getElem?_map] at hf
    cases hg : fs[i]? with
    | none => rw [hg] at hf; cases hf
    | some g => rw [hg] at hf; cases hf; exact one_self hx (h.2.2.2 i g hg)⟩
/-- All that is wanted of both runs. -/
theorem self_runs {nw fuel x : Int} {fs : List Fn} {inp : ByteArray} (hx : 0 ≤ x) (h : RightP nw fs) (hl : fs.length ≤ 1048576) (hw : ∀ f ∈ fs, f.wf 1048576) (hs : ∀ f ∈ fs, smallB f = true) (hi : inp.size ≤ 1048576) (f0 : 0 ≤ fuel) (f1 : fuel < 256) :
    ∃ (A : Int) (B : ByteArray) (C A' : Int) (B' : ByteArray) (C' : Int), (lim Try.prog E31 X31).dat 20 [.agg [iv nw, .sl false 2 (fs.map Fn.row)], .sc (.string inp), iv fuel] = some [.agg [iv A, .sc (.string B), iv C]] ∧
      (lim Try.prog E31 X31).dat 20 [.agg [iv nw, .sl false 2 (fs.map (rS x))], .sc (.string inp), iv (2 * fuel + 2)] = some [.agg [iv A', .sc (.string B'), iv C']] ∧ (A = 5 ∨ (A' = A ∧ B' = B)) := by
  have h20 := d20 ⟨nw, fs, inp, fuel⟩ ⟨h.2.1, hi, by show fuel ≤ _; omega⟩ h.1 f0 (List.length_pos_iff.2 h.2.2.1) hl (good_all h hw)
  have hgs : ∀ (i : Nat) g, (fs.map (selfFn x))[i]? = some g → FnGood g i nw := fun i g hg => by
    rw [List.getElem?_map] at hg
    cases hg2 : fs[i]? with
    | none => rw [hg2] at hg; cases hg
    | some f =>
      rw [hg2] at hg; cases hg
      exact good_self hx (h.2.2.2 i f hg2) (good_all h hw i f hg2) (small_ins (hs f (List.mem_of_getElem? hg2)))
  have hrs := right_self hx h
  have h20c := d20 ⟨nw, (fs.map (selfFn x)).map fwdFn, inp, 2 * fuel + 2⟩ ⟨h.2.1, hi, by show 2 * fuel + 2 ≤ _; omega⟩ h.1 (by show 0 ≤ 2 * fuel + 2; omega) (by rw [List.length_map, List.length_map]; exact List.length_pos_iff.2 h.2.2.1) (by simpa using hl) fun i g hg => by
    rw [List.getElem?_map] at hg
    cases hg2 : (fs.map (selfFn x))[i]? with
    | none => rw [hg2] at hg; cases hg
    | some f =>
      rw [hg2] at hg; cases hg
      exact good_fwd (hrs.2.2.2 i f hg2) (hgs i f hg2)
  rw [run_fwdS (fs := fs.map (selfFn x)) fun g hm => by
    obtain ⟨i, hi⟩ := List.getElem?_of_mem hm
    exact okS_of (hrs.2.2.2 i g hi) (hgs i g hi)] at h20c
  rw [rS_map] at h20c
  refine ⟨_, _, _, _, _, _, h20, h20c, ?_⟩
  rcases run_two (nw := nw) (x := x) (fs := fs) (inp := inp) f0 with r | ⟨r1, r2⟩
  · left; rw [r]; rfl
  · right; rw [r1, r2]; exact ⟨rfl, rfl⟩
end Go.Proofs.Ytmfhdhiaokejdaa

namespace Go.Proofs.Ytmfhdhiaokejdaa
open Go Go.Ab
set_option linter.unusedSimpArgs false
set_option linter.unusedVariables false
theorem rem_nat {x : Int} {n : Nat} (hx : 0 ≤ x) (hn : 0 < n) : ∃ V : Nat, x.tmod (n : Int) = V ∧ V < n := by
  have h1 : 0 ≤ x.tmod (n : Int) := Int.tmod_nonneg _ hx
  have h2 : x.tmod (n : Int) < n := Int.tmod_lt_of_pos _ (by omega)
  exact ⟨(x.tmod (n : Int)).toNat, by omega, by omega⟩
set_option maxHeartbeats 16000000 in
theorem d9 (nw : Int) (fs : List Fn) (inp : ByteArray) (x y : Int) (hl : fs.length ≤ 1048576) (hf : ∀ f ∈ fs, f.wf 1048576) (hi : inp.size ≤ 1048576) (hx0 : 0 ≤ x) (hx1 : x < 256) (hy0 : 0 ≤ y) (hy1 : y < 256) : (lim Try.prog E31 X31).dat 9 [.agg [iv nw, .sl false 2 (fs.map Fn.row)], .sc (.string inp), .agg [.sc (.int .u8 x), .sc (.int .u8 y)]] = some [bv true] := by
  refine fnW Try.func9 rfl rfl bodyOk_9 rfl rtys_9 rfl ?_
  have h19 := d19 nw fs hl fun f hm => fn_fits (hf f hm)
  by_cases hA : fs.length ≤ 6 ∧ nw ≤ 100 ∧ inp.size ≤ 60 ∧ rightB nw fs = true
  · obtain ⟨hA1, hA2, hA3, hR⟩ := hA
    rw [hR] at h19
    have hRP : RightP nw fs := by unfold rightB at hR; simpa using hR
    have n1 : ¬ (6 : Int) < fs.length := by omega
    have n2 : ¬ (100 : Int) < nw := by omega
    have n3 : ¬ (60 : Int) < inp.size := by omega
    have n4 : ¬ 6 < fs.length := by omega
    have n5 : ¬ 60 < inp.size := by omega
    have hwx : IntKind.i64.wrap x = x := wrap64 (by omega) (by omega)
    have hwy : IntKind.i64.wrap y = y := wrap64 (by omega) (by omega)
    have hwy2 : IntKind.i64.wrap (2 * y) = 2 * y := wrap64 (by omega) (by omega)
    have hwy3 : IntKind.i64.wrap (2 * y + 2) = 2 * y + 2 := wrap64 (by omega) (by omega)
    have Hf := Lib.hid hf
    have HR := Lib.hid hRP
    clear hf hR hRP
    repeat' (first
      | ((with_reducible apply Wo_u); (conv => lhs; simp -implicitDefEqProofs [*]) <;> exact rfl)
      | ((with_reducible apply Wo_n); (conv => lhs; simp -implicitDefEqProofs [*]) <;> exact rfl)
      | (with_reducible apply Wo_nil)
      | ((with_reducible apply Wo_gt); (exact rfl); ((conv => lhs; simp -implicitDefEqProofs [*]) <;> exact rfl); (conv => lhs; simp -implicitDefEqProofs [*]) <;> exact rfl)
      | ((with_reducible apply Wo_gf); (exact rfl); ((conv => lhs; simp -implicitDefEqProofs [*]) <;> exact rfl); (exact rfl))
      | ((with_reducible apply Wo_gx); (exact rfl); ((conv => lhs; simp -implicitDefEqProofs [*]) <;> exact rfl))
      | ((with_reducible apply Wo_gsT); (exact rfl); ((conv => lhs; simp -implicitDefEqProofs [*]) <;> exact rfl))
      | ((with_reducible apply Wo_gsF); (exact rfl); ((conv => lhs; simp -implicitDefEqProofs [*]) <;> exact rfl))
      | ((with_reducible apply ex2); (conv => lhs; simp -implicitDefEqProofs [*]) <;> exact rfl)
      | (with_reducible apply W_ss) | (with_reducible apply W_srl) | (with_reducible apply W_rl)
      | ((with_reducible apply W_sc); (conv => lhs; simp -implicitDefEqProofs [*]) <;> exact rfl)
      | ((with_reducible apply W_c); (conv => lhs; simp -implicitDefEqProofs [*]) <;> exact rfl)
      | ((with_reducible apply W_srdl); kernel_rfl) | ((with_reducible apply W_rdl); kernel_rfl)
      | ((with_reducible apply Wd_u); (conv => lhs; simp -implicitDefEqProofs [*]) <;> exact rfl)
      | ((with_reducible apply Wd_n); (conv => lhs; simp -implicitDefEqProofs [*]) <;> exact rfl)
      | ((with_reducible apply Wd_nil); exact rfl)
      | ((with_reducible apply Wd_gsT); (exact rfl); ((conv => lhs; simp -implicitDefEqProofs [*]) <;> exact rfl))
      | ((with_reducible apply Wd_gsF); (exact rfl); ((conv => lhs; simp -implicitDefEqProofs [*]) <;> exact rfl))
      | ((with_reducible apply ex4); (conv => lhs; simp -implicitDefEqProofs [*]) <;> exact rfl)
      | (with_reducible apply W_sblock) | (with_reducible apply W_block) | (with_reducible apply W_sskip) | (with_reducible apply W_skip) | (with_reducible apply W_sret) | (with_reducible apply W_ret) | (with_reducible apply W_sexit) | (with_reducible apply W_exit)
      | (with_reducible apply thenW_n) | (with_reducible apply thenW_r) | (with_reducible apply thenW_e) | (with_reducible apply inB_n) | (with_reducible apply inB_r) | (with_reducible apply inB_e) | ((with_reducible apply inB_o); rotate_left; exact rfl)
      | ((with_reducible apply EndQ_ret); (conv => lhs; simp -implicitDefEqProofs [*]) <;> exact rfl) | ((with_reducible apply EndQ_normal); (conv => lhs; simp -implicitDefEqProofs [*]) <;> exact rfl)
      | (intro h h'; try simp [*, -h] at h'))
    refine W_loopS (n := fs.length) (fun s0 m s => ∃ k g : Nat, m = fs.length - k ∧ k ≤ fs.length ∧ s.fr 8 = iv k ∧ s.fr 1 = s0.fr 1 ∧ s.fr 3 = s0.fr 3 ∧ s.fr 5 = s0.fr 5 ∧ s.fr 7 = s0.fr 7 ∧ s.hp ⟨0, 3, 0⟩ = s0.hp ⟨0, 3, 0⟩ ∧ s.hp ⟨0, 5, 0⟩ = s0.hp ⟨0, 5, 0⟩ ∧ s.hp ⟨0, 7, 0⟩ = .box (s0.hp ⟨0, 7, 0⟩).gen [iv nw, .own ⟨0, 7, 2⟩ g k] false ∧ s.hp ⟨0, 7, 2⟩ = .arr g 2 24 (preK (fs.map (rS x)) k) false ∧ ∀ (i : Nat) f, i < k → fs[i]? = some f → smallB f = true) ⟨0, 2, by simp, by omega, by simp, by simp, by simp, by simp, by simp, by simp, by simp, by simp, by simp [preK_zero], by intro i f h; omega⟩ ?_
    rintro m ⟨fr, hp⟩ ⟨k, g, rfl, hk, hs8, hs1, hs3, hs5, hs7, hh3, hh5, hh7, hh72, hsm⟩
    simp at hs8 hs1 hs3 hs5 hs7 hh3 hh5 hh7 hh72
    have HS := Lib.hid hsm
    clear hsm
    have hl1 := preK_len (l := fs.map (rS x)) (k := k) (by simpa using hk)
    by_cases hlt : k < fs.length
    · have hw := wrapN (k := k) (by omega)
      have hg := List.getElem?_eq_getElem hlt
      have hmem := List.getElem_mem hlt
      have h11 := d11 fs[k] (fn_fits (Hf.out _ hmem))
      have hone0 := HR.out.2.2.2 k _ hg
      have hpre : ∀ f, fs[k]? = some f → preK (fs.map (rS x)) k ++ [rS x f] = preK (fs.map (rS x)) (k + 1) := fun f h => preK_succ (by rw [List.getElem?_map, h]; rfl)
      generalize hf0 : fs[k] = f at hg hmem h11 hone0
      have hfe : ∀ h, fs[k]'h = f := fun _ => hf0
      have hp1 := hpre f hg
      by_cases hs : smallB f = true
      · have HS2 : RowKit.Hid (∀ (i : Nat) f, i < k + 1 → fs[i]? = some f → smallB f = true) := Lib.hid fun i f' hi hif => by
          by_cases e : i = k
          · subst e; rw [hg] at hif; cases hif; exact hs
          · exact HS.out i f' (by omega) hif
        obtain ⟨n, bs, rfl, hn, hbs, hins, hok, hone⟩ := small_good hs
        rw [hs] at h11
        have hself := one_self hx0 hone0
        obtain ⟨_, _, _, hokS⟩ := one_okR hself
        rw [self_regs] at hokS
        have h13 := d13 n (selfFn x ⟨n, bs⟩).blocks (by omega) (by rw [self_len]; show bs.length ≤ _; omega) (fun b hb => by
          obtain ⟨a, ha, e | ⟨v, e⟩⟩ := self_ins hb
          · rw [e]; have := hins a ha; omega
          · rw [e]; have := hins a ha; simp; omega) (by simpa using hokS)
        have hsl : (selfFn x ⟨n, bs⟩).blocks.length = bs.length := self_len
        have hrs : rS x ⟨n, bs⟩ = [iv n, .sl false 5 ((selfFn x ⟨n, bs⟩).blocks.map (gB n))] := by simp only [rS, rF, self_regs]
        rw [hrs] at hp1
        have htk : ((selfFn x ⟨n, bs⟩).blocks.map (gB n)).take bs.length = (selfFn x ⟨n, bs⟩).blocks.map (gB n) := List.take_of_length_le (by simp [hsl])
        have hby : (k + 1) * 32 ≤ 140737488355328 := by omega
        have hby2 : k ≤ 9223372036854775806 := by omega
        have hblk : ∀ (j : Nat) b, bs[j]? = some b → (selfFn x ⟨n, bs⟩).blocks[j]? = some (if 0 < n then selfBlk (x.tmod n) b else b) := fun j b hb => by
          by_cases hp : 0 < n
          · rw [self_pos (f := ⟨n, bs⟩) (by show (0 : Int) < n; omega), if_pos hp]
            simp only [List.getElem?_map, hb, Option.map_some]
          · rw [self_zero (f := ⟨n, bs⟩) (by show ¬ (0 : Int) < n; omega), if_neg hp]
            exact hb
        have HB := Lib.hid hblk
        have HI := Lib.hid hins
        clear hins hok hone hs hpre hmem hf0 hone0 hself hokS hrs HS hblk
        generalize (selfFn x ⟨n, bs⟩).blocks = sb at h13 hp1 htk hsl HB
        repeat' (first
          | ((with_reducible apply Wo_u); (conv => lhs; simp -implicitDefEqProofs [*]) <;> exact rfl)
          | ((with_reducible apply Wo_n); (conv => lhs; simp -implicitDefEqProofs [*]) <;> exact rfl)
          | (with_reducible apply Wo_nil)
          | ((with_reducible apply Wo_gt); (exact rfl); ((conv => lhs; simp -implicitDefEqProofs [*]) <;> exact rfl); (conv => lhs; simp -implicitDefEqProofs [*]) <;> exact rfl)
          | ((with_reducible apply Wo_gf); (exact rfl); ((conv => lhs; simp -implicitDefEqProofs [*]) <;> exact rfl); (exact rfl))
          | ((with_reducible apply Wo_gx); (exact rfl); ((conv => lhs; simp -implicitDefEqProofs [*]) <;> exact rfl))
          | ((with_reducible apply Wo_gsT); (exact rfl); ((conv => lhs; simp -implicitDefEqProofs [*]) <;> exact rfl))
          | ((with_reducible apply Wo_gsF); (exact rfl); ((conv => lhs; simp -implicitDefEqProofs [*]) <;> exact rfl))
          | ((with_reducible apply ex2); (conv => lhs; simp -implicitDefEqProofs [*]) <;> exact rfl)
          | (with_reducible apply W_ss) | (with_reducible apply W_srl) | (with_reducible apply W_rl)
          | ((with_reducible apply W_sc); (conv => lhs; simp -implicitDefEqProofs [*]) <;> exact rfl)
          | ((with_reducible apply W_c); (conv => lhs; simp -implicitDefEqProofs [*]) <;> exact rfl)
          | ((with_reducible apply W_srdl); kernel_rfl) | ((with_reducible apply W_rdl); kernel_rfl)
          | ((with_reducible apply Wd_u); (conv => lhs; simp -implicitDefEqProofs [*]) <;> exact rfl)
          | ((with_reducible apply Wd_n); (conv => lhs; simp -implicitDefEqProofs [*]) <;> exact rfl)
          | ((with_reducible apply Wd_nil); exact rfl)
          | ((with_reducible apply Wd_gsT); (exact rfl); ((conv => lhs; simp -implicitDefEqProofs [*]) <;> exact rfl))
          | ((with_reducible apply Wd_gsF); (exact rfl); ((conv => lhs; simp -implicitDefEqProofs [*]) <;> exact rfl))
          | ((with_reducible apply ex4); (conv => lhs; simp -implicitDefEqProofs [*]) <;> exact rfl)
          | (with_reducible apply W_sblock) | (with_reducible apply W_block) | (with_reducible apply W_sskip) | (with_reducible apply W_skip) | (with_reducible apply W_sret) | (with_reducible apply W_ret) | (with_reducible apply W_sexit) | (with_reducible apply W_exit)
          | (with_reducible apply thenW_n) | (with_reducible apply thenW_r) | (with_reducible apply thenW_e) | (with_reducible apply inB_n) | (with_reducible apply inB_r) | (with_reducible apply inB_e) | ((with_reducible apply inB_o); rotate_left; exact rfl)
          | ((with_reducible apply EndQ_ret); (conv => lhs; simp -implicitDefEqProofs [*]) <;> exact rfl) | ((with_reducible apply EndQ_normal); (conv => lhs; simp -implicitDefEqProofs [*]) <;> exact rfl)
          | (intro h h'; try simp [*, -h] at h'))
        refine W_loopS (n := bs.length) (fun s0 m s => ∃ j g2 : Nat, m = bs.length - j ∧ j ≤ bs.length ∧ s.fr 10 = iv j ∧ s.fr 1 = s0.fr 1 ∧ s.fr 3 = s0.fr 3 ∧ s.fr 5 = s0.fr 5 ∧ s.fr 7 = s0.fr 7 ∧ s.fr 8 = s0.fr 8 ∧ s.fr 9 = s0.fr 9 ∧ s.hp ⟨0, 3, 0⟩ = s0.hp ⟨0, 3, 0⟩ ∧ s.hp ⟨0, 5, 0⟩ = s0.hp ⟨0, 5, 0⟩ ∧ s.hp ⟨0, 7, 0⟩ = s0.hp ⟨0, 7, 0⟩ ∧ s.hp ⟨0, 7, 2⟩ = s0.hp ⟨0, 7, 2⟩ ∧ s.hp ⟨0, 9, 0⟩ = .box (s0.hp ⟨0, 9, 0⟩).gen [iv n, .own ⟨0, 9, 2⟩ g2 j] false ∧ s.hp ⟨0, 9, 2⟩ = .arr g2 5 37 (preK (sb.map Blk.row) j) false) ⟨0, (hp ⟨0, 9, 2⟩).gen + 2, by simp, by omega, by simp, by simp, by simp, by simp, by simp, by simp, by simp, by simp, by simp, by simp, by simp, by simp, by simp [preK_zero]⟩ ?_
        rintro m ⟨fr2, hp2⟩ ⟨j, g2, rfl, hj, is10, is1, is3, is5, is7, is8, is9, ih3, ih5, ih7, ih72, ih9, ih92⟩
        simp at is10 is1 is3 is5 is7 is8 is9 ih3 ih5 ih7 ih72 ih9 ih92
        have hl2 := preK_len (l := sb.map Blk.row) (k := j) (by simp [hsl, hj])
        by_cases hlj : j < bs.length
        · have hwj := wrapN (k := j) (by omega)
          have hgj := List.getElem?_eq_getElem hlj
          have hbj := HB.out j _ hgj
          have hij := HI.out _ (List.getElem_mem hlj)
          have hby4 : (j + 1) * 56 ≤ 140737488355328 := by omega
          have hby5 : j ≤ 9223372036854775806 := by omega
          have hby6 : (1 + bs[j].ins.length) * 64 ≤ 140737488355328 := by omega
          have hby7 : (bs[j].ins.length + 1) * 64 ≤ 140737488355328 := by omega
          have hby8 : 1 + bs[j].ins.length ≤ 9223372036854775807 := by omega
          by_cases hnp : 0 < n
          · have hnI : (0 : Int) < n := by omega
            have hnz : ¬ n = 0 := by omega
            rw [if_pos hnp] at hbj
            obtain ⟨V, hV, hVn⟩ := rem_nat hx0 hnp
            rw [hV] at hbj
            have hpj : preK (sb.map Blk.row) j ++ [(selfBlk V bs[j]).row] = preK (sb.map Blk.row) (j + 1) := preK_succ (by rw [List.getElem?_map, hbj]; rfl)
            simp only [selfBlk, copyT, Blk.row, List.map_cons, Tac.row] at hpj
            have hcm : 1 + bs[j].ins.length = bs[j].ins.length + 1 := by omega
            have hby9 : bs[j].ins.length + 1 ≤ 9223372036854775807 := by omega
            have hby10 : bs[j].ins.length ≤ 9223372036854775806 := by omega
            have htk4 : (bs[j].ins.map Tac.row).take bs[j].ins.length = bs[j].ins.map Tac.row := List.take_of_length_le (by simp)
            have htk3 : ∀ a : List AV, (a :: bs[j].ins.map Tac.row).take (1 + bs[j].ins.length) = a :: bs[j].ins.map Tac.row := fun a => List.take_of_length_le (by simp; omega)
            repeat' (first
              | ((with_reducible apply Wo_u); (conv => lhs; simp -implicitDefEqProofs [*]) <;> exact rfl)
              | ((with_reducible apply Wo_n); (conv => lhs; simp -implicitDefEqProofs [*]) <;> exact rfl)
              | (with_reducible apply Wo_nil)
              | ((with_reducible apply Wo_gt); (exact rfl); ((conv => lhs; simp -implicitDefEqProofs [*]) <;> exact rfl); (conv => lhs; simp -implicitDefEqProofs [*]) <;> exact rfl)
              | ((with_reducible apply Wo_gf); (exact rfl); ((conv => lhs; simp -implicitDefEqProofs [*]) <;> exact rfl); (exact rfl))
              | ((with_reducible apply Wo_gx); (exact rfl); ((conv => lhs; simp -implicitDefEqProofs [*]) <;> exact rfl))
              | ((with_reducible apply Wo_gsT); (exact rfl); ((conv => lhs; simp -implicitDefEqProofs [*]) <;> exact rfl))
              | ((with_reducible apply Wo_gsF); (exact rfl); ((conv => lhs; simp -implicitDefEqProofs [*]) <;> exact rfl))
              | ((with_reducible apply ex2); (conv => lhs; simp -implicitDefEqProofs [*]) <;> exact rfl)
              | (with_reducible apply W_ss) | (with_reducible apply W_srl) | (with_reducible apply W_rl)
              | ((with_reducible apply W_sc); (conv => lhs; simp -implicitDefEqProofs [*]) <;> exact rfl)
              | ((with_reducible apply W_c); (conv => lhs; simp -implicitDefEqProofs [*]) <;> exact rfl)
              | ((with_reducible apply W_srdl); kernel_rfl) | ((with_reducible apply W_rdl); kernel_rfl)
              | ((with_reducible apply Wd_u); (conv => lhs; simp -implicitDefEqProofs [*]) <;> exact rfl)
              | ((with_reducible apply Wd_n); (conv => lhs; simp -implicitDefEqProofs [*]) <;> exact rfl)
              | ((with_reducible apply Wd_nil); exact rfl)
              | ((with_reducible apply Wd_gsT); (exact rfl); ((conv => lhs; simp -implicitDefEqProofs [*]) <;> exact rfl))
              | ((with_reducible apply Wd_gsF); (exact rfl); ((conv => lhs; simp -implicitDefEqProofs [*]) <;> exact rfl))
              | ((with_reducible apply ex4); (conv => lhs; simp -implicitDefEqProofs [*]) <;> exact rfl)
              | (with_reducible apply W_sblock) | (with_reducible apply W_block) | (with_reducible apply W_sskip) | (with_reducible apply W_skip) | (with_reducible apply W_sret) | (with_reducible apply W_ret) | (with_reducible apply W_sexit) | (with_reducible apply W_exit)
              | (with_reducible apply thenW_n) | (with_reducible apply thenW_r) | (with_reducible apply thenW_e) | (with_reducible apply inB_n) | (with_reducible apply inB_r) | (with_reducible apply inB_e) | ((with_reducible apply inB_o); rotate_left; exact rfl)
              | ((with_reducible apply EndQ_ret); (conv => lhs; simp -implicitDefEqProofs [*]) <;> exact rfl) | ((with_reducible apply EndQ_normal); (conv => lhs; simp -implicitDefEqProofs [*]) <;> exact rfl)
              | (intro h h'; try simp [*, -h] at h'))
            exact ⟨_, by omega, j + 1, g2 + 1, rfl, hlj, by simp, by simp [*], by simp [*], by simp [*], by simp [*], by simp [*], by simp [*], by simp [*], by simp [*], by simp [*], by simp [*], by simp [*], by simp [*]⟩
          · have hnI : ¬ (0 : Int) < n := by omega
            have hnz : n = 0 := by omega
            subst hnz
            rw [if_neg hnp] at hbj
            have hpj : preK (sb.map Blk.row) j ++ [bs[j].row] = preK (sb.map Blk.row) (j + 1) := preK_succ (by rw [List.getElem?_map, hbj]; rfl)
            simp only [Blk.row] at hpj
            repeat' (first
              | ((with_reducible apply Wo_u); (conv => lhs; simp -implicitDefEqProofs [*]) <;> exact rfl)
              | ((with_reducible apply Wo_n); (conv => lhs; simp -implicitDefEqProofs [*]) <;> exact rfl)
              | (with_reducible apply Wo_nil)
              | ((with_reducible apply Wo_gt); (exact rfl); ((conv => lhs; simp -implicitDefEqProofs [*]) <;> exact rfl); (conv => lhs; simp -implicitDefEqProofs [*]) <;> exact rfl)
              | ((with_reducible apply Wo_gf); (exact rfl); ((conv => lhs; simp -implicitDefEqProofs [*]) <;> exact rfl); (exact rfl))
              | ((with_reducible apply Wo_gx); (exact rfl); ((conv => lhs; simp -implicitDefEqProofs [*]) <;> exact rfl))
              | ((with_reducible apply Wo_gsT); (exact rfl); ((conv => lhs; simp -implicitDefEqProofs [*]) <;> exact rfl))
              | ((with_reducible apply Wo_gsF); (exact rfl); ((conv => lhs; simp -implicitDefEqProofs [*]) <;> exact rfl))
              | ((with_reducible apply ex2); (conv => lhs; simp -implicitDefEqProofs [*]) <;> exact rfl)
              | (with_reducible apply W_ss) | (with_reducible apply W_srl) | (with_reducible apply W_rl)
              | ((with_reducible apply W_sc); (conv => lhs; simp -implicitDefEqProofs [*]) <;> exact rfl)
              | ((with_reducible apply W_c); (conv => lhs; simp -implicitDefEqProofs [*]) <;> exact rfl)
              | ((with_reducible apply W_srdl); kernel_rfl) | ((with_reducible apply W_rdl); kernel_rfl)
              | ((with_reducible apply Wd_u); (conv => lhs; simp -implicitDefEqProofs [*]) <;> exact rfl)
              | ((with_reducible apply Wd_n); (conv => lhs; simp -implicitDefEqProofs [*]) <;> exact rfl)
              | ((with_reducible apply Wd_nil); exact rfl)
              | ((with_reducible apply Wd_gsT); (exact rfl); ((conv => lhs; simp -implicitDefEqProofs [*]) <;> exact rfl))
              | ((with_reducible apply Wd_gsF); (exact rfl); ((conv => lhs; simp -implicitDefEqProofs [*]) <;> exact rfl))
              | ((with_reducible apply ex4); (conv => lhs; simp -implicitDefEqProofs [*]) <;> exact rfl)
              | (with_reducible apply W_sblock) | (with_reducible apply W_block) | (with_reducible apply W_sskip) | (with_reducible apply W_skip) | (with_reducible apply W_sret) | (with_reducible apply W_ret) | (with_reducible apply W_sexit) | (with_reducible apply W_exit)
              | (with_reducible apply thenW_n) | (with_reducible apply thenW_r) | (with_reducible apply thenW_e) | (with_reducible apply inB_n) | (with_reducible apply inB_r) | (with_reducible apply inB_e) | ((with_reducible apply inB_o); rotate_left; exact rfl)
              | ((with_reducible apply EndQ_ret); (conv => lhs; simp -implicitDefEqProofs [*]) <;> exact rfl) | ((with_reducible apply EndQ_normal); (conv => lhs; simp -implicitDefEqProofs [*]) <;> exact rfl)
              | (intro h h'; try simp [*, -h] at h'))
            exact ⟨_, by omega, j + 1, g2 + 1, rfl, hlj, by simp, by simp [*], by simp [*], by simp [*], by simp [*], by simp [*], by simp [*], by simp [*], by simp [*], by simp [*], by simp [*], by simp [*], by simp [*]⟩
        · obtain rfl : j = bs.length := by omega
          have hb1 : preK (sb.map Blk.row) bs.length = sb.map Blk.row := by have := preK_all (sb.map Blk.row); rwa [List.length_map, hsl] at this
          have hb2 : (sb.map Blk.row).take bs.length = sb.map Blk.row := List.take_of_length_le (by simp [hsl])
          repeat' (first
            | ((with_reducible apply Wo_u); (conv => lhs; simp -implicitDefEqProofs [*]) <;> exact rfl)
            | ((with_reducible apply Wo_n); (conv => lhs; simp -implicitDefEqProofs [*]) <;> exact rfl)
            | (with_reducible apply Wo_nil)
            | ((with_reducible apply Wo_gt); (exact rfl); ((conv => lhs; simp -implicitDefEqProofs [*]) <;> exact rfl); (conv => lhs; simp -implicitDefEqProofs [*]) <;> exact rfl)
            | ((with_reducible apply Wo_gf); (exact rfl); ((conv => lhs; simp -implicitDefEqProofs [*]) <;> exact rfl); (exact rfl))
            | ((with_reducible apply Wo_gx); (exact rfl); ((conv => lhs; simp -implicitDefEqProofs [*]) <;> exact rfl))
            | ((with_reducible apply Wo_gsT); (exact rfl); ((conv => lhs; simp -implicitDefEqProofs [*]) <;> exact rfl))
            | ((with_reducible apply Wo_gsF); (exact rfl); ((conv => lhs; simp -implicitDefEqProofs [*]) <;> exact rfl))
            | ((with_reducible apply ex2); (conv => lhs; simp -implicitDefEqProofs [*]) <;> exact rfl)
            | (with_reducible apply W_ss) | (with_reducible apply W_srl) | (with_reducible apply W_rl)
            | ((with_reducible apply W_sc); (conv => lhs; simp -implicitDefEqProofs [*]) <;> exact rfl)
            | ((with_reducible apply W_c); (conv => lhs; simp -implicitDefEqProofs [*]) <;> exact rfl)
            | ((with_reducible apply W_srdl); kernel_rfl) | ((with_reducible apply W_rdl); kernel_rfl)
            | ((with_reducible apply Wd_u); (conv => lhs; simp -implicitDefEqProofs [*]) <;> exact rfl)
            | ((with_reducible apply Wd_n); (conv => lhs; simp -implicitDefEqProofs [*]) <;> exact rfl)
            | ((with_reducible apply Wd_nil); exact rfl)
            | ((with_reducible apply Wd_gsT); (exact rfl); ((conv => lhs; simp -implicitDefEqProofs [*]) <;> exact rfl))
            | ((with_reducible apply Wd_gsF); (exact rfl); ((conv => lhs; simp -implicitDefEqProofs [*]) <;> exact rfl))
            | ((with_reducible apply ex4); (conv => lhs; simp -implicitDefEqProofs [*]) <;> exact rfl)
            | (with_reducible apply W_sblock) | (with_reducible apply W_block) | (with_reducible apply W_sskip) | (with_reducible apply W_skip) | (with_reducible apply W_sret) | (with_reducible apply W_ret) | (with_reducible apply W_sexit) | (with_reducible apply W_exit)
            | (with_reducible apply thenW_n) | (with_reducible apply thenW_r) | (with_reducible apply thenW_e) | (with_reducible apply inB_n) | (with_reducible apply inB_r) | (with_reducible apply inB_e) | ((with_reducible apply inB_o); rotate_left; exact rfl)
            | ((with_reducible apply EndQ_ret); (conv => lhs; simp -implicitDefEqProofs [*]) <;> exact rfl) | ((with_reducible apply EndQ_normal); (conv => lhs; simp -implicitDefEqProofs [*]) <;> exact rfl)
            | (intro h h'; try simp [*, -h] at h'))
          exact ⟨_, by omega, k + 1, g + 1, rfl, hlt, by simp, by simp [*], by simp [*], by simp [*], by simp [*], by simp [*], by simp [*], by simp [*], by simp [*], HS2.out⟩
      · rw [Bool.not_eq_true] at hs
        rw [hs] at h11
        clear hpre hmem hf0 hone0
        repeat' (first
          | ((with_reducible apply Wo_u); (conv => lhs; simp -implicitDefEqProofs [*]) <;> exact rfl)
          | ((with_reducible apply Wo_n); (conv => lhs; simp -implicitDefEqProofs [*]) <;> exact rfl)
          | (with_reducible apply Wo_nil)
          | ((with_reducible apply Wo_gt); (exact rfl); ((conv => lhs; simp -implicitDefEqProofs [*]) <;> exact rfl); (conv => lhs; simp -implicitDefEqProofs [*]) <;> exact rfl)
          | ((with_reducible apply Wo_gf); (exact rfl); ((conv => lhs; simp -implicitDefEqProofs [*]) <;> exact rfl); (exact rfl))
          | ((with_reducible apply Wo_gx); (exact rfl); ((conv => lhs; simp -implicitDefEqProofs [*]) <;> exact rfl))
          | ((with_reducible apply Wo_gsT); (exact rfl); ((conv => lhs; simp -implicitDefEqProofs [*]) <;> exact rfl))
          | ((with_reducible apply Wo_gsF); (exact rfl); ((conv => lhs; simp -implicitDefEqProofs [*]) <;> exact rfl))
          | ((with_reducible apply ex2); (conv => lhs; simp -implicitDefEqProofs [*]) <;> exact rfl)
          | (with_reducible apply W_ss) | (with_reducible apply W_srl) | (with_reducible apply W_rl)
          | ((with_reducible apply W_sc); (conv => lhs; simp -implicitDefEqProofs [*]) <;> exact rfl)
          | ((with_reducible apply W_c); (conv => lhs; simp -implicitDefEqProofs [*]) <;> exact rfl)
          | ((with_reducible apply W_srdl); kernel_rfl) | ((with_reducible apply W_rdl); kernel_rfl)
          | ((with_reducible apply Wd_u); (conv => lhs; simp -implicitDefEqProofs [*]) <;> exact rfl)
          | ((with_reducible apply Wd_n); (conv => lhs; simp -implicitDefEqProofs [*]) <;> exact rfl)
          | ((with_reducible apply Wd_nil); exact rfl)
          | ((with_reducible apply Wd_gsT); (exact rfl); ((conv => lhs; simp -implicitDefEqProofs [*]) <;> exact rfl))
          | ((with_reducible apply Wd_gsF); (exact rfl); ((conv => lhs; simp -implicitDefEqProofs [*]) <;> exact rfl))
          | ((with_reducible apply ex4); (conv => lhs; simp -implicitDefEqProofs [*]) <;> exact rfl)
          | (with_reducible apply W_sblock) | (with_reducible apply W_block) | (with_reducible apply W_sskip) | (with_reducible apply W_skip) | (with_reducible apply W_sret) | (with_reducible apply W_ret) | (with_reducible apply W_sexit) | (with_reducible apply W_exit)
          | (with_reducible apply thenW_n) | (with_reducible apply thenW_r) | (with_reducible apply thenW_e) | (with_reducible apply inB_n) | (with_reducible apply inB_r) | (with_reducible apply inB_e) | ((with_reducible apply inB_o); rotate_left; exact rfl)
          | ((with_reducible apply EndQ_ret); (conv => lhs; simp -implicitDefEqProofs [*]) <;> exact rfl) | ((with_reducible apply EndQ_normal); (conv => lhs; simp -implicitDefEqProofs [*]) <;> exact rfl)
          | (intro h h'; try simp [*, -h] at h'))
        simp [*]
    · obtain rfl : k = fs.length := by omega
      have ha1 : preK (fs.map (rS x)) fs.length = fs.map (rS x) := by have := preK_all (fs.map (rS x)); rwa [List.length_map] at this
      have htk : (fs.map (rS x)).take fs.length = fs.map (rS x) := List.take_of_length_le (by simp)
      obtain ⟨A, B, C, A', B', C', h20, h20c, hAB⟩ := self_runs (inp := inp) hx0 HR.out hl Hf.out (fun f hm => by
        obtain ⟨i, hi⟩ := List.getElem?_of_mem hm
        exact HS.out i f (List.getElem?_eq_some_iff.1 hi).1 hi) hi hy0 hy1
      rcases Classical.em (A = 5) with hA5 | hA5
      · subst hA5
        clear hAB
        repeat' (first
          | ((with_reducible apply Wo_u); (conv => lhs; simp -implicitDefEqProofs [*]) <;> exact rfl)
          | ((with_reducible apply Wo_n); (conv => lhs; simp -implicitDefEqProofs [*]) <;> exact rfl)
          | (with_reducible apply Wo_nil)
          | ((with_reducible apply Wo_gt); (exact rfl); ((conv => lhs; simp -implicitDefEqProofs [*]) <;> exact rfl); (conv => lhs; simp -implicitDefEqProofs [*]) <;> exact rfl)
          | ((with_reducible apply Wo_gf); (exact rfl); ((conv => lhs; simp -implicitDefEqProofs [*]) <;> exact rfl); (exact rfl))
          | ((with_reducible apply Wo_gx); (exact rfl); ((conv => lhs; simp -implicitDefEqProofs [*]) <;> exact rfl))
          | ((with_reducible apply Wo_gsT); (exact rfl); ((conv => lhs; simp -implicitDefEqProofs [*]) <;> exact rfl))
          | ((with_reducible apply Wo_gsF); (exact rfl); ((conv => lhs; simp -implicitDefEqProofs [*]) <;> exact rfl))
          | ((with_reducible apply ex2); (conv => lhs; simp -implicitDefEqProofs [*]) <;> exact rfl)
          | (with_reducible apply W_ss) | (with_reducible apply W_srl) | (with_reducible apply W_rl)
          | ((with_reducible apply W_sc); (conv => lhs; simp -implicitDefEqProofs [*]) <;> exact rfl)
          | ((with_reducible apply W_c); (conv => lhs; simp -implicitDefEqProofs [*]) <;> exact rfl)
          | ((with_reducible apply W_srdl); kernel_rfl) | ((with_reducible apply W_rdl); kernel_rfl)
          | ((with_reducible apply Wd_u); (conv => lhs; simp -implicitDefEqProofs [*]) <;> exact rfl)
          | ((with_reducible apply Wd_n); (conv => lhs; simp -implicitDefEqProofs [*]) <;> exact rfl)
          | ((with_reducible apply Wd_nil); exact rfl)
          | ((with_reducible apply Wd_gsT); (exact rfl); ((conv => lhs; simp -implicitDefEqProofs [*]) <;> exact rfl))
          | ((with_reducible apply Wd_gsF); (exact rfl); ((conv => lhs; simp -implicitDefEqProofs [*]) <;> exact rfl))
          | ((with_reducible apply ex4); (conv => lhs; simp -implicitDefEqProofs [*]) <;> exact rfl)
          | (with_reducible apply W_sblock) | (with_reducible apply W_block) | (with_reducible apply W_sskip) | (with_reducible apply W_skip) | (with_reducible apply W_sret) | (with_reducible apply W_ret) | (with_reducible apply W_sexit) | (with_reducible apply W_exit)
          | (with_reducible apply thenW_n) | (with_reducible apply thenW_r) | (with_reducible apply thenW_e) | (with_reducible apply inB_n) | (with_reducible apply inB_r) | (with_reducible apply inB_e) | ((with_reducible apply inB_o); rotate_left; exact rfl)
          | ((with_reducible apply EndQ_ret); (conv => lhs; simp -implicitDefEqProofs [*]) <;> exact rfl) | ((with_reducible apply EndQ_normal); (conv => lhs; simp -implicitDefEqProofs [*]) <;> exact rfl)
          | (intro h h'; try simp [*, -h] at h'))
        all_goals rfl
      · obtain ⟨rfl, rfl⟩ := hAB.resolve_left hA5
        clear hAB
        repeat' (first
          | ((with_reducible apply Wo_u); (conv => lhs; simp -implicitDefEqProofs [*]) <;> exact rfl)
          | ((with_reducible apply Wo_n); (conv => lhs; simp -implicitDefEqProofs [*]) <;> exact rfl)
          | (with_reducible apply Wo_nil)
          | ((with_reducible apply Wo_gt); (exact rfl); ((conv => lhs; simp -implicitDefEqProofs [*]) <;> exact rfl); (conv => lhs; simp -implicitDefEqProofs [*]) <;> exact rfl)
          | ((with_reducible apply Wo_gf); (exact rfl); ((conv => lhs; simp -implicitDefEqProofs [*]) <;> exact rfl); (exact rfl))
          | ((with_reducible apply Wo_gx); (exact rfl); ((conv => lhs; simp -implicitDefEqProofs [*]) <;> exact rfl))
          | ((with_reducible apply Wo_gsT); (exact rfl); ((conv => lhs; simp -implicitDefEqProofs [*]) <;> exact rfl))
          | ((with_reducible apply Wo_gsF); (exact rfl); ((conv => lhs; simp -implicitDefEqProofs [*]) <;> exact rfl))
          | ((with_reducible apply ex2); (conv => lhs; simp -implicitDefEqProofs [*]) <;> exact rfl)
          | (with_reducible apply W_ss) | (with_reducible apply W_srl) | (with_reducible apply W_rl)
          | ((with_reducible apply W_sc); (conv => lhs; simp -implicitDefEqProofs [*]) <;> exact rfl)
          | ((with_reducible apply W_c); (conv => lhs; simp -implicitDefEqProofs [*]) <;> exact rfl)
          | ((with_reducible apply W_srdl); kernel_rfl) | ((with_reducible apply W_rdl); kernel_rfl)
          | ((with_reducible apply Wd_u); (conv => lhs; simp -implicitDefEqProofs [*]) <;> exact rfl)
          | ((with_reducible apply Wd_n); (conv => lhs; simp -implicitDefEqProofs [*]) <;> exact rfl)
          | ((with_reducible apply Wd_nil); exact rfl)
          | ((with_reducible apply Wd_gsT); (exact rfl); ((conv => lhs; simp -implicitDefEqProofs [*]) <;> exact rfl))
          | ((with_reducible apply Wd_gsF); (exact rfl); ((conv => lhs; simp -implicitDefEqProofs [*]) <;> exact rfl))
          | ((with_reducible apply ex4); (conv => lhs; simp -implicitDefEqProofs [*]) <;> exact rfl)
          | (with_reducible apply W_sblock) | (with_reducible apply W_block) | (with_reducible apply W_sskip) | (with_reducible apply W_skip) | (with_reducible apply W_sret) | (with_reducible apply W_ret) | (with_reducible apply W_sexit) | (with_reducible apply W_exit)
          | (with_reducible apply thenW_n) | (with_reducible apply thenW_r) | (with_reducible apply thenW_e) | (with_reducible apply inB_n) | (with_reducible apply inB_r) | (with_reducible apply inB_e) | ((with_reducible apply inB_o); rotate_left; exact rfl)
          | ((with_reducible apply EndQ_ret); (conv => lhs; simp -implicitDefEqProofs [*]) <;> exact rfl) | ((with_reducible apply EndQ_normal); (conv => lhs; simp -implicitDefEqProofs [*]) <;> exact rfl)
          | (intro h h'; try simp [*, -h] at h'))
        all_goals rfl
  · have hN : rightB nw fs = false ∨ rightB nw fs = true := by cases rightB nw fs <;> simp
    rcases hN with hN | hN
    all_goals rw [hN] at h19
    all_goals have HA := Lib.hid hA
    all_goals clear hA
    all_goals
      repeat' (first
        | ((with_reducible apply Wo_u); (conv => lhs; simp -implicitDefEqProofs [*]) <;> exact rfl)
        | ((with_reducible apply Wo_n); (conv => lhs; simp -implicitDefEqProofs [*]) <;> exact rfl)
        | (with_reducible apply Wo_nil)
        | ((with_reducible apply Wo_gt); (exact rfl); ((conv => lhs; simp -implicitDefEqProofs [*]) <;> exact rfl); (conv => lhs; simp -implicitDefEqProofs [*]) <;> exact rfl)
        | ((with_reducible apply Wo_gf); (exact rfl); ((conv => lhs; simp -implicitDefEqProofs [*]) <;> exact rfl); (exact rfl))
        | ((with_reducible apply Wo_gx); (exact rfl); ((conv => lhs; simp -implicitDefEqProofs [*]) <;> exact rfl))
        | ((with_reducible apply Wo_gsT); (exact rfl); ((conv => lhs; simp -implicitDefEqProofs [*]) <;> exact rfl))
        | ((with_reducible apply Wo_gsF); (exact rfl); ((conv => lhs; simp -implicitDefEqProofs [*]) <;> exact rfl))
        | ((with_reducible apply ex2); (conv => lhs; simp -implicitDefEqProofs [*]) <;> exact rfl)
        | (with_reducible apply W_ss) | (with_reducible apply W_srl) | (with_reducible apply W_rl)
        | ((with_reducible apply W_sc); (conv => lhs; simp -implicitDefEqProofs [*]) <;> exact rfl)
        | ((with_reducible apply W_c); (conv => lhs; simp -implicitDefEqProofs [*]) <;> exact rfl)
        | ((with_reducible apply W_srdl); kernel_rfl) | ((with_reducible apply W_rdl); kernel_rfl)
        | ((with_reducible apply Wd_u); (conv => lhs; simp -implicitDefEqProofs [*]) <;> exact rfl)
        | ((with_reducible apply Wd_n); (conv => lhs; simp -implicitDefEqProofs [*]) <;> exact rfl)
        | ((with_reducible apply Wd_nil); exact rfl)
        | ((with_reducible apply Wd_gsT); (exact rfl); ((conv => lhs; simp -implicitDefEqProofs [*]) <;> exact rfl))
        | ((with_reducible apply Wd_gsF); (exact rfl); ((conv => lhs; simp -implicitDefEqProofs [*]) <;> exact rfl))
        | ((with_reducible apply ex4); (conv => lhs; simp -implicitDefEqProofs [*]) <;> exact rfl)
        | (with_reducible apply W_sblock) | (with_reducible apply W_block) | (with_reducible apply W_sskip) | (with_reducible apply W_skip) | (with_reducible apply W_sret) | (with_reducible apply W_ret) | (with_reducible apply W_sexit) | (with_reducible apply W_exit)
        | (with_reducible apply thenW_n) | (with_reducible apply thenW_r) | (with_reducible apply thenW_e) | (with_reducible apply inB_n) | (with_reducible apply inB_r) | (with_reducible apply inB_e) | ((with_reducible apply inB_o); rotate_left; exact rfl)
        | ((with_reducible apply EndQ_ret); (conv => lhs; simp -implicitDefEqProofs [*]) <;> exact rfl) | ((with_reducible apply EndQ_normal); (conv => lhs; simp -implicitDefEqProofs [*]) <;> exact rfl)
        | (intro h h'; try simp [*, -h] at h'))
    all_goals first
      | rfl
      | (exfalso; refine HA.out ⟨?_, ?_, ?_, hN⟩ <;> (simp at *; omega))
end Go.Proofs.Ytmfhdhiaokejdaa

namespace Go.Proofs.Ytmfhdhiaokejdaa
open Go Go.Ab Go.ChangeShapes Go.WideShapes Go.ChangeAt Go.RowKit
set_option linter.unusedSimpArgs false
set_option linter.unusedVariables false
theorem contract9 {call : Orc} (hC : DatOk Try.prog call) (hall : ∀ (x0 : Prg) (x1 : ByteArray) (x2 : (Int × Int)), x0.wf 1048576 → x1.size ≤ 1048576 → ((Lit.int .u8 x2.1).wf = true ∧ (Lit.int .u8 x2.2).wf = true) → call.dat 9 [.agg x0.row, .sc (.string x1), .agg [.sc (.int .u8 x2.1), .sc (.int .u8 x2.2)]] = some [.sc (.bool true)]) (H : Type) (enc : TypeId × Value → H) (W : World) (base : Nat) (args : Array Value) (ds gs : List (DataW H)) (before : List MemPlace)
    (hval : ∀ (j : Nat) t v, Try.f9.params[j]? = some t → args[j]? = some v → Value.okWide Try.prog W .any base t v)
    (hW : DataW.Whole enc Try.prog Try.f9.params.toList Rows.forwardSelfSpec.vars false W args.toList ds gs before) (hk : Rows.uptoSmall H (ds ++ gs) = true) :
    Calls Try.prog 9 args W fun e W' => ∃ v, e = .returned v ∧ Rows.forwardSelfSpec.post enc Try.prog Try.f9 false true false false W args v W' := by
  have hW' := hW
  obtain ⟨p, q, hA0, hV, rfl, hfz, hnd⟩ := hW
  have hA : DataW.TrodAll enc Try.prog W 0 (fun _ => true) true Try.f9.params.toList args.toList ds p := hA0
  rw [Try.params9] at hA hval
  obtain ⟨v0, vs0, d0, ds0, p0, q0, hargs, rfl, rfl, h0, r0⟩ := trodAll_cons hA
  obtain ⟨v1, vs1, d1, ds1, p1, q1, rfl, rfl, rfl, h1, r1⟩ := trodAll_cons r0
  obtain ⟨v2, vs2, d2, ds2, p2, q2, rfl, rfl, rfl, h2, r2⟩ := trodAll_cons r1
  obtain ⟨rfl, rfl, rfl⟩ := trodAll_nil r2
  obtain rfl : args = #[v0, v1, v2] := by cases args; simp_all
  obtain ⟨rfl, rfl⟩ := trodVars_none hV
  have hkk := of_decide_eq_true hk
  simp only [List.append_nil, Rows.uptoBulkAll] at hkk
  obtain ⟨cs0, rfl, hcs0⟩ := okWide_struct Try.underlying44 (hval 0 44 v0 rfl rfl)
  obtain ⟨fuel0, hf0⟩ := h0
  obtain ⟨x0, hr0, hw0⟩ := reads_prg (N := 1048576) fuel0 _ _ hf0 (by show Rows.uptoBulk d0 ≤ _; omega)
  obtain ⟨z1, rfl⟩ := okWide_string Try.underlying9 (hval 1 9 v1 rfl rfl)
  obtain ⟨fuel1, hf1⟩ := h1
  obtain ⟨x1, hr1, hw1⟩ := reads_string (N := 1048576) Try.underlying9 fuel1 _ _ hf1 (by show Rows.uptoBulk d1 ≤ _; omega)
  simp [RepDL, Value.cells] at hr1
  obtain ⟨cs2, rfl, hcs2⟩ := okWide_array Try.underlying51 (hval 2 51 v2 rfl rfl)
  obtain ⟨fuel2, hf2⟩ := h2
  obtain ⟨x2, hr2, hw2⟩ := reads_two (N := 1048576) fuel2 _ _ hf2 (by show Rows.uptoBulk d2 ≤ _; omega)
  have hd := hC 9 [.agg x0.row, .sc (.string x1), .agg [.sc (.int .u8 x2.1), .sc (.int .u8 x2.2)]] _ (hall x0 x1 x2 hw0 hw1 hw2) okFn_9 (There W) W [.agg cs0, .string z1, .agg cs2] (fun b h => h) (.cons ⟨cs0.toList, rfl, hr0⟩ (.cons hr1 (.cons ⟨cs2.toList, rfl, hr2⟩ .nil)))
  refine hd.mono fun e W' ⟨u, he, hp⟩ => ?_
  subst he
  rw [rtys_9] at hp
  obtain rfl := callPost_true isAggB_4 hp
  exact ⟨_, rfl, law_post hW' rfl laidOut31 (by rw [Try.params9]; intro t ht; simp at ht; rcases ht with rfl | rfl | rfl <;> first | exact ⟨rd44, lt44⟩ | exact ⟨rd9, lt9⟩ | exact ⟨rd51, lt51⟩) (by kernel_rfl) Try.underlying4 rfl (callPost_below hp)⟩
set_option maxRecDepth 100000 in
theorem lifted9 {call : Orc} (hC : DatOk Try.prog call) (hall : ∀ (x0 : Prg) (x1 : ByteArray) (x2 : (Int × Int)), x0.wf 1048576 → x1.size ≤ 1048576 → ((Lit.int .u8 x2.1).wf = true ∧ (Lit.int .u8 x2.2).wf = true) → call.dat 9 [.agg x0.row, .sc (.string x1), .agg [.sc (.int .u8 x2.1), .sc (.int .u8 x2.2)]] = some [.sc (.bool true)]) (os : Os) (started : os.Started) (H : Type) (enc : TypeId × Value → H) (F : Stop.Interp) :
    ReturnsInHanded {} Try.checked os 9 .any ((Rows.OpenSpec.upto Rows.forwardSelfSpec).pre6 enc Try.prog Try.f9 Rows.forwardSelfUptoRow.domain false) (((Rows.OpenSpec.upto Rows.forwardSelfSpec).at F).post enc Try.prog Try.f9 false true false false) := by
  refine returnsInHanded_of_cond (C := Try.checked) (s := Rows.OpenSpec.upto Rows.forwardSelfSpec) (k := Rows.uptoSmall) rfl own31 started (by kernel_rfl) Try.func9
    (OpenSpec.witness (enc := enc) (C := Try.checked) (s := Rows.OpenSpec.upto Rows.forwardSelfSpec) (k := Rows.uptoSmall) rfl false ⟨#[], #[.agg #[.int .i64 0, .slice none 0 0], .string ⟨#[]⟩, .agg #[.int .u8 0, .int .u8 0]], []⟩ 8 (by kernel_rfl) (by kernel_rfl) (by kernel_rfl)
      (x := ([.agg [.lit (.int .i64 0), .nil], .lit (.string []), .agg [.lit (.int .u8 0), .lit (.int .u8 0)]], [], [])) (by kernel_rfl) rfl (by kernel_rfl)) ?_
  intro W base args ds gs before hval hW _ hk _
  exact contract9 hC hall H enc W base args ds gs before hval hW hk
theorem said9 {call : Orc} (hC : DatOk Try.prog call) (hall : ∀ (x0 : Prg) (x1 : ByteArray) (x2 : (Int × Int)), x0.wf 1048576 → x1.size ≤ 1048576 → ((Lit.int .u8 x2.1).wf = true ∧ (Lit.int .u8 x2.2).wf = true) → call.dat 9 [.agg x0.row, .sc (.string x1), .agg [.sc (.int .u8 x2.1), .sc (.int .u8 x2.2)]] = some [.sc (.bool true)]) : Rows.ForwardSelfUptoSaid :=
  OpenClaim.holds_of_cond 9 Try.f9 rfl rfl rfl rfl rfl rfl rfl ⟨rfl, rfl, rfl, rfl, rfl⟩ rfl rfl rfl rfl rfl (by kernel_rfl) Try.func9 (by kernel_rfl)
    (of_decide_eq_true (by kernel_rfl)) (by unfold Func.isWrapper; first | (rw [if_pos (by decide +kernel)]; kernel_rfl) | (rw [if_neg (by decide +kernel)]; exact ⟨rfl, rfl⟩))
    (fun os started H enc _ F => lifted9 hC hall os started H enc F)
end Go.Proofs.Ytmfhdhiaokejdaa

namespace Go.Proofs.Ytmfhdhiaokejdaa
open Go Go.Ab
set_option linter.unusedSimpArgs false
set_option linter.unusedVariables false
theorem self_holds : Rows.ForwardSelfUptoSaid := said9 L31_ok fun p inp two hp hi hw => by
  obtain ⟨h1, h2⟩ := u8_range hw.1
  obtain ⟨h3, h4⟩ := u8_range hw.2
  exact d9 p.nw p.fs inp two.1 two.2 hp.fs.1 hp.fs.2 hi h1 h2 h3 h4
end Go.Proofs.Ytmfhdhiaokejdaa
