/- A part of the proof: Vm, Vn, Vo. -/
import Derived.Test.YtaeeffddinppeaaGreatDoorC33
import Derived.Test.YtaeeffddinppeaaGreatDoorC30
import Derived.Test.YtaeeffddinppeaaGreatDoorC23
import Derived.Test.YtaeeffddinppeaaGreatDoorC27
set_option linter.unusedSimpArgs false
set_option linter.unusedVariables false
namespace Go.Proofs.YtaeeffddinppeaaGreatDoor
open Go Go.Ab
structure Sim (s : MS) (p : Ma.PS) : Prop where
  pc : p.pc = s.pc
  rl : p.rg.length = 16
  rv : ∀ a, a < 16 → p.rg.getD a 0 = s.R a
  out : p.out = s.out
  en : p.en = s.en
theorem Sim.reg {s : MS} {p : Ma.PS} (h : Sim s p) (a : Nat) (ha : a < 16) : p.reg (a : Int) = s.R a := h.rv a ha
theorem sim_set {s : MS} {p : Ma.PS} (h : Sim s p) (k : Nat) (a : Nat) (ha : a < 16) (x : Int) : Sim (sR s a x) (({ p with steps := k } : Ma.PS).setR (a : Int) x) where
  pc := by show p.pc + 1 = ((s.pc + 1 : Nat) : Int); rw [h.pc]; omega
  rl := by show (p.rg.set _ x).length = 16; rw [List.length_set]; exact h.rl
  rv := fun b hb => by
    show (p.rg.set a x).getD b 0 = setR s.R a x b
    rw [List.getD_eq_getElem?_getD]
    by_cases e : b = a
    · subst e
      rw [List.getElem?_set_self (by rw [h.rl]; exact ha), setR_same]
      rfl
    · rw [List.getElem?_set_ne (Ne.symm e), setR_ne _ _ e, ← List.getD_eq_getElem?_getD]
      exact h.rv b hb
  out := h.out
  en := h.en
theorem sim_put {s : MS} {p : Ma.PS} (h : Sim s p) (k : Nat) (a : Nat) (ha : a < 16) : Sim (pO s a) { p with steps := k, out := p.out ++ [p.reg (a : Int) % 256], pc := p.pc + 1 } where
  pc := by show p.pc + 1 = ((s.pc + 1 : Nat) : Int); rw [h.pc]; omega
  rl := h.rl
  rv := h.rv
  out := by show p.out ++ [p.reg (a : Int) % 256] = s.out ++ [s.R a % 256]; rw [h.out, h.reg a ha]
  en := h.en
theorem sim_call {s : MS} {p : Ma.PS} (h : Sim s p) (k : Nat) (hp : s.pc < 28) : Sim (cL s) { p with steps := k, rg := p.rg.set 15 ((p.pc + 1) % 4294967296), pc := 19 } where
  pc := rfl
  rl := by show (p.rg.set _ _).length = 16; rw [List.length_set]; exact h.rl
  rv := fun b hb => by
    show (p.rg.set 15 ((p.pc + 1) % 4294967296)).getD b 0 = setR s.R 15 ((s.pc : Int) + 1) b
    rw [List.getD_eq_getElem?_getD]
    by_cases e : b = 15
    · subst e
      rw [List.getElem?_set_self (by rw [h.rl]; decide), setR_same, h.pc]
      show ((s.pc : Int) + 1) % 4294967296 = (s.pc : Int) + 1
      omega
    · rw [List.getElem?_set_ne (Ne.symm e), setR_ne _ _ e, ← List.getD_eq_getElem?_getD]
      exact h.rv b hb
  out := h.out
  en := h.en
theorem sim_goto {s : MS} {p : Ma.PS} (h : Sim s p) (k m q : Nat) : Sim { s with steps := m, pc := q } { p with steps := k, pc := (q : Int) } := ⟨rfl, h.rl, h.rv, h.out, h.en⟩
theorem sim_stop {s : MS} {p : Ma.PS} (h : Sim s p) (k m : Nat) : Sim { s with steps := m, en := 1 } { p with steps := k, en := 1 } := ⟨h.pc, h.rl, h.rv, h.out, rfl⟩
theorem step_word {code : List Int} {inp : Ma.Inp} {p : Ma.PS} {i : Ma.Ins} (w : Int) (hp : 0 ≤ p.pc) (hc : code[p.pc.toNat]? = some w) (hi : Ma.insW w = i) (hr : Ma.rightI i = true) : Ma.stepP code inp p = Ma.doP code inp { p with steps := p.steps + 1 } i := by
  unfold Ma.stepP
  rw [if_neg (by omega), hc]
  show (if Ma.rightI (Ma.insW w) = true then Ma.doP code inp { p with steps := p.steps + 1 } (Ma.insW w) else { p with steps := p.steps + 1, en := 6 }) = _
  rw [hi, hr, if_pos rfl]
theorem mir_word (l : List Int) (k : Nat) (w : Int) (h : (mcode ((28 + l.length : Nat) : Int))[k]? = some w) : (mirC l)[k]? = some w := by
  unfold mirC
  rw [List.getElem?_append_left ((List.getElem?_eq_some_iff.1 h).1)]
  exact h
end Go.Proofs.YtaeeffddinppeaaGreatDoor
namespace Go.Proofs.YtaeeffddinppeaaGreatDoor
open Go Go.Ab
section
variable {code : List Int} {inp : Ma.Inp} {q : Ma.PS} {a b c : Int}
theorem do_1 : Ma.doP code inp q ⟨1, a, b, c⟩ = q.setR a c := rfl
theorem do_3 : Ma.doP code inp q ⟨3, a, b, c⟩ = q.setR a (q.reg b) := rfl
theorem do_4 : Ma.doP code inp q ⟨4, a, b, c⟩ = q.setR a ((q.reg b + q.reg c) % 4294967296) := rfl
theorem do_13 : Ma.doP code inp q ⟨13, a, b, c⟩ = q.setR a (if 31 < q.reg c then 0 else q.reg b / 2 ^ (q.reg c).toNat) := rfl
theorem do_14 : Ma.doP code inp q ⟨14, a, b, c⟩ = q.setR a (if q.reg b < q.reg c then 1 else 0) := rfl
theorem do_20 : Ma.doP code inp q ⟨20, a, b, c⟩ = q.goto (if q.reg a ≠ 0 then c else q.pc + 1) := rfl
theorem do_21 : Ma.doP code inp q ⟨21, a, b, c⟩ = { q with rg := q.rg.set a.toNat ((q.pc + 1) % 4294967296), pc := c } := rfl
theorem do_22 : Ma.doP code inp q ⟨22, a, b, c⟩ = q.goto (q.reg a) := rfl
theorem do_24 (h : q.out.length < 65536) : Ma.doP code inp q ⟨24, a, b, c⟩ = { q with out := q.out ++ [q.reg a % 256], pc := q.pc + 1 } := by
  show (if 65536 ≤ q.out.length then q.stop 4 else { q with out := q.out ++ [q.reg a % 256], pc := q.pc + 1 }) = _
  rw [if_neg (by omega)]
theorem do_26 : Ma.doP code inp q ⟨26, a, b, c⟩ = q.stop 1 := rfl
theorem do_27 {x : Int} (h : code[((q.reg b + c) % 4294967296).toNat]? = some x) : Ma.doP code inp q ⟨27, a, b, c⟩ = q.setR a x := by
  show code[((q.reg b + c) % 4294967296).toNat]?.elim (q.stop 8) (fun x => q.setR a x) = _
  rw [h]
  rfl
end
theorem right9 (l : List Int) (hl : l.length ≤ 60) : Ma.rightI ⟨1, 4, 0, ((28 + l.length : Nat) : Int)⟩ = true := by
  have h9 : ((28 + l.length : Nat) : Int) ≤ 65535 := by omega
  have h9b : (0 : Int) ≤ ((28 + l.length : Nat) : Int) := by omega
  simp only [Ma.rightI, Ma.hasA, Ma.hasB, Ma.kC, Ma.wi]
  simp [-Int.natCast_add, h9, h9b]
theorem sim_0 (l : List Int) (hl : l.length ≤ 60) (inp : Ma.Inp) {s : MS} {p : Ma.PS} (hk : s.pc = 0) (hs : Ok l s) (h : Sim s p) : Sim (nx l s) (Ma.stepP (mirC l) inp p) := by
  have hp := h.pc
  obtain ⟨hen, hpc, hst, hout, h1, h2, h3, h4, h7, h13, h8, h27⟩ := hs
  have hw : (mirC l)[p.pc.toNat]? = some 17825875 := by rw [hp, hk]; exact mir_word l 0 17825875 rfl
  rw [step_word (i := ⟨1, 1, 0, 83⟩) 17825875 (by omega) hw (by simp [Ma.insW]) (by decide)]
  simp only [nx, hk]
  rw [do_1]
  exact sim_set h _ 1 (by decide) _
theorem sim_1 (l : List Int) (hl : l.length ≤ 60) (inp : Ma.Inp) {s : MS} {p : Ma.PS} (hk : s.pc = 1) (hs : Ok l s) (h : Sim s p) : Sim (nx l s) (Ma.stepP (mirC l) inp p) := by
  have hp := h.pc
  obtain ⟨hen, hpc, hst, hout, h1, h2, h3, h4, h7, h13, h8, h27⟩ := hs
  have hw : (mirC l)[p.pc.toNat]? = some 403701760 := by rw [hp, hk]; exact mir_word l 1 403701760 rfl
  rw [step_word (i := ⟨24, 1, 0, 0⟩) 403701760 (by omega) hw (by simp [Ma.insW]) (by decide)]
  simp only [nx, hk]
  rw [do_24 (by show p.out.length < 65536; rw [h.out]; omega)]
  exact sim_put h _ 1 (by decide)
theorem sim_2 (l : List Int) (hl : l.length ≤ 60) (inp : Ma.Inp) {s : MS} {p : Ma.PS} (hk : s.pc = 2) (hs : Ok l s) (h : Sim s p) : Sim (nx l s) (Ma.stepP (mirC l) inp p) := by
  have hp := h.pc
  obtain ⟨hen, hpc, hst, hout, h1, h2, h3, h4, h7, h13, h8, h27⟩ := hs
  have hw : (mirC l)[p.pc.toNat]? = some 17825861 := by rw [hp, hk]; exact mir_word l 2 17825861 rfl
  rw [step_word (i := ⟨1, 1, 0, 69⟩) 17825861 (by omega) hw (by simp [Ma.insW]) (by decide)]
  simp only [nx, hk]
  rw [do_1]
  exact sim_set h _ 1 (by decide) _
theorem sim_3 (l : List Int) (hl : l.length ≤ 60) (inp : Ma.Inp) {s : MS} {p : Ma.PS} (hk : s.pc = 3) (hs : Ok l s) (h : Sim s p) : Sim (nx l s) (Ma.stepP (mirC l) inp p) := by
  have hp := h.pc
  obtain ⟨hen, hpc, hst, hout, h1, h2, h3, h4, h7, h13, h8, h27⟩ := hs
  have hw : (mirC l)[p.pc.toNat]? = some 403701760 := by rw [hp, hk]; exact mir_word l 3 403701760 rfl
  rw [step_word (i := ⟨24, 1, 0, 0⟩) 403701760 (by omega) hw (by simp [Ma.insW]) (by decide)]
  simp only [nx, hk]
  rw [do_24 (by show p.out.length < 65536; rw [h.out]; omega)]
  exact sim_put h _ 1 (by decide)
theorem sim_4 (l : List Int) (hl : l.length ≤ 60) (inp : Ma.Inp) {s : MS} {p : Ma.PS} (hk : s.pc = 4) (hs : Ok l s) (h : Sim s p) : Sim (nx l s) (Ma.stepP (mirC l) inp p) := by
  have hp := h.pc
  obtain ⟨hen, hpc, hst, hout, h1, h2, h3, h4, h7, h13, h8, h27⟩ := hs
  have hw : (mirC l)[p.pc.toNat]? = some 403701760 := by rw [hp, hk]; exact mir_word l 4 403701760 rfl
  rw [step_word (i := ⟨24, 1, 0, 0⟩) 403701760 (by omega) hw (by simp [Ma.insW]) (by decide)]
  simp only [nx, hk]
  rw [do_24 (by show p.out.length < 65536; rw [h.out]; omega)]
  exact sim_put h _ 1 (by decide)
theorem sim_5 (l : List Int) (hl : l.length ≤ 60) (inp : Ma.Inp) {s : MS} {p : Ma.PS} (hk : s.pc = 5) (hs : Ok l s) (h : Sim s p) : Sim (nx l s) (Ma.stepP (mirC l) inp p) := by
  have hp := h.pc
  obtain ⟨hen, hpc, hst, hout, h1, h2, h3, h4, h7, h13, h8, h27⟩ := hs
  have hw : (mirC l)[p.pc.toNat]? = some 17825860 := by rw [hp, hk]; exact mir_word l 5 17825860 rfl
  rw [step_word (i := ⟨1, 1, 0, 68⟩) 17825860 (by omega) hw (by simp [Ma.insW]) (by decide)]
  simp only [nx, hk]
  rw [do_1]
  exact sim_set h _ 1 (by decide) _
theorem sim_6 (l : List Int) (hl : l.length ≤ 60) (inp : Ma.Inp) {s : MS} {p : Ma.PS} (hk : s.pc = 6) (hs : Ok l s) (h : Sim s p) : Sim (nx l s) (Ma.stepP (mirC l) inp p) := by
  have hp := h.pc
  obtain ⟨hen, hpc, hst, hout, h1, h2, h3, h4, h7, h13, h8, h27⟩ := hs
  have hw : (mirC l)[p.pc.toNat]? = some 403701760 := by rw [hp, hk]; exact mir_word l 6 403701760 rfl
  rw [step_word (i := ⟨24, 1, 0, 0⟩) 403701760 (by omega) hw (by simp [Ma.insW]) (by decide)]
  simp only [nx, hk]
  rw [do_24 (by show p.out.length < 65536; rw [h.out]; omega)]
  exact sim_put h _ 1 (by decide)
theorem sim_7 (l : List Int) (hl : l.length ≤ 60) (inp : Ma.Inp) {s : MS} {p : Ma.PS} (hk : s.pc = 7) (hs : Ok l s) (h : Sim s p) : Sim (nx l s) (Ma.stepP (mirC l) inp p) := by
  have hp := h.pc
  obtain ⟨hen, hpc, hst, hout, h1, h2, h3, h4, h7, h13, h8, h27⟩ := hs
  have hw : (mirC l)[p.pc.toNat]? = some 25165832 := by rw [hp, hk]; exact mir_word l 7 25165832 rfl
  rw [step_word (i := ⟨1, 8, 0, 8⟩) 25165832 (by omega) hw (by simp [Ma.insW]) (by decide)]
  simp only [nx, hk]
  rw [do_1]
  exact sim_set h _ 8 (by decide) _
theorem sim_8 (l : List Int) (hl : l.length ≤ 60) (inp : Ma.Inp) {s : MS} {p : Ma.PS} (hk : s.pc = 8) (hs : Ok l s) (h : Sim s p) : Sim (nx l s) (Ma.stepP (mirC l) inp p) := by
  have hp := h.pc
  obtain ⟨hen, hpc, hst, hout, h1, h2, h3, h4, h7, h13, h8, h27⟩ := hs
  have hw : (mirC l)[p.pc.toNat]? = some 24117249 := by rw [hp, hk]; exact mir_word l 8 24117249 rfl
  rw [step_word (i := ⟨1, 7, 0, 1⟩) 24117249 (by omega) hw (by simp [Ma.insW]) (by decide)]
  simp only [nx, hk]
  rw [do_1]
  exact sim_set h _ 7 (by decide) _
theorem sim_9 (l : List Int) (hl : l.length ≤ 60) (inp : Ma.Inp) {s : MS} {p : Ma.PS} (hk : s.pc = 9) (hs : Ok l s) (h : Sim s p) : Sim (nx l s) (Ma.stepP (mirC l) inp p) := by
  have hp := h.pc
  obtain ⟨hen, hpc, hst, hout, h1, h2, h3, h4, h7, h13, h8, h27⟩ := hs
  have hw : (mirC l)[p.pc.toNat]? = some (Ins.enc ⟨1, 4, 0, ((28 + l.length : Nat) : Int)⟩) := by rw [hp, hk]; exact mir_word l 9 (Ins.enc ⟨1, 4, 0, ((28 + l.length : Nat) : Int)⟩) rfl
  rw [step_word (i := ⟨1, 4, 0, ((28 + l.length : Nat) : Int)⟩) (Ins.enc ⟨1, 4, 0, ((28 + l.length : Nat) : Int)⟩) (by omega) hw (by unfold Ma.insW Ins.enc; simp only; congr 1 <;> omega) (right9 l hl)]
  simp only [nx, hk]
  rw [do_1]
  exact sim_set h _ 4 (by decide) _
theorem sim_10 (l : List Int) (hl : l.length ≤ 60) (inp : Ma.Inp) {s : MS} {p : Ma.PS} (hk : s.pc = 10) (hs : Ok l s) (h : Sim s p) : Sim (nx l s) (Ma.stepP (mirC l) inp p) := by
  have hp := h.pc
  obtain ⟨hen, hpc, hst, hout, h1, h2, h3, h4, h7, h13, h8, h27⟩ := hs
  have hw : (mirC l)[p.pc.toNat]? = some 52690944 := by rw [hp, hk]; exact mir_word l 10 52690944 rfl
  rw [step_word (i := ⟨3, 2, 4, 0⟩) 52690944 (by omega) hw (by simp [Ma.insW]) (by decide)]
  simp only [nx, hk]
  rw [do_3]
  have e : ({ p with steps := p.steps + 1 } : Ma.PS).reg 4 = s.R 4 := h.reg 4 (by decide)
  rw [e]
  exact sim_set h _ 2 (by decide) _
theorem sim_11 (l : List Int) (hl : l.length ≤ 60) (inp : Ma.Inp) {s : MS} {p : Ma.PS} (hk : s.pc = 11) (hs : Ok l s) (h : Sim s p) : Sim (nx l s) (Ma.stepP (mirC l) inp p) := by
  have hp := h.pc
  obtain ⟨hen, hpc, hst, hout, h1, h2, h3, h4, h7, h13, h8, h27⟩ := hs
  have hw : (mirC l)[p.pc.toNat]? = some 368050195 := by rw [hp, hk]; exact mir_word l 11 368050195 rfl
  rw [step_word (i := ⟨21, 15, 0, 19⟩) 368050195 (by omega) hw (by simp [Ma.insW]) (by decide)]
  simp only [nx, hk]
  rw [do_21]
  have hh := sim_call h (p.steps + 1) hpc
  exact hh
theorem sim_12 (l : List Int) (hl : l.length ≤ 60) (inp : Ma.Inp) {s : MS} {p : Ma.PS} (hk : s.pc = 12) (hs : Ok l s) (h : Sim s p) : Sim (nx l s) (Ma.stepP (mirC l) inp p) := by
  have hp := h.pc
  obtain ⟨hen, hpc, hst, hout, h1, h2, h3, h4, h7, h13, h8, h27⟩ := hs
  have hw : (mirC l)[p.pc.toNat]? = some 368050195 := by rw [hp, hk]; exact mir_word l 12 368050195 rfl
  rw [step_word (i := ⟨21, 15, 0, 19⟩) 368050195 (by omega) hw (by simp [Ma.insW]) (by decide)]
  simp only [nx, hk]
  rw [do_21]
  have hh := sim_call h (p.steps + 1) hpc
  exact hh
theorem sim_13 (l : List Int) (hl : l.length ≤ 60) (inp : Ma.Inp) {s : MS} {p : Ma.PS} (hk : s.pc = 13) (hs : Ok l s) (h : Sim s p) : Sim (nx l s) (Ma.stepP (mirC l) inp p) := by
  have hp := h.pc
  obtain ⟨hen, hpc, hst, hout, h1, h2, h3, h4, h7, h13, h8, h27⟩ := hs
  have hw : (mirC l)[p.pc.toNat]? = some 455278592 := by rw [hp, hk]; exact mir_word l 13 455278592 rfl
  rw [step_word (i := ⟨27, 2, 3, 0⟩) 455278592 (by omega) hw (by simp [Ma.insW]) (by decide)]
  simp only [nx, hk]
  obtain ⟨j, hj, hjl⟩ := h13 hk
  have e : ({ p with steps := p.steps + 1 } : Ma.PS).reg 3 = s.R 3 := h.reg 3 (by decide)
  have hlen := mirC_len l
  rw [do_27 (x := (mirC l).getD (s.R 3).toNat 0) (by
    rw [e, hj, show (((j : Int) + 0) % 4294967296).toNat = j by omega, show ((j : Int)).toNat = j by omega, List.getD_eq_getElem?_getD, List.getElem?_eq_getElem hjl]
    rfl)]
  exact sim_set h _ 2 (by decide) _
theorem sim_14 (l : List Int) (hl : l.length ≤ 60) (inp : Ma.Inp) {s : MS} {p : Ma.PS} (hk : s.pc = 14) (hs : Ok l s) (h : Sim s p) : Sim (nx l s) (Ma.stepP (mirC l) inp p) := by
  have hp := h.pc
  obtain ⟨hen, hpc, hst, hout, h1, h2, h3, h4, h7, h13, h8, h27⟩ := hs
  have hw : (mirC l)[p.pc.toNat]? = some 368050195 := by rw [hp, hk]; exact mir_word l 14 368050195 rfl
  rw [step_word (i := ⟨21, 15, 0, 19⟩) 368050195 (by omega) hw (by simp [Ma.insW]) (by decide)]
  simp only [nx, hk]
  rw [do_21]
  have hh := sim_call h (p.steps + 1) hpc
  exact hh
theorem sim_15 (l : List Int) (hl : l.length ≤ 60) (inp : Ma.Inp) {s : MS} {p : Ma.PS} (hk : s.pc = 15) (hs : Ok l s) (h : Sim s p) : Sim (nx l s) (Ma.stepP (mirC l) inp p) := by
  have hp := h.pc
  obtain ⟨hen, hpc, hst, hout, h1, h2, h3, h4, h7, h13, h8, h27⟩ := hs
  have hw : (mirC l)[p.pc.toNat]? = some 70451207 := by rw [hp, hk]; exact mir_word l 15 70451207 rfl
  rw [step_word (i := ⟨4, 3, 3, 7⟩) 70451207 (by omega) hw (by simp [Ma.insW]) (by decide)]
  simp only [nx, hk]
  rw [do_4]
  have e : ({ p with steps := p.steps + 1 } : Ma.PS).reg 3 = s.R 3 := h.reg 3 (by decide)
  have e2 : ({ p with steps := p.steps + 1 } : Ma.PS).reg 7 = s.R 7 := h.reg 7 (by decide)
  rw [e, e2]
  exact sim_set h _ 3 (by decide) _
theorem sim_16 (l : List Int) (hl : l.length ≤ 60) (inp : Ma.Inp) {s : MS} {p : Ma.PS} (hk : s.pc = 16) (hs : Ok l s) (h : Sim s p) : Sim (nx l s) (Ma.stepP (mirC l) inp p) := by
  have hp := h.pc
  obtain ⟨hen, hpc, hst, hout, h1, h2, h3, h4, h7, h13, h8, h27⟩ := hs
  have hw : (mirC l)[p.pc.toNat]? = some 240320516 := by rw [hp, hk]; exact mir_word l 16 240320516 rfl
  rw [step_word (i := ⟨14, 5, 3, 4⟩) 240320516 (by omega) hw (by simp [Ma.insW]) (by decide)]
  simp only [nx, hk]
  rw [do_14]
  have e : ({ p with steps := p.steps + 1 } : Ma.PS).reg 3 = s.R 3 := h.reg 3 (by decide)
  have e2 : ({ p with steps := p.steps + 1 } : Ma.PS).reg 4 = s.R 4 := h.reg 4 (by decide)
  rw [e, e2]
  exact sim_set h _ 5 (by decide) _
theorem sim_17 (l : List Int) (hl : l.length ≤ 60) (inp : Ma.Inp) {s : MS} {p : Ma.PS} (hk : s.pc = 17) (hs : Ok l s) (h : Sim s p) : Sim (nx l s) (Ma.stepP (mirC l) inp p) := by
  have hp := h.pc
  obtain ⟨hen, hpc, hst, hout, h1, h2, h3, h4, h7, h13, h8, h27⟩ := hs
  have hw : (mirC l)[p.pc.toNat]? = some 340787213 := by rw [hp, hk]; exact mir_word l 17 340787213 rfl
  rw [step_word (i := ⟨20, 5, 0, 13⟩) 340787213 (by omega) hw (by simp [Ma.insW]) (by decide)]
  simp only [nx, hk]
  rw [do_20]
  have e : ({ p with steps := p.steps + 1 } : Ma.PS).reg 5 = s.R 5 := h.reg 5 (by decide)
  rw [e]
  by_cases h0 : s.R 5 = 0
  · rw [if_neg (by simp [h0]), if_neg (by simp [h0])]
    have := sim_goto h (p.steps + 1) (s.steps + 1) (17 + 1)
    unfold Ma.PS.goto
    simp only [hp, hk]
    exact this
  · rw [if_pos h0, if_pos h0]
    exact sim_goto h _ _ 13
theorem sim_18 (l : List Int) (hl : l.length ≤ 60) (inp : Ma.Inp) {s : MS} {p : Ma.PS} (hk : s.pc = 18) (hs : Ok l s) (h : Sim s p) : Sim (nx l s) (Ma.stepP (mirC l) inp p) := by
  have hp := h.pc
  obtain ⟨hen, hpc, hst, hout, h1, h2, h3, h4, h7, h13, h8, h27⟩ := hs
  have hw : (mirC l)[p.pc.toNat]? = some 436207616 := by rw [hp, hk]; exact mir_word l 18 436207616 rfl
  rw [step_word (i := ⟨26, 0, 0, 0⟩) 436207616 (by omega) hw (by simp [Ma.insW]) (by decide)]
  simp only [nx, hk]
  rw [do_26]
  have hx := sim_stop h (p.steps + 1) (s.steps + 1)
  rw [hk] at hx
  exact hx
theorem sim_19 (l : List Int) (hl : l.length ≤ 60) (inp : Ma.Inp) {s : MS} {p : Ma.PS} (hk : s.pc = 19) (hs : Ok l s) (h : Sim s p) : Sim (nx l s) (Ma.stepP (mirC l) inp p) := by
  have hp := h.pc
  obtain ⟨hen, hpc, hst, hout, h1, h2, h3, h4, h7, h13, h8, h27⟩ := hs
  have hw : (mirC l)[p.pc.toNat]? = some 404750336 := by rw [hp, hk]; exact mir_word l 19 404750336 rfl
  rw [step_word (i := ⟨24, 2, 0, 0⟩) 404750336 (by omega) hw (by simp [Ma.insW]) (by decide)]
  simp only [nx, hk]
  rw [do_24 (by show p.out.length < 65536; rw [h.out]; omega)]
  exact sim_put h _ 2 (by decide)
theorem sim_20 (l : List Int) (hl : l.length ≤ 60) (inp : Ma.Inp) {s : MS} {p : Ma.PS} (hk : s.pc = 20) (hs : Ok l s) (h : Sim s p) : Sim (nx l s) (Ma.stepP (mirC l) inp p) := by
  have hp := h.pc
  obtain ⟨hen, hpc, hst, hout, h1, h2, h3, h4, h7, h13, h8, h27⟩ := hs
  have hw : (mirC l)[p.pc.toNat]? = some 220332040 := by rw [hp, hk]; exact mir_word l 20 220332040 rfl
  rw [step_word (i := ⟨13, 2, 2, 8⟩) 220332040 (by omega) hw (by simp [Ma.insW]) (by decide)]
  simp only [nx, hk]
  rw [do_13]
  have e : ({ p with steps := p.steps + 1 } : Ma.PS).reg 2 = s.R 2 := h.reg 2 (by decide)
  have e2 : ({ p with steps := p.steps + 1 } : Ma.PS).reg 8 = s.R 8 := h.reg 8 (by decide)
  rw [e, e2, h8 (by omega), if_neg (by decide)]
  exact sim_set h _ 2 (by decide) _
theorem sim_21 (l : List Int) (hl : l.length ≤ 60) (inp : Ma.Inp) {s : MS} {p : Ma.PS} (hk : s.pc = 21) (hs : Ok l s) (h : Sim s p) : Sim (nx l s) (Ma.stepP (mirC l) inp p) := by
  have hp := h.pc
  obtain ⟨hen, hpc, hst, hout, h1, h2, h3, h4, h7, h13, h8, h27⟩ := hs
  have hw : (mirC l)[p.pc.toNat]? = some 404750336 := by rw [hp, hk]; exact mir_word l 21 404750336 rfl
  rw [step_word (i := ⟨24, 2, 0, 0⟩) 404750336 (by omega) hw (by simp [Ma.insW]) (by decide)]
  simp only [nx, hk]
  rw [do_24 (by show p.out.length < 65536; rw [h.out]; omega)]
  exact sim_put h _ 2 (by decide)
theorem sim_22 (l : List Int) (hl : l.length ≤ 60) (inp : Ma.Inp) {s : MS} {p : Ma.PS} (hk : s.pc = 22) (hs : Ok l s) (h : Sim s p) : Sim (nx l s) (Ma.stepP (mirC l) inp p) := by
  have hp := h.pc
  obtain ⟨hen, hpc, hst, hout, h1, h2, h3, h4, h7, h13, h8, h27⟩ := hs
  have hw : (mirC l)[p.pc.toNat]? = some 220332040 := by rw [hp, hk]; exact mir_word l 22 220332040 rfl
  rw [step_word (i := ⟨13, 2, 2, 8⟩) 220332040 (by omega) hw (by simp [Ma.insW]) (by decide)]
  simp only [nx, hk]
  rw [do_13]
  have e : ({ p with steps := p.steps + 1 } : Ma.PS).reg 2 = s.R 2 := h.reg 2 (by decide)
  have e2 : ({ p with steps := p.steps + 1 } : Ma.PS).reg 8 = s.R 8 := h.reg 8 (by decide)
  rw [e, e2, h8 (by omega), if_neg (by decide)]
  exact sim_set h _ 2 (by decide) _
theorem sim_23 (l : List Int) (hl : l.length ≤ 60) (inp : Ma.Inp) {s : MS} {p : Ma.PS} (hk : s.pc = 23) (hs : Ok l s) (h : Sim s p) : Sim (nx l s) (Ma.stepP (mirC l) inp p) := by
  have hp := h.pc
  obtain ⟨hen, hpc, hst, hout, h1, h2, h3, h4, h7, h13, h8, h27⟩ := hs
  have hw : (mirC l)[p.pc.toNat]? = some 404750336 := by rw [hp, hk]; exact mir_word l 23 404750336 rfl
  rw [step_word (i := ⟨24, 2, 0, 0⟩) 404750336 (by omega) hw (by simp [Ma.insW]) (by decide)]
  simp only [nx, hk]
  rw [do_24 (by show p.out.length < 65536; rw [h.out]; omega)]
  exact sim_put h _ 2 (by decide)
theorem sim_24 (l : List Int) (hl : l.length ≤ 60) (inp : Ma.Inp) {s : MS} {p : Ma.PS} (hk : s.pc = 24) (hs : Ok l s) (h : Sim s p) : Sim (nx l s) (Ma.stepP (mirC l) inp p) := by
  have hp := h.pc
  obtain ⟨hen, hpc, hst, hout, h1, h2, h3, h4, h7, h13, h8, h27⟩ := hs
  have hw : (mirC l)[p.pc.toNat]? = some 220332040 := by rw [hp, hk]; exact mir_word l 24 220332040 rfl
  rw [step_word (i := ⟨13, 2, 2, 8⟩) 220332040 (by omega) hw (by simp [Ma.insW]) (by decide)]
  simp only [nx, hk]
  rw [do_13]
  have e : ({ p with steps := p.steps + 1 } : Ma.PS).reg 2 = s.R 2 := h.reg 2 (by decide)
  have e2 : ({ p with steps := p.steps + 1 } : Ma.PS).reg 8 = s.R 8 := h.reg 8 (by decide)
  rw [e, e2, h8 (by omega), if_neg (by decide)]
  exact sim_set h _ 2 (by decide) _
theorem sim_25 (l : List Int) (hl : l.length ≤ 60) (inp : Ma.Inp) {s : MS} {p : Ma.PS} (hk : s.pc = 25) (hs : Ok l s) (h : Sim s p) : Sim (nx l s) (Ma.stepP (mirC l) inp p) := by
  have hp := h.pc
  obtain ⟨hen, hpc, hst, hout, h1, h2, h3, h4, h7, h13, h8, h27⟩ := hs
  have hw : (mirC l)[p.pc.toNat]? = some 404750336 := by rw [hp, hk]; exact mir_word l 25 404750336 rfl
  rw [step_word (i := ⟨24, 2, 0, 0⟩) 404750336 (by omega) hw (by simp [Ma.insW]) (by decide)]
  simp only [nx, hk]
  rw [do_24 (by show p.out.length < 65536; rw [h.out]; omega)]
  exact sim_put h _ 2 (by decide)
theorem sim_26 (l : List Int) (hl : l.length ≤ 60) (inp : Ma.Inp) {s : MS} {p : Ma.PS} (hk : s.pc = 26) (hs : Ok l s) (h : Sim s p) : Sim (nx l s) (Ma.stepP (mirC l) inp p) := by
  have hp := h.pc
  obtain ⟨hen, hpc, hst, hout, h1, h2, h3, h4, h7, h13, h8, h27⟩ := hs
  have hw : (mirC l)[p.pc.toNat]? = some 220332040 := by rw [hp, hk]; exact mir_word l 26 220332040 rfl
  rw [step_word (i := ⟨13, 2, 2, 8⟩) 220332040 (by omega) hw (by simp [Ma.insW]) (by decide)]
  simp only [nx, hk]
  rw [do_13]
  have e : ({ p with steps := p.steps + 1 } : Ma.PS).reg 2 = s.R 2 := h.reg 2 (by decide)
  have e2 : ({ p with steps := p.steps + 1 } : Ma.PS).reg 8 = s.R 8 := h.reg 8 (by decide)
  rw [e, e2, h8 (by omega), if_neg (by decide)]
  exact sim_set h _ 2 (by decide) _
theorem sim_27 (l : List Int) (hl : l.length ≤ 60) (inp : Ma.Inp) {s : MS} {p : Ma.PS} (hk : s.pc = 27) (hs : Ok l s) (h : Sim s p) : Sim (nx l s) (Ma.stepP (mirC l) inp p) := by
  have hp := h.pc
  obtain ⟨hen, hpc, hst, hout, h1, h2, h3, h4, h7, h13, h8, h27⟩ := hs
  have hw : (mirC l)[p.pc.toNat]? = some 384827392 := by rw [hp, hk]; exact mir_word l 27 384827392 rfl
  rw [step_word (i := ⟨22, 15, 0, 0⟩) 384827392 (by omega) hw (by simp [Ma.insW]) (by decide)]
  simp only [nx, hk]
  rw [do_22]
  obtain ⟨n, hn, _⟩ := h27 hk
  have e : ({ p with steps := p.steps + 1 } : Ma.PS).reg 15 = ((s.R 15).toNat : Int) := (h.reg 15 (by decide)).trans (by rw [hn]; rfl)
  rw [e]
  exact sim_goto h _ _ _
theorem sim_step (l : List Int) (hl : l.length ≤ 60) (inp : Ma.Inp) {s : MS} {p : Ma.PS} (hs : Ok l s) (h : Sim s p) : Sim (nx l s) (Ma.stepP (mirC l) inp p) := by
  have hpc := hs.2.1
  have hc : s.pc = 0 ∨ s.pc = 1 ∨ s.pc = 2 ∨ s.pc = 3 ∨ s.pc = 4 ∨ s.pc = 5 ∨ s.pc = 6 ∨ s.pc = 7 ∨ s.pc = 8 ∨ s.pc = 9 ∨ s.pc = 10 ∨ s.pc = 11 ∨ s.pc = 12 ∨ s.pc = 13 ∨ s.pc = 14 ∨ s.pc = 15 ∨ s.pc = 16 ∨ s.pc = 17 ∨ s.pc = 18 ∨ s.pc = 19 ∨ s.pc = 20 ∨ s.pc = 21 ∨ s.pc = 22 ∨ s.pc = 23 ∨ s.pc = 24 ∨ s.pc = 25 ∨ s.pc = 26 ∨ s.pc = 27 := by omega
  rcases hc with hk | hk | hk | hk | hk | hk | hk | hk | hk | hk | hk | hk | hk | hk | hk | hk | hk | hk | hk | hk | hk | hk | hk | hk | hk | hk | hk | hk
  · exact sim_0 l hl inp hk hs h
  · exact sim_1 l hl inp hk hs h
  · exact sim_2 l hl inp hk hs h
  · exact sim_3 l hl inp hk hs h
  · exact sim_4 l hl inp hk hs h
  · exact sim_5 l hl inp hk hs h
  · exact sim_6 l hl inp hk hs h
  · exact sim_7 l hl inp hk hs h
  · exact sim_8 l hl inp hk hs h
  · exact sim_9 l hl inp hk hs h
  · exact sim_10 l hl inp hk hs h
  · exact sim_11 l hl inp hk hs h
  · exact sim_12 l hl inp hk hs h
  · exact sim_13 l hl inp hk hs h
  · exact sim_14 l hl inp hk hs h
  · exact sim_15 l hl inp hk hs h
  · exact sim_16 l hl inp hk hs h
  · exact sim_17 l hl inp hk hs h
  · exact sim_18 l hl inp hk hs h
  · exact sim_19 l hl inp hk hs h
  · exact sim_20 l hl inp hk hs h
  · exact sim_21 l hl inp hk hs h
  · exact sim_22 l hl inp hk hs h
  · exact sim_23 l hl inp hk hs h
  · exact sim_24 l hl inp hk hs h
  · exact sim_25 l hl inp hk hs h
  · exact sim_26 l hl inp hk hs h
  · exact sim_27 l hl inp hk hs h
theorem sim_run (l : List Int) (hl : l.length ≤ 60) (inp : Ma.Inp) {s t : MS} {k : Nat} (r : Run l s k t) : ∀ {p : Ma.PS}, Sim s p → ∀ m, ∃ p', Ma.runP (mirC l) inp (k + m) p = Ma.runP (mirC l) inp m p' ∧ Sim t p' := by
  induction r with
  | nil s => intro p h m; exact ⟨p, by rw [Nat.zero_add], h⟩
  | step hs r ih =>
    intro p h m
    obtain ⟨p', h1, h2⟩ := ih (sim_step l hl inp hs h) m
    refine ⟨p', ?_, h2⟩
    rw [Nat.add_right_comm, Ma.run_next (h.en.trans hs.1)]
    exact h1
end Go.Proofs.YtaeeffddinppeaaGreatDoor
namespace Go.Proofs.YtaeeffddinppeaaGreatDoor
open Go Go.Ab
theorem sim_start : Sim ⟨0, fun _ => 0, 0, 0, []⟩ (startM []) where
  pc := rfl
  rl := rfl
  rv := fun a ha => by
    show ([0, 0, 0, 0, 0, 0, 0, 0, 0, 0, 0, 0, 0, 0, 0, 0] : List Int).getD a 0 = 0
    match a, ha with
    | 0, _ => rfl | 1, _ => rfl | 2, _ => rfl | 3, _ => rfl | 4, _ => rfl | 5, _ => rfl | 6, _ => rfl | 7, _ => rfl
    | 8, _ => rfl | 9, _ => rfl | 10, _ => rfl | 11, _ => rfl | 12, _ => rfl | 13, _ => rfl | 14, _ => rfl | 15, _ => rfl
    | n + 16, h => exact absurd h (by omega)
  out := rfl
  en := rfl
theorem mir_run (l : List Int) (hl : l.length ≤ 60) (hU : ∀ x ∈ l, U x) (inp : Ma.Inp) (n : Nat) (hn : 32 + 14 * (28 + l.length) ≤ n) : (Ma.runP (mirC l) inp n (startM [])).en = 1 ∧ (Ma.runP (mirC l) inp n (startM [])).out = [83, 69, 69, 68] ++ b4 ((mirC l).length : Int) ++ b4 0 ++ bys (mirC l) := by
  obtain ⟨t, r, h1, h2⟩ := run_mirror l hl hU
  rw [mirC_len] at r
  obtain ⟨p', e, hs⟩ := sim_run l hl inp r sim_start (n - (32 + 14 * (28 + l.length)))
  rw [show 32 + 14 * (28 + l.length) + (n - (32 + 14 * (28 + l.length))) = n by omega] at e
  rw [e, Ma.run_stop _ _ (by rw [hs.en, h1]; decide)]
  exact ⟨hs.en.trans h1, hs.out.trans h2⟩
theorem mir_said (l : List Int) (hl : l.length ≤ 60) (hU : ∀ x ∈ l, U x) (src : ByteArray) (fuel : Int) (hf : 32 + 14 * (28 + (l.length : Int)) ≤ fuel) : goodI (txtI (mirC l) 0) src fuel = some (txtI (mirC l) 0) := by
  obtain ⟨h1, h2, h3⟩ := img_txtI (mirC l) 0 (by rw [mirC_len]; omega) ⟨by decide, by decide⟩ (mirC_U l hl hU)
  obtain ⟨r1, r2⟩ := mir_run l hl hU (inpF src) fuel.toNat (by omega)
  have hst : stI (txtI (mirC l) 0) src fuel = Ma.runP (mirC l) (inpF src) fuel.toNat (startM []) := by
    unfold stI runI
    rw [h2, h3]
    rfl
  unfold goodI
  rw [hst]
  unfold endI
  rw [r1, r2, if_pos ⟨h1, by decide⟩]
  congr 1
end Go.Proofs.YtaeeffddinppeaaGreatDoor
