/- A part of the proof: Ps. -/
import Derived.Test.YtaeeffddinppeaaGreatDoorR15
set_option linter.unusedSimpArgs false
set_option linter.unusedVariables false
namespace Go.Ma
def sayC : List Int → List Int
  | [] => [436207616]
  | b :: L => (17825792 + b) :: 403701760 :: sayC L
theorem sayC_U : ∀ L : List Int, (∀ x ∈ L, 0 ≤ x ∧ x < 256) → ∀ x ∈ sayC L, U x
  | [], _, x, hx => by simp [sayC] at hx; subst hx; exact ⟨by decide, by decide⟩
  | b :: L, h, x, hx => by
    simp only [sayC, List.mem_cons] at hx
    have hb := h b (by simp)
    rcases hx with rfl | rfl | hx
    · exact ⟨by omega, by omega⟩
    · exact ⟨by decide, by decide⟩
    · exact sayC_U L (fun y hy => h y (by simp [hy])) x hx
theorem ins_li {b : Int} (h : 0 ≤ b ∧ b < 256) : insW (17825792 + b) = ⟨1, 1, 0, b⟩ := by
  unfold insW
  congr 1 <;> omega
theorem right_li {b : Int} (h : 0 ≤ b ∧ b < 256) : rightI ⟨1, 1, 0, b⟩ = true := by
  have h2 : b ≤ 65535 := by omega
  simp [rightI, hasA, hasB, kC, wi, h.1, h2]
theorem step_li {code : List Int} {inp : Inp} {s : PS} {b : Int} (h : 0 ≤ b ∧ b < 256) (hp : 0 ≤ s.pc) (hc : code[s.pc.toNat]? = some (17825792 + b)) : stepP code inp s = ({ s with steps := s.steps + 1 } : PS).setR 1 b := by
  unfold stepP
  rw [if_neg (by omega), hc]
  show (if rightI (insW (17825792 + b)) = true then doP code inp { s with steps := s.steps + 1 } (insW (17825792 + b)) else { s with steps := s.steps + 1, en := 6 }) = _
  rw [ins_li h, right_li h, if_pos rfl]
  rfl
theorem step_put {code : List Int} {inp : Inp} {s : PS} (hp : 0 ≤ s.pc) (hc : code[s.pc.toNat]? = some 403701760) (ho : s.out.length < 65536) : stepP code inp s = { s with steps := s.steps + 1, out := s.out ++ [s.reg 1 % 256], pc := s.pc + 1 } := by
  unfold stepP
  rw [if_neg (by omega), hc]
  show (if rightI (insW 403701760) = true then doP code inp { s with steps := s.steps + 1 } (insW 403701760) else { s with steps := s.steps + 1, en := 6 }) = _
  rw [if_pos (by decide)]
  have : insW 403701760 = ⟨24, 1, 0, 0⟩ := by simp [insW]
  rw [this]
  unfold doP
  simp only [show ((24 : Int) = 1) = False by simp, show ((24 : Int) = 2) = False by simp, show ((24 : Int) = 3) = False by simp, show ((24 : Int) = 16) = False by simp, show ((24 : Int) = 17) = False by simp, show ((24 : Int) = 18) = False by simp, show ((24 : Int) = 19) = False by simp, show ((24 : Int) = 20) = False by simp, show ((24 : Int) = 21) = False by simp, show ((24 : Int) = 22) = False by simp, show ((24 : Int) = 23) = False by simp, if_false, if_true]
  rw [if_neg (by omega)]
  rfl
theorem step_halt {code : List Int} {inp : Inp} {s : PS} (hp : 0 ≤ s.pc) (hc : code[s.pc.toNat]? = some 436207616) : stepP code inp s = { s with steps := s.steps + 1, en := 1 } := by
  unfold stepP
  rw [if_neg (by omega), hc]
  show (if rightI (insW 436207616) = true then doP code inp { s with steps := s.steps + 1 } (insW 436207616) else { s with steps := s.steps + 1, en := 6 }) = _
  rw [if_pos (by decide)]
  have : insW 436207616 = ⟨26, 0, 0, 0⟩ := by simp [insW]
  rw [this]
  rfl
theorem run_stop {code : List Int} {inp : Inp} : ∀ (n : Nat) (s : PS), s.en ≠ 0 → runP code inp n s = s
  | 0, _, _ => rfl
  | n + 1, s, h => by unfold runP; rw [if_neg h]
theorem run_next {code : List Int} {inp : Inp} {n : Nat} {s : PS} (h : s.en = 0) : runP code inp (n + 1) s = runP code inp n (stepP code inp s) := by
  rw [runP, if_pos h]
theorem say_run (inp : Inp) : ∀ (L : List Int), (∀ x ∈ L, 0 ≤ x ∧ x < 256) → ∀ (pre : List Int) (s : PS) (n : Nat), s.pc = pre.length → s.en = 0 → s.rg.length = 16 → s.out.length + L.length ≤ 65536 → 2 * L.length + 1 ≤ n →
    (runP (pre ++ sayC L) inp n s).en = 1 ∧ (runP (pre ++ sayC L) inp n s).out = s.out ++ L
  | [], _, pre, s, n, hpc, hen, hrg, ho, hn => by
    obtain ⟨m, rfl⟩ : ∃ m, n = m + 1 := ⟨n - 1, by simp at hn; omega⟩
    rw [run_next hen, step_halt (by omega) (by rw [hpc]; simp [sayC]), run_stop _ _ (by show (1 : Int) ≠ 0; decide)]
    exact ⟨rfl, by simp⟩
  | b :: L, hL, pre, s, n, hpc, hen, hrg, ho, hn => by
    have hb := hL b (by simp)
    simp only [List.length_cons] at ho hn
    obtain ⟨m, rfl⟩ : ∃ m, n = m + 1 + 1 := ⟨n - 2, by omega⟩
    have e1 : (pre ++ sayC (b :: L))[s.pc.toNat]? = some (17825792 + b) := by rw [hpc]; simp [sayC]
    rw [run_next hen, step_li hb (by omega) e1]
    have e2 : (pre ++ sayC (b :: L))[(({ s with steps := s.steps + 1 } : PS).setR 1 b).pc.toNat]? = some 403701760 := by
      show (pre ++ sayC (b :: L))[(s.pc + 1).toNat]? = _
      rw [hpc, show ((pre.length : Int) + 1).toNat = pre.length + 1 by omega]
      rw [List.getElem?_append_right (by omega)]
      simp [sayC]
    rw [run_next (s := ({ s with steps := s.steps + 1 } : PS).setR 1 b) hen, step_put (by show 0 ≤ s.pc + 1; omega) e2 (by show s.out.length < 65536; omega)]
    have e3 : (({ s with steps := s.steps + 1 } : PS).setR 1 b).reg 1 % 256 = b := by
      show (s.rg.set 1 b).getD 1 0 % 256 = b
      rw [List.getD_eq_getElem?_getD, List.getElem?_set_self (by omega)]
      show b % 256 = b
      omega
    rw [e3]
    have e4 : pre ++ sayC (b :: L) = (pre ++ [17825792 + b, 403701760]) ++ sayC L := by simp [sayC]
    rw [e4]
    obtain ⟨r1, r2⟩ := say_run inp L (fun y hy => hL y (by simp [hy])) (pre ++ [17825792 + b, 403701760]) ⟨s.pc + 1 + 1, s.rg.set 1 b, s.mem, s.rd, s.out ++ [b], s.steps + 1 + 1, s.en, s.own⟩ m (by show s.pc + 1 + 1 = _; simp; omega) hen (by show (s.rg.set _ b).length = 16; simp [hrg]) (by show (s.out ++ [b]).length + L.length ≤ 65536; simp; omega) (by omega)
    refine ⟨r1, r2.trans ?_⟩
    show (s.out ++ [b]) ++ L = s.out ++ b :: L
    simp
end Go.Ma
