/- A part of the proof: Kn, Ko, Ks, Kt, Kv. -/
import Derived.Test.YtaeeffddinppeaaGreatDoorR32
import Derived.Test.YtaeeffddinppeaaGreatDoorR09
import Derived.Lib.Hide
set_option linter.unusedSimpArgs false
set_option linter.unusedVariables false
namespace Go.Proofs.YtaeeffddinppeaaGreatDoor
open Go Go.Ab
attribute [-simp] Prog.bind getCs putCs
attribute [local simp ↓] run_bind
attribute [local simp ↓] runF_bind
attribute [local simp] run_getCsN runF_getCsN facetsC putCs_one run_putCsN
structure MS where
  pc : Nat
  R : Nat → Int
  steps : Nat
  en : Int
  out : List Int
def setR (R : Nat → Int) (a : Nat) (x : Int) : Nat → Int := fun j => if j = a then x else R j
def bxc (s : MS) (g n : Nat) (ws : List Int) (inp : ByteArray) : List AV := [iv s.pc, uv (s.R 0), uv (s.R 1), uv (s.R 2), uv (s.R 3), uv (s.R 4), uv (s.R 5), uv (s.R 6), uv (s.R 7), uv (s.R 8), uv (s.R 9), uv (s.R 10), uv (s.R 11), uv (s.R 12), uv (s.R 13), uv (s.R 14), uv (s.R 15), .own ⟨0, 13, 18⟩ 2 0, iv 0, .sc (.string ⟨#[]⟩), iv s.steps, iv s.en, .own ⟨0, 13, 23⟩ g s.out.length, .own ⟨0, 13, 24⟩ 2 n, .own ⟨0, 13, 25⟩ 2 n, .sl false 1 (rowW ws), .sc (.string inp), .own ⟨0, 13, 28⟩ 2 n]
end Go.Proofs.YtaeeffddinppeaaGreatDoor
namespace Go.Proofs.YtaeeffddinppeaaGreatDoor
open Go Go.Ab
attribute [-simp] Prog.bind getCs putCs
attribute [local simp ↓] run_bind
attribute [local simp ↓] runF_bind
attribute [local simp] run_getCsN runF_getCsN facetsC putCs_one run_putCsN
abbrev rowI (l : List Int) : List (List AV) := l.map fun x => [iv x]
def Post (s : MS) (g n : Nat) (ws : List Int) (inp : ByteArray) (cs : List Int) (hp hp' : Hp) : Prop :=
  hp' ⟨0, 13, 0⟩ = .box 1 (bxc s g n ws inp) false ∧ hp' ⟨0, 13, 23⟩ = .arr g 1 5 (rowB s.out) false ∧ hp' ⟨0, 13, 28⟩ = .arr 2 1 3 (rowI cs) false ∧ cs.length = n ∧ ∀ y : Nm, y.d = 0 → y ≠ ⟨0, 13, 0⟩ → y ≠ ⟨0, 13, 23⟩ → y ≠ ⟨0, 13, 28⟩ → hp' y = hp y
end Go.Proofs.YtaeeffddinppeaaGreatDoor
namespace Go.Proofs.YtaeeffddinppeaaGreatDoor
open Go Go.Ab
@[simp] theorem setR_same (R : Nat → Int) (a : Nat) (x : Int) : setR R a x a = x := by simp [setR]
theorem setR_ne (R : Nat → Int) {a b : Nat} (x : Int) (h : b ≠ a) : setR R a x b = R b := by simp [setR, h]
@[simp] theorem setR_twice (R : Nat → Int) (a : Nat) (x y : Int) : setR (setR R a x) a y = setR R a y := by
  funext j; unfold setR; split <;> rfl
def sR (s : MS) (a : Nat) (x : Int) : MS := { s with steps := s.steps + 1, R := setR s.R a x, pc := s.pc + 1 }
def pO (s : MS) (a : Nat) : MS := { s with steps := s.steps + 1, out := s.out ++ [s.R a % 256], pc := s.pc + 1 }
def cL (s : MS) : MS := { s with steps := s.steps + 1, R := setR s.R 15 (s.pc + 1), pc := 19 }
def nx (l : List Int) (s : MS) : MS := match s.pc with
  | 0 => sR s 1 83
  | 1 => pO s 1
  | 2 => sR s 1 69
  | 3 => pO s 1
  | 4 => pO s 1
  | 5 => sR s 1 68
  | 6 => pO s 1
  | 7 => sR s 8 8
  | 8 => sR s 7 1
  | 9 => sR s 4 ((28 + l.length : Nat) : Int)
  | 10 => sR s 2 (s.R 4)
  | 11 => cL s
  | 12 => cL s
  | 13 => sR s 2 ((mirC l).getD (s.R 3).toNat 0)
  | 14 => cL s
  | 15 => sR s 3 ((s.R 3 + s.R 7) % 4294967296)
  | 16 => sR s 5 (if s.R 3 < s.R 4 then 1 else 0)
  | 17 => { s with steps := s.steps + 1, pc := if s.R 5 ≠ 0 then 13 else s.pc + 1 }
  | 18 => { s with steps := s.steps + 1, en := 1 }
  | 19 => pO s 2
  | 20 => sR s 2 (s.R 2 / 256)
  | 21 => pO s 2
  | 22 => sR s 2 (s.R 2 / 256)
  | 23 => pO s 2
  | 24 => sR s 2 (s.R 2 / 256)
  | 25 => pO s 2
  | 26 => sR s 2 (s.R 2 / 256)
  | _ => { s with steps := s.steps + 1, pc := (s.R 15).toNat }
def Ok (l : List Int) (s : MS) : Prop := s.en = 0 ∧ s.pc < 28 ∧ s.steps ≤ 100000 ∧ s.out.length ≤ 65535 ∧ 0 ≤ s.R 1 ∧ U (s.R 2) ∧ U (s.R 3) ∧ U (s.R 4) ∧ U (s.R 7) ∧ (s.pc = 13 → ∃ j : Nat, s.R 3 = j ∧ j < (mirC l).length) ∧ (19 ≤ s.pc → s.R 8 = 8) ∧ (s.pc = 27 → ∃ q : Nat, s.R 15 = q ∧ q ≤ 100000)
inductive Run (l : List Int) : MS → Nat → MS → Prop
  | nil (s : MS) : Run l s 0 s
  | step {s t : MS} {k : Nat} (h : Ok l s) (r : Run l (nx l s) k t) : Run l s (k + 1) t
theorem Run.trans {l : List Int} {s t u : MS} {k m : Nat} (h : Run l s k t) (h' : Run l t m u) : Run l s (k + m) u := by
  induction h with
  | nil s => rwa [Nat.zero_add]
  | step h r ih => rw [Nat.add_right_comm]; exact .step h (ih h')
theorem U_div {w : Int} (h : U w) : U (w / 256) := by unfold U at *; omega
theorem U_nat {n : Nat} (h : n < 4294967296) : U (n : Int) := by unfold U; omega
theorem two (l : List Int) (p : Nat) (hp : p = 19 ∨ p = 21 ∨ p = 23 ∨ p = 25) (R : Nat → Int) (st : Nat) (out : List Int) (h1 : 0 ≤ R 1) (h2 : U (R 2)) (h3 : U (R 3)) (h4 : U (R 4)) (h7 : U (R 7)) (h8 : R 8 = 8) (hst : st < 100000) (ho : out.length < 65535) {k : Nat} {t : MS}
    (r : Run l ⟨p + 2, setR R 2 (R 2 / 256), st + 2, 0, out ++ [R 2 % 256]⟩ k t) : Run l ⟨p, R, st, 0, out⟩ (k + 2) t := by
  have e : ∀ q st out, Ok l ⟨q, R, st, 0, out⟩ ↔ q < 28 ∧ st ≤ 100000 ∧ out.length ≤ 65535 ∧ 0 ≤ R 1 ∧ U (R 2) ∧ U (R 3) ∧ U (R 4) ∧ U (R 7) ∧ (q = 13 → ∃ j : Nat, R 3 = j ∧ j < (mirC l).length) ∧ (19 ≤ q → R 8 = 8) ∧ (q = 27 → ∃ q : Nat, R 15 = q ∧ q ≤ 100000) := fun q st out => by simp [Ok]
  refine .step ((e _ _ _).2 ⟨by omega, by omega, by omega, h1, h2, h3, h4, h7, by omega, fun _ => h8, by omega⟩) ?_
  have r' : Run l ⟨p + 1, R, st + 1, 0, out ++ [R 2 % 256]⟩ (k + 1) t := by
    refine .step ((e _ _ _).2 ⟨by omega, by omega, by simp; omega, h1, h2, h3, h4, h7, by omega, fun _ => h8, by omega⟩) ?_
    rcases hp with rfl | rfl | rfl | rfl <;> exact r
  rcases hp with rfl | rfl | rfl | rfl <;> exact r'
theorem word_out (l : List Int) (R : Nat → Int) (st : Nat) (out : List Int) (h1 : 0 ≤ R 1) (h2 : U (R 2)) (h3 : U (R 3)) (h4 : U (R 4)) (h7 : U (R 7)) (h8 : R 8 = 8) (hst : st + 20 < 100000) (ho : out.length + 20 < 65535) (q : Nat) (hq : R 15 = q) (hq1 : q ≤ 100000) {k : Nat} {t : MS}
    (r : Run l ⟨q, setR R 2 (R 2 / 4294967296), st + 9, 0, out ++ b4 (R 2)⟩ k t) : Run l ⟨19, R, st, 0, out⟩ (k + 9) t := by
  have u1 := U_div h2
  have u2 := U_div u1
  have u3 := U_div u2
  have u4 := U_div u3
  have n : ∀ x j, j ≠ 2 → setR R 2 x j = R j := fun x j h => setR_ne R x h
  refine two l 19 (by simp) R st out h1 h2 h3 h4 h7 h8 (by omega) (by omega) ?_
  refine two l 21 (by simp) _ _ _ (by rwa [n]; simp) (by simpa using u1) (by rwa [n]; simp) (by rwa [n]; simp) (by rwa [n]; simp) (by rwa [n]; simp) (by omega) (by simp; omega) ?_
  simp only [setR_same, setR_twice]
  refine two l 23 (by simp) _ _ _ (by rwa [n]; simp) (by simpa using u2) (by rwa [n]; simp) (by rwa [n]; simp) (by rwa [n]; simp) (by rwa [n]; simp) (by omega) (by simp; omega) ?_
  simp only [setR_same, setR_twice]
  refine two l 25 (by simp) _ _ _ (by rwa [n]; simp) (by simpa using u3) (by rwa [n]; simp) (by rwa [n]; simp) (by rwa [n]; simp) (by rwa [n]; simp) (by omega) (by simp; omega) ?_
  simp only [setR_same, setR_twice]
  refine .step ⟨rfl, by simp, by simp only; omega, by simp; omega, ?_, ?_, ?_, ?_, ?_, by simp, fun _ => ?_, fun _ => ⟨q, ?_, hq1⟩⟩ ?_
  · simpa [n] using h1
  · simpa using u4
  · simpa [n] using h3
  · simpa [n] using h4
  · simpa [n] using h7
  · simpa [n] using h8
  · simpa [n] using hq
  have e : nx l ⟨27, setR R 2 (R 2 / 256 / 256 / 256 / 256), st + 8, 0, out ++ b4 (R 2)⟩ = ⟨q, setR R 2 (R 2 / 4294967296), st + 9, 0, out ++ b4 (R 2)⟩ := by
    simp only [nx, n 15, n _ 15, ne_eq, Nat.reduceEqDiff, not_false_eq_true, hq, Int.toNat_natCast]
    rw [show R 2 / 256 / 256 / 256 / 256 = R 2 / 4294967296 from by omega]
  have e2 : out ++ [R 2 % 256] ++ [R 2 / 256 % 256] ++ [R 2 / 256 / 256 % 256] ++ [R 2 / 256 / 256 / 256 % 256] = out ++ b4 (R 2) := by
    unfold b4
    rw [show R 2 / 65536 = R 2 / 256 / 256 from by omega, show R 2 / 16777216 = R 2 / 256 / 256 / 256 from by omega]
    simp
  rw [e2]
  show Run l (nx l ⟨27, _, st + 8, 0, _⟩) k t
  rw [e]
  exact r
end Go.Proofs.YtaeeffddinppeaaGreatDoor
namespace Go.Proofs.YtaeeffddinppeaaGreatDoor
open Go Go.Ab
theorem turn (l : List Int) (hl : l.length ≤ 60) (hU : ∀ x ∈ mirC l, U x) (j : Nat) (R : Nat → Int) (st : Nat) (out : List Int) (hj : j < (mirC l).length) (h1 : 0 ≤ R 1) (h2 : U (R 2)) (h3 : R 3 = j) (h4 : R 4 = ((mirC l).length : Int)) (h7 : R 7 = 1) (h8 : R 8 = 8) (hst : st + 50 < 100000) (ho : out.length + 50 < 65535) {k : Nat}
    {P : MS → Prop} (r : ∀ R', 0 ≤ R' 1 → U (R' 2) → R' 3 = ((j + 1 : Nat) : Int) → R' 4 = ((mirC l).length : Int) → R' 7 = 1 → R' 8 = 8 → ∃ t, Run l ⟨if j + 1 < (mirC l).length then 13 else 18, R', st + 14, 0, out ++ b4 ((mirC l)[j])⟩ k t ∧ P t) : ∃ t, Run l ⟨13, R, st, 0, out⟩ (k + 14) t ∧ P t := by
  suffices hR : ∃ R', 0 ≤ R' 1 ∧ U (R' 2) ∧ R' 3 = ((j + 1 : Nat) : Int) ∧ R' 4 = ((mirC l).length : Int) ∧ R' 7 = 1 ∧ R' 8 = 8 ∧ ∀ t, Run l ⟨if j + 1 < (mirC l).length then 13 else 18, R', st + 14, 0, out ++ b4 ((mirC l)[j])⟩ k t → Run l ⟨13, R, st, 0, out⟩ (k + 14) t by
    obtain ⟨R', q1, q2, q3, q4, q7, q8, hR⟩ := hR
    obtain ⟨t, h, hp⟩ := r R' q1 q2 q3 q4 q7 q8
    exact ⟨t, hR t h, hp⟩
  clear r
  have hlen := mirC_len l
  have n := fun a x j (h : j ≠ a) => setR_ne R x h
  have uw := hU _ (List.getElem_mem hj)
  have hg : (mirC l).getD (R 3).toNat 0 = (mirC l)[j] := by rw [h3, Int.toNat_natCast, List.getD_eq_getElem?_getD, List.getElem?_eq_getElem hj]; rfl
  generalize (mirC l)[j] = w at hg uw ⊢
  suffices hR : ∃ R', 0 ≤ R' 1 ∧ U (R' 2) ∧ R' 3 = ((j + 1 : Nat) : Int) ∧ R' 4 = ((mirC l).length : Int) ∧ R' 7 = 1 ∧ R' 8 = 8 ∧ ∀ t, Run l ⟨if j + 1 < (mirC l).length then 13 else 18, R', st + 14, 0, out ++ b4 w⟩ k t → Run l ⟨13, R, st, 0, out⟩ (k + 14) t from hR
  have u3 : U (R 3) := by rw [h3]; exact U_nat (by omega)
  have u4 : U (R 4) := by rw [h4]; exact U_nat (by omega)
  have u7 : U (R 7) := by rw [h7]; unfold U; omega
  refine ⟨setR (setR (setR (setR (setR R 2 w) 15 (((14 : Nat) : Int) + 1)) 2 (w / 4294967296)) 3 ((j + 1 : Nat) : Int)) 5 (if ((j + 1 : Nat) : Int) < R 4 then 1 else 0), by simpa [setR] using h1, by simp [setR]; unfold U at *; omega, by simp [setR], by simpa [setR] using h4, by simpa [setR] using h7, by simpa [setR] using h8, fun t r => ?_⟩
  refine .step ⟨rfl, by simp, by simp only; omega, by simp only; omega, h1, h2, u3, u4, u7, fun _ => ⟨j, h3, hj⟩, by simp, by simp⟩ ?_
  simp only [nx, sR, hg, Nat.reduceAdd]
  refine .step ⟨rfl, by simp, by simp only; omega, by simp only; omega, by simpa [setR] using h1, by simpa using uw, by simpa [setR] using u3, by simpa [setR] using u4, by simpa [setR] using u7, by simp, by simp, by simp⟩ ?_
  simp only [nx, cL, Nat.reduceAdd]
  refine word_out l _ _ out (by simpa [setR] using h1) (by simpa [setR] using uw) (by simpa [setR] using u3) (by simpa [setR] using u4) (by simpa [setR] using u7) (by simpa [setR] using h8) (by omega) (by omega) 15 (by simp) (by omega) ?_
  have e2 : setR (setR R 2 w) 15 (((14 : Nat) : Int) + 1) 2 = w := by simp [setR]
  rw [e2]
  have uq : U (w / 4294967296) := by unfold U at *; omega
  obtain ⟨R1, hR1⟩ : ∃ R1, R1 = setR (setR (setR R 2 w) 15 (((14 : Nat) : Int) + 1)) 2 (w / 4294967296) := ⟨_, rfl⟩
  rw [← hR1]
  have a1 : R1 1 = R 1 := by rw [hR1]; simp [setR]
  have a2 : R1 2 = w / 4294967296 := by rw [hR1]; simp [setR]
  have a3 : R1 3 = R 3 := by rw [hR1]; simp [setR]
  have a4 : R1 4 = R 4 := by rw [hR1]; simp [setR]
  have a7 : R1 7 = R 7 := by rw [hR1]; simp [setR]
  have a8 : R1 8 = R 8 := by rw [hR1]; simp [setR]
  clear e2
  have hb : (b4 w).length = 4 := rfl
  refine .step ⟨rfl, by simp, by simp only; omega, by simp [hb]; omega, by simp only; omega, by simp only; rw [a2]; exact uq, by simp only; rw [a3]; exact u3, by simp only; rw [a4]; exact u4, by simp only; rw [a7]; exact u7, by simp, by simp, by simp⟩ ?_
  simp only [nx, sR, Nat.reduceAdd]
  have hs : (R1 3 + R1 7) % 4294967296 = ((j + 1 : Nat) : Int) := by rw [a3, a7, h3, h7]; omega
  rw [hs]
  have ub : U (((j + 1 : Nat) : Int)) := U_nat (by omega)
  refine .step ⟨rfl, by simp, by simp only; omega, by simp [hb]; omega, by simp [setR]; omega, by simp [setR]; rw [a2]; exact uq, by simpa using ub, by simp [setR]; rw [a4]; exact u4, by simp [setR]; rw [a7]; exact u7, by simp, by simp, by simp⟩ ?_
  simp only [nx, sR, Nat.reduceAdd]
  refine .step ⟨rfl, by simp, by simp only; omega, by simp [hb]; omega, by simp [setR]; omega, by simp [setR]; rw [a2]; exact uq, by simpa [setR] using ub, by simp [setR]; rw [a4]; exact u4, by simp [setR]; rw [a7]; exact u7, by simp, by simp, by simp⟩ ?_
  simp only [nx, Nat.reduceAdd, setR_same]
  have hc : setR R1 3 ((j + 1 : Nat) : Int) 3 < setR R1 3 ((j + 1 : Nat) : Int) 4 ↔ j + 1 < (mirC l).length := by simp [setR]; rw [a4, h4]; omega
  have hpc : (if (if setR R1 3 ((j + 1 : Nat) : Int) 3 < setR R1 3 ((j + 1 : Nat) : Int) 4 then (1 : Int) else 0) ≠ 0 then 13 else 18) = if j + 1 < (mirC l).length then 13 else 18 := by
    by_cases h : j + 1 < (mirC l).length
    · rw [if_pos h, if_pos (hc.2 h)]; rfl
    · rw [if_neg h, if_neg (fun h' => h (hc.1 h'))]; rfl
  rw [setR_same] at hpc
  rw [hpc]
  have e4 : setR R1 3 ((j + 1 : Nat) : Int) 4 = R 4 := by simp [setR]; exact a4
  rw [e4]
  rw [← hR1] at r
  exact r
theorem loop (l : List Int) (hl : l.length ≤ 60) (hU : ∀ x ∈ mirC l, U x) : ∀ (m j : Nat) (R : Nat → Int) (st : Nat) (out : List Int), j + m + 1 = (mirC l).length → 0 ≤ R 1 → U (R 2) → R 3 = j → R 4 = ((mirC l).length : Int) → R 7 = 1 → R 8 = 8 → st + 14 * m + 50 < 100000 → out.length + 4 * m + 50 < 65535 →
    ∃ t, Run l ⟨13, R, st, 0, out⟩ (14 * m + 15) t ∧ t.en = 1 ∧ t.out = out ++ bys ((mirC l).drop j) := by
  intro m
  induction m with
  | zero =>
    intro j R st out hj h1 h2 h3 h4 h7 h8 hst ho
    have hlen := mirC_len l
    have hjl : j < (mirC l).length := by omega
    have hd : (mirC l).drop j = [(mirC l)[j]] := by
      rw [List.drop_eq_getElem_cons hjl, List.drop_eq_nil_of_le (by omega)]
    have key : ∀ R', 0 ≤ R' 1 → U (R' 2) → R' 3 = ((j + 1 : Nat) : Int) → R' 4 = ((mirC l).length : Int) → R' 7 = 1 → R' 8 = 8 → Run l ⟨18, R', st + 14, 0, out ++ b4 ((mirC l)[j])⟩ 1 ⟨18, R', st + 14 + 1, 1, out ++ b4 ((mirC l)[j])⟩ := fun R' q1 q2 q3 q4 q7 q8 => by
      refine .step ⟨rfl, by simp, by simp only; omega, by simp [b4]; omega, q1, q2, ?_, ?_, ?_, by simp, by simp, by simp⟩ (.nil _)
      · simp only; rw [q3]; exact U_nat (by omega)
      · simp only; rw [q4]; exact U_nat (by omega)
      · simp only; rw [q7]; unfold U; omega
    have := turn l hl hU j R st out hjl h1 h2 h3 h4 h7 h8 (by omega) (by omega) (k := 1) (P := fun t => t.en = 1 ∧ t.out = out ++ bys ((mirC l).drop j)) fun R' q1 q2 q3 q4 q7 q8 =>
      ⟨_, by rw [if_neg (by omega)]; exact key R' q1 q2 q3 q4 q7 q8, rfl, by rw [hd]; simp [bys]⟩
    exact this
  | succ m ih =>
    intro j R st out hj h1 h2 h3 h4 h7 h8 hst ho
    have hjl : j < (mirC l).length := by omega
    have hd : (mirC l).drop j = (mirC l)[j] :: (mirC l).drop (j + 1) := List.drop_eq_getElem_cons hjl
    have := turn l hl hU j R st out hjl h1 h2 h3 h4 h7 h8 (by omega) (by omega) (k := 14 * m + 15) (P := fun t => t.en = 1 ∧ t.out = out ++ bys ((mirC l).drop j)) fun R' q1 q2 q3 q4 q7 q8 => by
      rw [if_pos (by omega)]
      obtain ⟨t, r1, r2, r3⟩ := ih (j + 1) R' (st + 14) (out ++ b4 ((mirC l)[j])) (by omega) q1 q2 q3 q4 q7 q8 (by omega) (by simp [b4]; omega)
      exact ⟨t, r1, r2, by rw [r3, hd]; unfold bys; rw [List.flatMap_cons, List.append_assoc]⟩
    exact this
end Go.Proofs.YtaeeffddinppeaaGreatDoor
namespace Go.Proofs.YtaeeffddinppeaaGreatDoor
open Go Go.Ab
attribute [-simp] Prog.bind getCs putCs
attribute [local simp ↓] run_bind
attribute [local simp ↓] runF_bind
attribute [local simp] run_getCsN runF_getCsN facetsC putCs_one run_putCsN runF_putCsN facetsW facetsH
theorem fnR {P : Program} {E : Cfg} {X : Orc} {f : Nat} {fn : Func} {c : Code} {args : List AV} {R : List AV → Prop} {ts : List TypeId} {rvs : List ResultVar} (hf : P.funcs[f]? = some fn) (hx : X.dat f args = none) (hb : fn.body = some c) (hok : bodyOk fn = true) (hl : args.length = fn.params.size + fn.nfree)
    (ht : rtys P f = ts) (hrv : fn.results.toList = rvs) (h : W P E 0 (lim P E X) c ⟨frame0 args, hp0⟩ (EndQ P ts rvs R)) : ∃ rs, (lim P E X).dat f args = some rs ∧ R rs := by
  obtain ⟨n, e, st, h1, h2⟩ := h
  cases e with
  | exit i => exact h2.elim
  | normal => obtain ⟨rs, hp', h3, h4⟩ := h2; exact ⟨rs, fnW hf hx hb hok hl ht hrv ⟨n, .normal, st, h1, rs, hp', h3, rfl⟩, h4⟩
  | ret => obtain ⟨rs, hp', h3, h4⟩ := h2; exact ⟨rs, fnW hf hx hb hok hl ht hrv ⟨n, .ret, st, h1, rs, hp', h3, rfl⟩, h4⟩
end Go.Proofs.YtaeeffddinppeaaGreatDoor
