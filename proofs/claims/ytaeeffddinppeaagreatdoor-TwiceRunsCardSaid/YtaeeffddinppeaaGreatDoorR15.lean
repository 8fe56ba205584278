/- A part of the proof: Po. -/
import Derived.Test.YtaeeffddinppeaaGreatDoorR10
set_option linter.unusedSimpArgs false
set_option linter.unusedVariables false
namespace Go.Ma
theorem doP_mem (code : List Int) (inp : Inp) (s : PS) (i : Ins) : (doP code inp s i).mem.length = s.mem.length := by
  have I : ∀ {c : Prop} [Decidable c] {a b : PS}, a.mem.length = s.mem.length → b.mem.length = s.mem.length → (if c then a else b).mem.length = s.mem.length := fun h1 h2 => ite_ind (p := fun t : PS => t.mem.length = s.mem.length) (fun _ => h1) fun _ => h2
  have E : ∀ {o : Option Int} {b : PS} {f : Int → PS}, b.mem.length = s.mem.length → (∀ x, (f x).mem.length = s.mem.length) → (o.elim b f).mem.length = s.mem.length := fun h1 h2 => elim_ind (p := fun t : PS => t.mem.length = s.mem.length) (fun _ => h1) fun x _ => h2 x
  unfold doP
  exact I rfl (I rfl (I rfl (I (E rfl fun _ => rfl) (I (I (List.length_set ..) rfl) (I rfl (I rfl (I rfl (I rfl (I rfl (I (E rfl fun _ => rfl) (I (I rfl rfl) (I (I rfl rfl) (I rfl (I (E rfl fun _ => rfl) (E rfl fun _ => rfl)))))))))))))))
theorem stepP_mem (code : List Int) (inp : Inp) (s : PS) : (stepP code inp s).mem.length = s.mem.length := by
  unfold stepP
  refine ite_ind (p := fun t : PS => t.mem.length = s.mem.length) (fun _ => rfl) fun _ => elim_ind (p := fun t : PS => t.mem.length = s.mem.length) (fun _ => rfl) fun w _ => ?_
  refine ite_ind (p := fun t : PS => t.mem.length = s.mem.length) (fun _ => ?_) fun _ => rfl
  exact doP_mem ..
theorem runP_end {code : List Int} {inp : Inp} {s : PS} (h : s.en ≠ 0) : ∀ k, runP code inp k s = s
  | 0 => rfl
  | k + 1 => by unfold runP; rw [if_neg h]
structure Run (code : List Int) (inp : Inp) (n F : Nat) (s0 : PS) (k : Nat) (t : PS) : Prop where
  le : k ≤ F
  ok : Ok n t
  st : t.steps ≤ s0.steps + k
  mem : t.mem.length = s0.mem.length
  to : runP code inp (F - k) t = runP code inp F s0
theorem Run.start {code : List Int} {inp : Inp} {n : Nat} (F : Nat) {s : PS} (h : Ok n s) : Run code inp n F s 0 s := ⟨Nat.zero_le _, h, Nat.le_refl _, rfl, rfl⟩
theorem Run.next {code : List Int} {inp : Inp} {n F : Nat} {s0 : PS} {k : Nat} {t : PS} (h : Run code inp n F s0 k t) (hk : k < F) (he : t.en = 0) (hl : code.length ≤ 4294967295) (hc : ∀ x ∈ code, U x) (hi : ∀ k b, inp k = some b → k < n ∧ 0 ≤ b ∧ b < 256) : Run code inp n F s0 (k + 1) (stepP code inp t) :=
  ⟨hk, stepP_ok h.ok hl hc hi, by have := stepP_steps code inp t; have := h.st; omega, by rw [stepP_mem, h.mem], by
    rw [← h.to]
    obtain ⟨j, hj⟩ : ∃ j, F - k = j + 1 := ⟨F - k - 1, by omega⟩
    rw [hj, show F - (k + 1) = j from by omega, runP, if_pos he]⟩
theorem Run.done {code : List Int} {inp : Inp} {n F : Nat} {s0 : PS} {k : Nat} {t : PS} (h : Run code inp n F s0 k t) (hk : k = F ∨ t.en ≠ 0) : t = runP code inp F s0 := by
  rw [← h.to]
  rcases hk with rfl | hk
  · rw [Nat.sub_self]; rfl
  · rw [runP_end hk]
end Go.Ma
