/- Law 31: runs of one block. -/
import Derived.Test.YtmfhdhiaokejdaaKh
namespace Go.Proofs.Ytmfhdhiaokejdaa
open Go Go.Ab
set_option linter.unusedSimpArgs false
set_option linter.unusedVariables false
theorem run_fwdS {nw fuel : Int} {fs : List Fn} {inp : ByteArray} (ok : ∀ g ∈ fs, g.okS) : runS ⟨nw, fs.map fwdFn, inp, fuel⟩ = runS ⟨nw, fs, inp, fuel⟩ := by
  unfold runS callS
  simp only [List.length_map, Int.toNat_natCast, List.getElem?_map]
  cases hg : fs[fs.length - 1]? with
  | none => rfl
  | some f =>
    simp only [Option.map_some]
    exact loop_alike (c := ⟨nw, fs, inp, fuel⟩) (c' := ⟨nw, fs.map fwdFn, inp, fuel⟩) rfl rfl rfl ok _ (ok f (List.mem_of_getElem? hg)) (by simp [fwdFn])
/-- An instruction that ends nothing: what it does. -/
def calm (inp : ByteArray) (t : Tac) (s : RS) (r : List Int) : RS × List Int :=
  if t.op = 2 then (s, r.set t.d.toNat (rg r t.a))
  else if t.op = 8 then (if s.read < inp.size then ({ s with read := s.read + 1 }, r.set t.d.toNat (inp.data.toList.getD s.read.toNat 0).toNat) else (s, r.set t.d.toNat 256))
  else ({ s with out := s.out ++ [rg r t.a % 256] }, r)
def calms (inp : ByteArray) : List Tac → RS → List Int → RS × List Int
  | [], s, r => (s, r)
  | t :: ts, s, r => calms inp ts { (calm inp t s r).1 with steps := s.steps + 1 } (calm inp t s r).2
theorem calms_append {inp : ByteArray} : ∀ (l l' : List Tac) (s : RS) (r : List Int), calms inp (l ++ l') s r = calms inp l' (calms inp l s r).1 (calms inp l s r).2
  | [], _, _, _ => rfl
  | t :: l, l', s, r => by simp only [List.cons_append, calms]; exact calms_append l l' _ _
theorem one_calm {c : RC} {ap : Int → Int → Int → Int × Int} {call : Int → RS → RS} {t : Tac} {s : RS} {r : List Int} (ho : t.op = 2 ∨ t.op = 8 ∨ t.op = 9) (hl : (s.out.length : Int) < 65536) : oneS c ap call t { s with steps := s.steps + 1 } r = ({ (calm c.inp t s r).1 with steps := s.steps + 1 }, (calm c.inp t s r).2) := by
  unfold oneS calm
  rcases ho with h | h | h <;> simp [h]
  · split <;> rfl
  · exact hl
theorem calm_fin {inp : ByteArray} {t : Tac} {s : RS} {r : List Int} : (calm inp t s r).1.fin = s.fin := by
  unfold calm
  split
  · rfl
  split
  · split <;> rfl
  · rfl
theorem calm_out {inp : ByteArray} {t : Tac} {s : RS} {r : List Int} : (calm inp t s r).1.out.length ≤ s.out.length + 1 := by
  unfold calm
  split
  · simp
  split
  · split <;> simp
  · simp
theorem ins_calm {c : RC} {ap : Int → Int → Int → Int × Int} {call : Int → RS → RS} : ∀ (l : List Tac) (s : RS) (r : List Int), (∀ t ∈ l, t.op = 2 ∨ t.op = 8 ∨ t.op = 9) → s.fin = 0 → s.steps + l.length ≤ c.fuel → s.out.length + l.length < 65536 → insS c ap call l s r = ((calms c.inp l s r).1, (calms c.inp l s r).2, true) ∧ (calms c.inp l s r).1.fin = 0 ∧ (calms c.inp l s r).1.steps = s.steps + l.length
  | [], s, r, _, hf, _, _ => ⟨rfl, hf, by simp [calms]⟩
  | t :: l, s, r, ho, hf, hs, hl => by
    simp only [List.length_cons] at hs hl ⊢
    unfold insS
    rw [if_neg (by omega), one_calm (ho t List.mem_cons_self) (by omega)]
    have e : ({ (calm c.inp t s r).1 with steps := s.steps + 1 } : RS).fin = 0 := by show (calm c.inp t s r).1.fin = 0; rw [calm_fin]; exact hf
    simp only [ne_eq]
    rw [if_neg (by simpa using e)]
    have hb := calm_out (inp := c.inp) (t := t) (s := s) (r := r)
    have ih := ins_calm (c := c) (ap := ap) (call := call) l { (calm c.inp t s r).1 with steps := s.steps + 1 } (calm c.inp t s r).2 (fun u hu => ho u (List.mem_cons_of_mem _ hu)) e (by show s.steps + 1 + _ ≤ _; omega) (by show (calm c.inp t s r).1.out.length + _ < _; omega)
    refine ⟨ih.1, ih.2.1, ?_⟩
    show (calms c.inp l _ _).1.steps = _
    rw [ih.2.2]
    show s.steps + 1 + _ = _
    omega
/-- One function of one block that returns. -/
theorem run_calm {regs : Int} {ins : List Tac} {inp : ByteArray} (ho : ∀ t ∈ ins, t.op = 2 ∨ t.op = 8 ∨ t.op = 9) (hl : ins.length < 99) : runS ⟨0, [⟨regs, [⟨ins, 3, 0, 0, 0⟩]⟩], inp, 99⟩ = (let p := calms inp ins ⟨[], [], 0, 0, 0⟩ (List.replicate regs.toNat 0); { p.1 with steps := p.1.steps + 1 }) ∧ (runS ⟨0, [⟨regs, [⟨ins, 3, 0, 0, 0⟩]⟩], inp, 99⟩).fin = 0 := by
  have hi := fun call => ins_calm (c := ⟨0, [⟨regs, [⟨ins, 3, 0, 0, 0⟩]⟩], inp, 99⟩) (ap := apD) (call := call) ins ⟨[], [], 0, 0, 0⟩ (List.replicate regs.toNat 0) ho rfl (by show (0 : Int) + _ ≤ 99; omega) (by show 0 + _ < _; omega)
  have e : runS ⟨0, [⟨regs, [⟨ins, 3, 0, 0, 0⟩]⟩], inp, 99⟩ = (let p := calms inp ins ⟨[], [], 0, 0, 0⟩ (List.replicate regs.toNat 0); { p.1 with steps := p.1.steps + 1 }) := by
    unfold runS callS
    show loopS _ apD (99 + 1) _ 0 (beginS _) _ = _
    unfold loopS
    simp only [Int.toNat_zero, List.getElem?_cons_zero]
    have hb : beginS ⟨0, [⟨regs, [⟨ins, 3, 0, 0, 0⟩]⟩], inp, 99⟩ = ⟨[], [], 0, 0, 0⟩ := rfl
    rw [hb, (hi _).1]
    simp only [Bool.true_eq_false, if_false]
    rw [if_neg (by rw [(hi fun _ s => s).2.2]; show ¬ (99 : Int) ≤ 0 + _; omega)]
    rfl
  exact ⟨e, by rw [e]; exact (hi fun _ s => s).2.1⟩
/-! ### chains -/
def getT (d : Int) : Tac := ⟨8, d, 0, 0, 0, 0, 0, 0⟩
def copyT (d a : Int) : Tac := ⟨2, d, a, 0, 0, 0, 0, 0⟩
def putT (a : Int) : Tac := ⟨9, 0, a, 0, 0, 0, 0, 0⟩
/-- The first k instructions of a chain. -/
def chainL : Nat → List Tac
  | 0 => [getT 0]
  | k + 1 => chainL k ++ [copyT (k + 1 : Nat) (k : Nat)]
def chainB (m : Nat) : Blk := ⟨chainL m ++ [putT m], 3, 0, 0, 0⟩
def chainF (m : Nat) : Fn := ⟨(m + 1 : Nat), [chainB m]⟩
theorem chain_len : ∀ k, (chainL k).length = k + 1
  | 0 => rfl
  | k + 1 => by simp [chainL, chain_len k]
theorem chain_ops : ∀ k, ∀ t ∈ chainL k, t.op = 2 ∨ t.op = 8 ∨ t.op = 9
  | 0, t, h => by simp [chainL] at h; subst h; exact .inr (.inl rfl)
  | k + 1, t, h => by
    simp only [chainL, List.mem_append, List.mem_singleton] at h
    rcases h with h | rfl
    · exact chain_ops k t h
    · exact .inl rfl
theorem chainB_ops (m : Nat) : ∀ t ∈ (chainB m).ins, t.op = 2 ∨ t.op = 8 ∨ t.op = 9 := fun t h => by
  simp only [chainB, List.mem_append, List.mem_singleton] at h
  rcases h with h | rfl
  · exact chain_ops m t h
  · exact .inr (.inr rfl)
theorem chain_one : ∀ m : Fin 13, oneB (chainF m.val) 0 0 = true := by decide +kernel
theorem chain_fwd : ∀ (m : Fin 13) (i : Fin 14), 1 ≤ i.val → i.val ≤ m.val + 1 → ((fwdBlk (m.val + 1 : Nat) (chainB m.val)).ins[i.val]?).map (·.a) = some 0 := by decide +kernel
theorem U0 : U 0 := by unfold U; omega
theorem chain_U (k : Nat) : ∀ t ∈ chainL k, t.n = 0 := by
  induction k with
  | zero => intro t h; simp [chainL] at h; subst h; rfl
  | succ k ih =>
    intro t h
    simp only [chainL, List.mem_append, List.mem_singleton] at h
    rcases h with h | rfl
    · exact ih t h
    · rfl
theorem chain_good {m : Nat} (hm : m < 13) : FnGood (chainF m) 0 0 := by
  refine good_mk (chain_one ⟨m, hm⟩) (by simp [chainF]) (fun b hb => ?_) fun b hb t ht => ?_
  · simp only [chainF, List.mem_singleton] at hb
    subst hb; simp [chainB, chain_len]; omega
  · simp only [chainF, List.mem_singleton] at hb
    subst hb
    simp only [chainB, List.mem_append, List.mem_singleton] at ht
    rcases ht with h | rfl
    · rw [chain_U m t h]; exact U0
    · exact U0
theorem chain_fin {m : Nat} (hm : m < 13) (inp : ByteArray) : (runS ⟨0, [fwdFn (chainF m)], inp, 99⟩).fin = 0 := by
  have h1 := run_fwdS (nw := 0) (fuel := 99) (fs := [chainF m]) (inp := inp) fun g hg => by
    rw [List.mem_singleton] at hg; subst hg; exact okS_of (chain_one ⟨m, hm⟩) (chain_good hm)
  rw [List.map_cons, List.map_nil] at h1
  rw [h1]
  exact (run_calm (chainB_ops m) (by simp [chainB, chain_len]; omega)).2
end Go.Proofs.Ytmfhdhiaokejdaa
