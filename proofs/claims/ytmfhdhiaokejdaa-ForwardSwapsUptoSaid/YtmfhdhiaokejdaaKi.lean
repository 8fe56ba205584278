/- Law 31: runs of one block; ForwardChains, walked. -/
import Derived.Test.YtmfhdhiaokejdaaKh
import Derived.Test.YtmfhdhiaokejdaaL6
namespace Go.Proofs.Ytmfhdhiaokejdaa
open Go Go.Ab
set_option linter.unusedSimpArgs false
set_option linter.unusedVariables false
theorem run_fwdS {nw fuel : Int} {fs : List Fn} {inp : ByteArray} (ok : ∀ g ∈ fs, g.okS) : runS ⟨nw, fs.map fwdFn, inp, fuel⟩ = runS ⟨nw, fs, inp, fuel⟩ := by
  unfold runS callS
  simp only [List.length_map, Int.toNat_natCast, List.getElem?_map]
  cases hg : fs[fs.length - 1]? with
  | none => rfl
  | some f =>
    simp only [Option.map_some]
    exact loop_alike (c := ⟨nw, fs, inp, fuel⟩) (c' := ⟨nw, fs.map fwdFn, inp, fuel⟩) rfl rfl rfl ok _ (ok f (List.mem_of_getElem? hg)) (by simp [fwdFn])
/-- An instruction that ends nothing: what it does. -/
def calm (inp : ByteArray) (t : Tac) (s : RS) (r : List Int) : RS × List Int :=
  if t.op = 2 then (s, r.set t.d.toNat (rg r t.a))
  else if t.op = 8 then (if s.read < inp.size then ({ s with read := s.read + 1 }, r.set t.d.toNat (inp.data.toList.getD s.read.toNat 0).toNat) else (s, r.set t.d.toNat 256))
  else ({ s with out := s.out ++ [rg r t.a % 256] }, r)
def calms (inp : ByteArray) : List Tac → RS → List Int → RS × List Int
  | [], s, r => (s, r)
  | t :: ts, s, r => calms inp ts { (calm inp t s r).1 with steps := s.steps + 1 } (calm inp t s r).2
theorem calms_append {inp : ByteArray} : ∀ (l l' : List Tac) (s : RS) (r : List Int), calms inp (l ++ l') s r = calms inp l' (calms inp l s r).1 (calms inp l s r).2
  | [], _, _, _ => rfl
  | t :: l, l', s, r => by simp only [List.cons_append, calms]; exact calms_append l l' _ _
theorem one_calm {c : RC} {ap : Int → Int → Int → Int × Int} {call : Int → RS → RS} {t : Tac} {s : RS} {r : List Int} (ho : t.op = 2 ∨ t.op = 8 ∨ t.op = 9) (hl : (s.out.length : Int) < 65536) : oneS c ap call t { s with steps := s.steps + 1 } r = ({ (calm c.inp t s r).1 with steps := s.steps + 1 }, (calm c.inp t s r).2) := by
  unfold oneS calm
  rcases ho with h | h | h <;> simp [h]
  · split <;> rfl
  · exact hl
theorem calm_fin {inp : ByteArray} {t : Tac} {s : RS} {r : List Int} : (calm inp t s r).1.fin = s.fin := by
  unfold calm
  split
  · rfl
  split
  · split <;> rfl
  · rfl
theorem calm_out {inp : ByteArray} {t : Tac} {s : RS} {r : List Int} : (calm inp t s r).1.out.length ≤ s.out.length + 1 := by
  unfold calm
  split
  · simp
  split
  · split <;> simp
  · simp
theorem ins_calm {c : RC} {ap : Int → Int → Int → Int × Int} {call : Int → RS → RS} : ∀ (l : List Tac) (s : RS) (r : List Int), (∀ t ∈ l, t.op = 2 ∨ t.op = 8 ∨ t.op = 9) → s.fin = 0 → s.steps + l.length ≤ c.fuel → s.out.length + l.length < 65536 → insS c ap call l s r = ((calms c.inp l s r).1, (calms c.inp l s r).2, true) ∧ (calms c.inp l s r).1.fin = 0 ∧ (calms c.inp l s r).1.steps = s.steps + l.length
  | [], s, r, _, hf, _, _ => ⟨rfl, hf, by simp [calms]⟩
  | t :: l, s, r, ho, hf, hs, hl => by
    simp only [List.length_cons] at hs hl ⊢
    unfold insS
    rw [if_neg (by omega), one_calm (ho t List.mem_cons_self) (by omega)]
    have e : ({ (calm c.inp t s r).1 with steps := s.steps + 1 } : RS).fin = 0 := by show (calm c.inp t s r).1.fin = 0; rw [calm_fin]; exact hf
    simp only [ne_eq]
    rw [if_neg (by simpa using e)]
    have hb := calm_out (inp := c.inp) (t := t) (s := s) (r := r)
    have ih := ins_calm (c := c) (ap := ap) (call := call) l { (calm c.inp t s r).1 with steps := s.steps + 1 } (calm c.inp t s r).2 (fun u hu => ho u (List.mem_cons_of_mem _ hu)) e (by show s.steps + 1 + _ ≤ _; omega) (by show (calm c.inp t s r).1.out.length + _ < _; omega)
    refine ⟨ih.1, ih.2.1, ?_⟩
    show (calms c.inp l _ _).1.steps = _
    rw [ih.2.2]
    show s.steps + 1 + _ = _
    omega
/-- One function of one block that returns. -/
theorem run_calm {regs : Int} {ins : List Tac} {inp : ByteArray} (ho : ∀ t ∈ ins, t.op = 2 ∨ t.op = 8 ∨ t.op = 9) (hl : ins.length < 99) : runS ⟨0, [⟨regs, [⟨ins, 3, 0, 0, 0⟩]⟩], inp, 99⟩ = (let p := calms inp ins ⟨[], [], 0, 0, 0⟩ (List.replicate regs.toNat 0); { p.1 with steps := p.1.steps + 1 }) ∧ (runS ⟨0, [⟨regs, [⟨ins, 3, 0, 0, 0⟩]⟩], inp, 99⟩).fin = 0 := by
  have hi := fun call => ins_calm (c := ⟨0, [⟨regs, [⟨ins, 3, 0, 0, 0⟩]⟩], inp, 99⟩) (ap := apD) (call := call) ins ⟨[], [], 0, 0, 0⟩ (List.replicate regs.toNat 0) ho rfl (by show (0 : Int) + _ ≤ 99; omega) (by show 0 + _ < _; omega)
  have e : runS ⟨0, [⟨regs, [⟨ins, 3, 0, 0, 0⟩]⟩], inp, 99⟩ = (let p := calms inp ins ⟨[], [], 0, 0, 0⟩ (List.replicate regs.toNat 0); { p.1 with steps := p.1.steps + 1 }) := by
    unfold runS callS
    show loopS _ apD (99 + 1) _ 0 (beginS _) _ = _
    unfold loopS
    simp only [Int.toNat_zero, List.getElem?_cons_zero]
    have hb : beginS ⟨0, [⟨regs, [⟨ins, 3, 0, 0, 0⟩]⟩], inp, 99⟩ = ⟨[], [], 0, 0, 0⟩ := rfl
    rw [hb, (hi _).1]
    simp only [Bool.true_eq_false, if_false]
    rw [if_neg (by rw [(hi fun _ s => s).2.2]; show ¬ (99 : Int) ≤ 0 + _; omega)]
    rfl
  exact ⟨e, by rw [e]; exact (hi fun _ s => s).2.1⟩
/-! ### chains -/
def getT (d : Int) : Tac := ⟨8, d, 0, 0, 0, 0, 0, 0⟩
def copyT (d a : Int) : Tac := ⟨2, d, a, 0, 0, 0, 0, 0⟩
def putT (a : Int) : Tac := ⟨9, 0, a, 0, 0, 0, 0, 0⟩
/-- The first k instructions of a chain. -/
def chainL : Nat → List Tac
  | 0 => [getT 0]
  | k + 1 => chainL k ++ [copyT (k + 1 : Nat) (k : Nat)]
def chainB (m : Nat) : Blk := ⟨chainL m ++ [putT m], 3, 0, 0, 0⟩
def chainF (m : Nat) : Fn := ⟨(m + 1 : Nat), [chainB m]⟩
theorem chain_len : ∀ k, (chainL k).length = k + 1
  | 0 => rfl
  | k + 1 => by simp [chainL, chain_len k]
theorem chain_ops : ∀ k, ∀ t ∈ chainL k, t.op = 2 ∨ t.op = 8 ∨ t.op = 9
  | 0, t, h => by simp [chainL] at h; subst h; exact .inr (.inl rfl)
  | k + 1, t, h => by
    simp only [chainL, List.mem_append, List.mem_singleton] at h
    rcases h with h | rfl
    · exact chain_ops k t h
    · exact .inl rfl
theorem chainB_ops (m : Nat) : ∀ t ∈ (chainB m).ins, t.op = 2 ∨ t.op = 8 ∨ t.op = 9 := fun t h => by
  simp only [chainB, List.mem_append, List.mem_singleton] at h
  rcases h with h | rfl
  · exact chain_ops m t h
  · exact .inr (.inr rfl)
theorem chain_one : ∀ m : Fin 13, oneB (chainF m.val) 0 0 = true := by decide +kernel
theorem chain_fwd : ∀ (m : Fin 13) (i : Fin 14), 1 ≤ i.val → i.val ≤ m.val + 1 → ((fwdBlk (m.val + 1 : Nat) (chainB m.val)).ins[i.val]?).map (·.a) = some 0 := by decide +kernel
theorem U0 : U 0 := by unfold U; omega
theorem chain_U (k : Nat) : ∀ t ∈ chainL k, t.n = 0 := by
  induction k with
  | zero => intro t h; simp [chainL] at h; subst h; rfl
  | succ k ih =>
    intro t h
    simp only [chainL, List.mem_append, List.mem_singleton] at h
    rcases h with h | rfl
    · exact ih t h
    · rfl
theorem chain_good {m : Nat} (hm : m < 13) : FnGood (chainF m) 0 0 := by
  refine good_mk (chain_one ⟨m, hm⟩) (by simp [chainF]) (fun b hb => ?_) fun b hb t ht => ?_
  · simp only [chainF, List.mem_singleton] at hb
    subst hb; simp [chainB, chain_len]; omega
  · simp only [chainF, List.mem_singleton] at hb
    subst hb
    simp only [chainB, List.mem_append, List.mem_singleton] at ht
    rcases ht with h | rfl
    · rw [chain_U m t h]; exact U0
    · exact U0
theorem chain_fin {m : Nat} (hm : m < 13) (inp : ByteArray) : (runS ⟨0, [fwdFn (chainF m)], inp, 99⟩).fin = 0 := by
  have h1 := run_fwdS (nw := 0) (fuel := 99) (fs := [chainF m]) (inp := inp) fun g hg => by
    rw [List.mem_singleton] at hg; subst hg; exact okS_of (chain_one ⟨m, hm⟩) (chain_good hm)
  rw [List.map_cons, List.map_nil] at h1
  rw [h1]
  exact (run_calm (chainB_ops m) (by simp [chainB, chain_len]; omega)).2
end Go.Proofs.Ytmfhdhiaokejdaa

namespace Go.Proofs.Ytmfhdhiaokejdaa
open Go Go.Ab
set_option linter.unusedSimpArgs false
set_option linter.unusedVariables false
theorem map_row1 (m : Nat) (ins : List Tac) : ([⟨ins, 3, 0, 0, 0⟩] : List Blk).map Blk.row = [[.sl false 8 (ins.map Tac.row), iv 3, iv 0, iv 0, iv 0]] := rfl
/-- A small function of one block that returns, forwarded, and run. -/
theorem one_all {m : Nat} {ins : List Tac} (hm : m ≤ 20) (hl : ins.length < 99) (ho : ∀ t ∈ ins, t.op = 2 ∨ t.op = 8 ∨ t.op = 9) (h1 : oneB ⟨m, [⟨ins, 3, 0, 0, 0⟩]⟩ 0 0 = true) (hU : ∀ t ∈ ins, t.n = 0) : ∃ L, L = (fwdBlk m ⟨ins, 3, 0, 0, 0⟩).ins ∧ L.length = ins.length ∧
    (lim Try.prog E31 X31).dat 13 [.agg [iv m, .sl false 5 [[.sl false 8 (ins.map Tac.row), iv 3, iv 0, iv 0, iv 0]]]] = some [.agg [iv m, .vec 5 [[.sl false 8 (L.map Tac.row), iv 3, iv 0, iv 0, iv 0]]], .agg [.vec 1 [gC m ⟨ins, 3, 0, 0, 0⟩]]] ∧
    (∀ inp : ByteArray, inp.size ≤ 1048576 → (lim Try.prog E31 X31).dat 20 [.agg [iv 0, .sl false 2 [[iv m, .sl false 5 [[.sl false 8 (L.map Tac.row), iv 3, iv 0, iv 0, iv 0]]]]], .sc (.string inp), iv 99] = some [.agg (tellS (runS ⟨0, [⟨m, [⟨ins, 3, 0, 0, 0⟩]⟩], inp, 99⟩))]) := by
  obtain ⟨r1, r2, r3, r4⟩ := one_okR h1
  have hg : FnGood ⟨m, [⟨ins, 3, 0, 0, 0⟩]⟩ 0 0 := good_mk h1 (by simp) (fun b hb => by simp at hb; subst hb; show ins.length ≤ _; omega) fun b hb t ht => by
    simp at hb; subst hb; rw [hU t ht]; exact U0
  refine ⟨_, rfl, fwdBlk_len _ _, ?_, fun inp hi => ?_⟩
  · have := d13 m [⟨ins, 3, 0, 0, 0⟩] (by omega) (by simp) (fun b hb => by simp at hb; subst hb; show ins.length ≤ _; omega) (by simpa using r4)
    simpa [gB, fwdBlk] using this
  · have h := d20 ⟨0, [fwdFn ⟨m, [⟨ins, 3, 0, 0, 0⟩]⟩], inp, 99⟩ ⟨by show (0 : Int) ≤ _; omega, hi, by show (99 : Int) ≤ _; omega⟩ (Int.le_refl _) (by show (0 : Int) ≤ 99; omega) (by simp) (by simp) fun i f hf => by
      cases i with
      | zero =>
        simp at hf; subst hf
        exact good_fwd h1 hg
      | succ i => simp at hf
    have e := run_fwdS (nw := 0) (fuel := 99) (fs := [⟨m, [⟨ins, 3, 0, 0, 0⟩]⟩]) (inp := inp) fun g hm => by
      rw [List.mem_singleton] at hm; subst hm; exact okS_of h1 hg
    rw [List.map_cons, List.map_nil] at e
    rw [e] at h
    simpa [fwdFn, fwdBlk] using h
set_option maxHeartbeats 8000000 in
theorem d8 (n : Int) (inp : ByteArray) (hn0 : 0 ≤ n) (hn1 : n < 256) (hi : inp.size ≤ 1048576) : (lim Try.prog E31 X31).dat 8 [.sc (.int .u8 n), .sc (.string inp)] = some [bv true] := by
  refine fnW Try.func8 rfl rfl bodyOk_8 rfl rtys_8 rfl ?_
  by_cases hA : 60 < inp.size
  · have n1 : (60 : Int) < inp.size := by omega
    repeat' (first
      | ((with_reducible apply Wo_u); (conv => lhs; simp -implicitDefEqProofs [*]) <;> exact rfl)
      | ((with_reducible apply Wo_n); (conv => lhs; simp -implicitDefEqProofs [*]) <;> exact rfl)
      | (with_reducible apply Wo_nil)
      | ((with_reducible apply Wo_gt); (exact rfl); ((conv => lhs; simp -implicitDefEqProofs [*]) <;> exact rfl); (conv => lhs; simp -implicitDefEqProofs [*]) <;> exact rfl)
      | ((with_reducible apply Wo_gf); (exact rfl); ((conv => lhs; simp -implicitDefEqProofs [*]) <;> exact rfl); (exact rfl))
      | ((with_reducible apply Wo_gx); (exact rfl); ((conv => lhs; simp -implicitDefEqProofs [*]) <;> exact rfl))
      | ((with_reducible apply Wo_gsT); (exact rfl); ((conv => lhs; simp -implicitDefEqProofs [*]) <;> exact rfl))
      | ((with_reducible apply Wo_gsF); (exact rfl); ((conv => lhs; simp -implicitDefEqProofs [*]) <;> exact rfl))
      | ((with_reducible apply ex2); (conv => lhs; simp -implicitDefEqProofs [*]) <;> exact rfl)
      | (with_reducible apply W_ss) | (with_reducible apply W_srl) | (with_reducible apply W_rl)
      | ((with_reducible apply W_sc); (conv => lhs; simp -implicitDefEqProofs [*]) <;> exact rfl)
      | ((with_reducible apply W_c); (conv => lhs; simp -implicitDefEqProofs [*]) <;> exact rfl)
      | ((with_reducible apply W_srdl); kernel_rfl) | ((with_reducible apply W_rdl); kernel_rfl)
      | ((with_reducible apply Wd_u); (conv => lhs; simp -implicitDefEqProofs [*]) <;> exact rfl)
      | ((with_reducible apply Wd_n); (conv => lhs; simp -implicitDefEqProofs [*]) <;> exact rfl)
      | ((with_reducible apply Wd_nil); exact rfl)
      | ((with_reducible apply Wd_gsT); (exact rfl); ((conv => lhs; simp -implicitDefEqProofs [*]) <;> exact rfl))
      | ((with_reducible apply Wd_gsF); (exact rfl); ((conv => lhs; simp -implicitDefEqProofs [*]) <;> exact rfl))
      | ((with_reducible apply ex4); (conv => lhs; simp -implicitDefEqProofs [*]) <;> exact rfl)
      | (with_reducible apply W_sblock) | (with_reducible apply W_block) | (with_reducible apply W_sskip) | (with_reducible apply W_skip) | (with_reducible apply W_sret) | (with_reducible apply W_ret) | (with_reducible apply W_sexit) | (with_reducible apply W_exit)
      | (with_reducible apply thenW_n) | (with_reducible apply thenW_r) | (with_reducible apply thenW_e) | (with_reducible apply inB_n) | (with_reducible apply inB_r) | (with_reducible apply inB_e) | ((with_reducible apply inB_o); rotate_left; exact rfl)
      | ((with_reducible apply EndQ_ret); (conv => lhs; simp -implicitDefEqProofs [*]) <;> exact rfl) | ((with_reducible apply EndQ_normal); (conv => lhs; simp -implicitDefEqProofs [*]) <;> exact rfl)
      | (intro h h'; try simp [*, -h] at h'))
    all_goals simp [*]
  · have n1 : ¬ (60 : Int) < inp.size := by omega
    obtain ⟨m, hm0, hm1, hwm⟩ : ∃ m : Nat, 1 ≤ m ∧ m ≤ 12 ∧ IntKind.i64.wrap (1 + IntKind.i64.wrap (n.tmod 12)) = m := by
      have h1 : 0 ≤ n.tmod 12 := Int.tmod_nonneg _ hn0
      have h2 : n.tmod 12 < 12 := Int.tmod_lt_of_pos _ (by omega)
      refine ⟨(1 + n.tmod 12).toNat, by omega, by omega, ?_⟩
      rw [wrap64 (n := n.tmod 12) (by omega) (by omega), wrap64 (by omega) (by omega)]; omega
    have hcf : ∀ i : Nat, 1 ≤ i → i ≤ m + 1 → ((fwdBlk (m + 1 : Nat) (chainB m)).ins[i]?).map (·.a) = some 0 := fun i h1 h2 => chain_fwd ⟨m, by omega⟩ ⟨i, by omega⟩ h1 h2
    have hblen : (chainL m ++ [putT m]).length = m + 2 := by simp [chain_len]
    have hfin : (runS ⟨0, [⟨(m + 1 : Nat), [⟨chainL m ++ [putT m], 3, 0, 0, 0⟩]⟩], inp, 99⟩).fin = 0 := (run_calm (chainB_ops m) (by show (chainL m ++ [putT m]).length < 99; omega)).2
    obtain ⟨L, hL, hLl, h13, h20⟩ := one_all (m := m + 1) (ins := chainL m ++ [putT m]) (by omega) (by omega) (chainB_ops m) (chain_one ⟨m, by omega⟩) fun t ht => by
      simp only [List.mem_append, List.mem_singleton] at ht
      rcases ht with h | rfl
      · exact chain_U m t h
      · rfl
    rw [show (fwdBlk (m + 1 : Nat) (chainB m)).ins = L from hL.symm] at hcf
    replace h20 := h20 inp hi
    obtain ⟨B, C, hT⟩ : ∃ (B : ByteArray) (C : Int), tellS (runS ⟨0, [⟨(m + 1 : Nat), [⟨chainL m ++ [putT m], 3, 0, 0, 0⟩]⟩], inp, 99⟩) = [iv 1, .sc (.string B), iv C] := ⟨_, _, by unfold tellS; rw [hfin]; rfl⟩
    rw [hT] at h20
    rw [hblen] at hLl
    simp only [Int.natCast_add, Int.natCast_one, Int.cast_ofNat_Int] at h13 h20
    generalize hins : chainL m ++ [putT m] = ins at h13 h20
    have hblen2 : ins.length = m + 2 := by rw [← hins]; exact hblen
    have CF := Lib.hid hcf
    clear hcf hfin hT hL hblen
    have hpm : (chainL m).map Tac.row ++ [[iv 9, iv 0, iv m, iv 0, iv 0, iv 0, iv 0, uv 0]] = ins.map Tac.row := by rw [← hins]; simp [putT]
    have hitk : (ins.map Tac.row).take (m + 2) = ins.map Tac.row := List.take_of_length_le (by simp [hblen2])
    have hLtk : (L.map Tac.row).take (m + 2) = L.map Tac.row := List.take_of_length_le (by simp [hLl])
    have hins2 := Lib.hid hins
    clear hins
    repeat' (first
      | ((with_reducible apply Wo_u); (conv => lhs; simp -implicitDefEqProofs [*]) <;> exact rfl)
      | ((with_reducible apply Wo_n); (conv => lhs; simp -implicitDefEqProofs [*]) <;> exact rfl)
      | (with_reducible apply Wo_nil)
      | ((with_reducible apply Wo_gt); (exact rfl); ((conv => lhs; simp -implicitDefEqProofs [*]) <;> exact rfl); (conv => lhs; simp -implicitDefEqProofs [*]) <;> exact rfl)
      | ((with_reducible apply Wo_gf); (exact rfl); ((conv => lhs; simp -implicitDefEqProofs [*]) <;> exact rfl); (exact rfl))
      | ((with_reducible apply Wo_gx); (exact rfl); ((conv => lhs; simp -implicitDefEqProofs [*]) <;> exact rfl))
      | ((with_reducible apply Wo_gsT); (exact rfl); ((conv => lhs; simp -implicitDefEqProofs [*]) <;> exact rfl))
      | ((with_reducible apply Wo_gsF); (exact rfl); ((conv => lhs; simp -implicitDefEqProofs [*]) <;> exact rfl))
      | ((with_reducible apply ex2); (conv => lhs; simp -implicitDefEqProofs [*]) <;> exact rfl)
      | (with_reducible apply W_ss) | (with_reducible apply W_srl) | (with_reducible apply W_rl)
      | ((with_reducible apply W_sc); (conv => lhs; simp -implicitDefEqProofs [*]) <;> exact rfl)
      | ((with_reducible apply W_c); (conv => lhs; simp -implicitDefEqProofs [*]) <;> exact rfl)
      | ((with_reducible apply W_srdl); kernel_rfl) | ((with_reducible apply W_rdl); kernel_rfl)
      | ((with_reducible apply Wd_u); (conv => lhs; simp -implicitDefEqProofs [*]) <;> exact rfl)
      | ((with_reducible apply Wd_n); (conv => lhs; simp -implicitDefEqProofs [*]) <;> exact rfl)
      | ((with_reducible apply Wd_nil); exact rfl)
      | ((with_reducible apply Wd_gsT); (exact rfl); ((conv => lhs; simp -implicitDefEqProofs [*]) <;> exact rfl))
      | ((with_reducible apply Wd_gsF); (exact rfl); ((conv => lhs; simp -implicitDefEqProofs [*]) <;> exact rfl))
      | ((with_reducible apply ex4); (conv => lhs; simp -implicitDefEqProofs [*]) <;> exact rfl)
      | (with_reducible apply W_sblock) | (with_reducible apply W_block) | (with_reducible apply W_sskip) | (with_reducible apply W_skip) | (with_reducible apply W_sret) | (with_reducible apply W_ret) | (with_reducible apply W_sexit) | (with_reducible apply W_exit)
      | (with_reducible apply thenW_n) | (with_reducible apply thenW_r) | (with_reducible apply thenW_e) | (with_reducible apply inB_n) | (with_reducible apply inB_r) | (with_reducible apply inB_e) | ((with_reducible apply inB_o); rotate_left; exact rfl)
      | ((with_reducible apply EndQ_ret); (conv => lhs; simp -implicitDefEqProofs [*]) <;> exact rfl) | ((with_reducible apply EndQ_normal); (conv => lhs; simp -implicitDefEqProofs [*]) <;> exact rfl)
      | (intro h h'; try simp [*, -h] at h'))
    refine W_loopS (n := m) (fun s0 w s => ∃ k g : Nat, w = m - k ∧ k ≤ m ∧ s.fr 7 = iv ((k : Int) + 1) ∧ s.fr 1 = s0.fr 1 ∧ s.fr 5 = s0.fr 5 ∧ s.fr 6 = s0.fr 6 ∧ s.hp ⟨0, 6, 0⟩ = .box (s0.hp ⟨0, 6, 0⟩).gen [.own ⟨0, 6, 1⟩ g (k + 1), iv 3, iv 0, iv 0, iv 0] false ∧ s.hp ⟨0, 6, 1⟩ = .arr g 8 40 ((chainL k).map Tac.row) false) ⟨0, 2, by simp, by omega, by simp, by simp, by simp, by simp, by simp, by simp [chainL, getT]⟩ ?_
    rintro w ⟨fr, hp⟩ ⟨k, g, rfl, hk, hs7, hs1, hs5, hs6, hh6, hh61⟩
    simp at hs7 hs1 hs5 hs6 hh6 hh61
    have hcl := chain_len k
    by_cases hlt : k < m
    · have hlI : (k : Int) + 1 ≤ m := by omega
      have hwk : IntKind.i64.wrap (k : Int) = k := wrap64 (by omega) (by omega)
      have hwk2 : IntKind.i64.wrap ((k : Int) + 1 + 1) = (k : Int) + 1 + 1 := wrap64 (by omega) (by omega)
      have hpre : (chainL k).map Tac.row ++ [[iv 2, iv ((k : Int) + 1), iv k, iv 0, iv 0, iv 0, iv 0, uv 0]] = (chainL (k + 1)).map Tac.row := by simp [chainL, copyT]
      have hby : (k + 1 + 1) * 64 ≤ 140737488355328 := by omega
      have hby1 : (k + 2) * 64 ≤ 140737488355328 := by omega
      have hby2 : k + 1 ≤ 9223372036854775806 := by omega
      have hby3 : k ≤ 9223372036854775805 := by omega
      repeat' (first
        | ((with_reducible apply Wo_u); (conv => lhs; simp -implicitDefEqProofs [*]) <;> exact rfl)
        | ((with_reducible apply Wo_n); (conv => lhs; simp -implicitDefEqProofs [*]) <;> exact rfl)
        | (with_reducible apply Wo_nil)
        | ((with_reducible apply Wo_gt); (exact rfl); ((conv => lhs; simp -implicitDefEqProofs [*]) <;> exact rfl); (conv => lhs; simp -implicitDefEqProofs [*]) <;> exact rfl)
        | ((with_reducible apply Wo_gf); (exact rfl); ((conv => lhs; simp -implicitDefEqProofs [*]) <;> exact rfl); (exact rfl))
        | ((with_reducible apply Wo_gx); (exact rfl); ((conv => lhs; simp -implicitDefEqProofs [*]) <;> exact rfl))
        | ((with_reducible apply Wo_gsT); (exact rfl); ((conv => lhs; simp -implicitDefEqProofs [*]) <;> exact rfl))
        | ((with_reducible apply Wo_gsF); (exact rfl); ((conv => lhs; simp -implicitDefEqProofs [*]) <;> exact rfl))
        | ((with_reducible apply ex2); (conv => lhs; simp -implicitDefEqProofs [*]) <;> exact rfl)
        | (with_reducible apply W_ss) | (with_reducible apply W_srl) | (with_reducible apply W_rl)
        | ((with_reducible apply W_sc); (conv => lhs; simp -implicitDefEqProofs [*]) <;> exact rfl)
        | ((with_reducible apply W_c); (conv => lhs; simp -implicitDefEqProofs [*]) <;> exact rfl)
        | ((with_reducible apply W_srdl); kernel_rfl) | ((with_reducible apply W_rdl); kernel_rfl)
        | ((with_reducible apply Wd_u); (conv => lhs; simp -implicitDefEqProofs [*]) <;> exact rfl)
        | ((with_reducible apply Wd_n); (conv => lhs; simp -implicitDefEqProofs [*]) <;> exact rfl)
        | ((with_reducible apply Wd_nil); exact rfl)
        | ((with_reducible apply Wd_gsT); (exact rfl); ((conv => lhs; simp -implicitDefEqProofs [*]) <;> exact rfl))
        | ((with_reducible apply Wd_gsF); (exact rfl); ((conv => lhs; simp -implicitDefEqProofs [*]) <;> exact rfl))
        | ((with_reducible apply ex4); (conv => lhs; simp -implicitDefEqProofs [*]) <;> exact rfl)
        | (with_reducible apply W_sblock) | (with_reducible apply W_block) | (with_reducible apply W_sskip) | (with_reducible apply W_skip) | (with_reducible apply W_sret) | (with_reducible apply W_ret) | (with_reducible apply W_sexit) | (with_reducible apply W_exit)
        | (with_reducible apply thenW_n) | (with_reducible apply thenW_r) | (with_reducible apply thenW_e) | (with_reducible apply inB_n) | (with_reducible apply inB_r) | (with_reducible apply inB_e) | ((with_reducible apply inB_o); rotate_left; exact rfl)
        | ((with_reducible apply EndQ_ret); (conv => lhs; simp -implicitDefEqProofs [*]) <;> exact rfl) | ((with_reducible apply EndQ_normal); (conv => lhs; simp -implicitDefEqProofs [*]) <;> exact rfl)
        | (intro h h'; try simp [*, -h] at h'))
      exact ⟨_, by omega, k + 1, g + 1, rfl, hlt, by simp, by simp [*], by simp [*], by simp [*], by simp [*], by simp [*]⟩
    · obtain rfl : k = m := by omega
      have hlI : ¬ (k : Int) + 1 ≤ k := by omega
      have hby : (k + 1 + 1) * 64 ≤ 140737488355328 := by omega
      have hby1 : (k + 2) * 64 ≤ 140737488355328 := by omega
      have hby2 : k + 1 ≤ 9223372036854775806 := by omega
      have hby3 : k ≤ 9223372036854775805 := by omega
      have hwm1 : IntKind.i64.wrap ((k : Int) + 1) = (k : Int) + 1 := wrap64 (by omega) (by omega)
      have hwm2 : IntKind.i64.wrap ((k : Int) + 2) = (k : Int) + 2 := wrap64 (by omega) (by omega)
      repeat' (first
        | ((with_reducible apply Wo_u); (conv => lhs; simp -implicitDefEqProofs [*]) <;> exact rfl)
        | ((with_reducible apply Wo_n); (conv => lhs; simp -implicitDefEqProofs [*]) <;> exact rfl)
        | (with_reducible apply Wo_nil)
        | ((with_reducible apply Wo_gt); (exact rfl); ((conv => lhs; simp -implicitDefEqProofs [*]) <;> exact rfl); (conv => lhs; simp -implicitDefEqProofs [*]) <;> exact rfl)
        | ((with_reducible apply Wo_gf); (exact rfl); ((conv => lhs; simp -implicitDefEqProofs [*]) <;> exact rfl); (exact rfl))
        | ((with_reducible apply Wo_gx); (exact rfl); ((conv => lhs; simp -implicitDefEqProofs [*]) <;> exact rfl))
        | ((with_reducible apply Wo_gsT); (exact rfl); ((conv => lhs; simp -implicitDefEqProofs [*]) <;> exact rfl))
        | ((with_reducible apply Wo_gsF); (exact rfl); ((conv => lhs; simp -implicitDefEqProofs [*]) <;> exact rfl))
        | ((with_reducible apply ex2); (conv => lhs; simp -implicitDefEqProofs [*]) <;> exact rfl)
        | (with_reducible apply W_ss) | (with_reducible apply W_srl) | (with_reducible apply W_rl)
        | ((with_reducible apply W_sc); (conv => lhs; simp -implicitDefEqProofs [*]) <;> exact rfl)
        | ((with_reducible apply W_c); (conv => lhs; simp -implicitDefEqProofs [*]) <;> exact rfl)
        | ((with_reducible apply W_srdl); kernel_rfl) | ((with_reducible apply W_rdl); kernel_rfl)
        | ((with_reducible apply Wd_u); (conv => lhs; simp -implicitDefEqProofs [*]) <;> exact rfl)
        | ((with_reducible apply Wd_n); (conv => lhs; simp -implicitDefEqProofs [*]) <;> exact rfl)
        | ((with_reducible apply Wd_nil); exact rfl)
        | ((with_reducible apply Wd_gsT); (exact rfl); ((conv => lhs; simp -implicitDefEqProofs [*]) <;> exact rfl))
        | ((with_reducible apply Wd_gsF); (exact rfl); ((conv => lhs; simp -implicitDefEqProofs [*]) <;> exact rfl))
        | ((with_reducible apply ex4); (conv => lhs; simp -implicitDefEqProofs [*]) <;> exact rfl)
        | (with_reducible apply W_sblock) | (with_reducible apply W_block) | (with_reducible apply W_sskip) | (with_reducible apply W_skip) | (with_reducible apply W_sret) | (with_reducible apply W_ret) | (with_reducible apply W_sexit) | (with_reducible apply W_exit)
        | (with_reducible apply thenW_n) | (with_reducible apply thenW_r) | (with_reducible apply thenW_e) | (with_reducible apply inB_n) | (with_reducible apply inB_r) | (with_reducible apply inB_e) | ((with_reducible apply inB_o); rotate_left; exact rfl)
        | ((with_reducible apply EndQ_ret); (conv => lhs; simp -implicitDefEqProofs [*]) <;> exact rfl) | ((with_reducible apply EndQ_normal); (conv => lhs; simp -implicitDefEqProofs [*]) <;> exact rfl)
        | (intro h h'; try simp [*, -h] at h'))
      refine W_loopS (n := k) (fun s0 w s => ∃ j : Nat, w = k - j ∧ j ≤ k ∧ s.fr 10 = iv ((j : Int) + 1) ∧ s.fr 1 = s0.fr 1 ∧ s.fr 5 = s0.fr 5 ∧ s.fr 8 = s0.fr 8 ∧ s.hp ⟨0, 8, 0⟩ = s0.hp ⟨0, 8, 0⟩ ∧ s.hp ⟨0, 8, 2⟩ = s0.hp ⟨0, 8, 2⟩) ⟨0, by simp, by omega, by simp, by simp, by simp, by simp, by simp, by simp⟩ ?_
      rintro w ⟨fr2, hp2⟩ ⟨j, rfl, hj, is10, is1, is5, is8, ih8, ih82⟩
      simp [*] at is10 is1 is5 is8 ih8 ih82
      by_cases hlj : j < k
      · have hjI : (j : Int) + 1 ≤ k := by omega
        have hwj : IntKind.i64.wrap ((j : Int) + 1 + 1) = (j : Int) + 1 + 1 := wrap64 (by omega) (by omega)
        have hjl : j + 1 < L.length := by omega
        have hg := List.getElem?_eq_getElem hjl
        have hza : L[j + 1].a = 0 := by
          have := CF.out (j + 1) (by omega) (by omega)
          rw [hg] at this; simpa using this
        have hjk : j < k + 1 := by omega
        have hjk2 : j + 1 < k + 2 := by omega
        repeat' (first
          | ((with_reducible apply Wo_u); (conv => lhs; simp -implicitDefEqProofs [*]) <;> exact rfl)
          | ((with_reducible apply Wo_n); (conv => lhs; simp -implicitDefEqProofs [*]) <;> exact rfl)
          | (with_reducible apply Wo_nil)
          | ((with_reducible apply Wo_gt); (exact rfl); ((conv => lhs; simp -implicitDefEqProofs [*]) <;> exact rfl); (conv => lhs; simp -implicitDefEqProofs [*]) <;> exact rfl)
          | ((with_reducible apply Wo_gf); (exact rfl); ((conv => lhs; simp -implicitDefEqProofs [*]) <;> exact rfl); (exact rfl))
          | ((with_reducible apply Wo_gx); (exact rfl); ((conv => lhs; simp -implicitDefEqProofs [*]) <;> exact rfl))
          | ((with_reducible apply Wo_gsT); (exact rfl); ((conv => lhs; simp -implicitDefEqProofs [*]) <;> exact rfl))
          | ((with_reducible apply Wo_gsF); (exact rfl); ((conv => lhs; simp -implicitDefEqProofs [*]) <;> exact rfl))
          | ((with_reducible apply ex2); (conv => lhs; simp -implicitDefEqProofs [*]) <;> exact rfl)
          | (with_reducible apply W_ss) | (with_reducible apply W_srl) | (with_reducible apply W_rl)
          | ((with_reducible apply W_sc); (conv => lhs; simp -implicitDefEqProofs [*]) <;> exact rfl)
          | ((with_reducible apply W_c); (conv => lhs; simp -implicitDefEqProofs [*]) <;> exact rfl)
          | ((with_reducible apply W_srdl); kernel_rfl) | ((with_reducible apply W_rdl); kernel_rfl)
          | ((with_reducible apply Wd_u); (conv => lhs; simp -implicitDefEqProofs [*]) <;> exact rfl)
          | ((with_reducible apply Wd_n); (conv => lhs; simp -implicitDefEqProofs [*]) <;> exact rfl)
          | ((with_reducible apply Wd_nil); exact rfl)
          | ((with_reducible apply Wd_gsT); (exact rfl); ((conv => lhs; simp -implicitDefEqProofs [*]) <;> exact rfl))
          | ((with_reducible apply Wd_gsF); (exact rfl); ((conv => lhs; simp -implicitDefEqProofs [*]) <;> exact rfl))
          | ((with_reducible apply ex4); (conv => lhs; simp -implicitDefEqProofs [*]) <;> exact rfl)
          | (with_reducible apply W_sblock) | (with_reducible apply W_block) | (with_reducible apply W_sskip) | (with_reducible apply W_skip) | (with_reducible apply W_sret) | (with_reducible apply W_ret) | (with_reducible apply W_sexit) | (with_reducible apply W_exit)
          | (with_reducible apply thenW_n) | (with_reducible apply thenW_r) | (with_reducible apply thenW_e) | (with_reducible apply inB_n) | (with_reducible apply inB_r) | (with_reducible apply inB_e) | ((with_reducible apply inB_o); rotate_left; exact rfl)
          | ((with_reducible apply EndQ_ret); (conv => lhs; simp -implicitDefEqProofs [*]) <;> exact rfl) | ((with_reducible apply EndQ_normal); (conv => lhs; simp -implicitDefEqProofs [*]) <;> exact rfl)
          | (intro h h'; try simp [*, -h] at h'))
        exact ⟨_, by omega, j + 1, rfl, hlj, by simp, by simp [*], by simp [*], by simp [*], by simp [*], by simp [*]⟩
      · obtain rfl : j = k := by omega
        have hjI : ¬ (j : Int) + 1 ≤ j := by omega
        have hjl : j + 1 < L.length := by omega
        have hg := List.getElem?_eq_getElem hjl
        have hza : L[j + 1].a = 0 := by
          have := CF.out (j + 1) (by omega) (by omega)
          rw [hg] at this; simpa using this
        repeat' (first
          | ((with_reducible apply Wo_u); (conv => lhs; simp -implicitDefEqProofs [*]) <;> exact rfl)
          | ((with_reducible apply Wo_n); (conv => lhs; simp -implicitDefEqProofs [*]) <;> exact rfl)
          | (with_reducible apply Wo_nil)
          | ((with_reducible apply Wo_gt); (exact rfl); ((conv => lhs; simp -implicitDefEqProofs [*]) <;> exact rfl); (conv => lhs; simp -implicitDefEqProofs [*]) <;> exact rfl)
          | ((with_reducible apply Wo_gf); (exact rfl); ((conv => lhs; simp -implicitDefEqProofs [*]) <;> exact rfl); (exact rfl))
          | ((with_reducible apply Wo_gx); (exact rfl); ((conv => lhs; simp -implicitDefEqProofs [*]) <;> exact rfl))
          | ((with_reducible apply Wo_gsT); (exact rfl); ((conv => lhs; simp -implicitDefEqProofs [*]) <;> exact rfl))
          | ((with_reducible apply Wo_gsF); (exact rfl); ((conv => lhs; simp -implicitDefEqProofs [*]) <;> exact rfl))
          | ((with_reducible apply ex2); (conv => lhs; simp -implicitDefEqProofs [*]) <;> exact rfl)
          | (with_reducible apply W_ss) | (with_reducible apply W_srl) | (with_reducible apply W_rl)
          | ((with_reducible apply W_sc); (conv => lhs; simp -implicitDefEqProofs [*]) <;> exact rfl)
          | ((with_reducible apply W_c); (conv => lhs; simp -implicitDefEqProofs [*]) <;> exact rfl)
          | ((with_reducible apply W_srdl); kernel_rfl) | ((with_reducible apply W_rdl); kernel_rfl)
          | ((with_reducible apply Wd_u); (conv => lhs; simp -implicitDefEqProofs [*]) <;> exact rfl)
          | ((with_reducible apply Wd_n); (conv => lhs; simp -implicitDefEqProofs [*]) <;> exact rfl)
          | ((with_reducible apply Wd_nil); exact rfl)
          | ((with_reducible apply Wd_gsT); (exact rfl); ((conv => lhs; simp -implicitDefEqProofs [*]) <;> exact rfl))
          | ((with_reducible apply Wd_gsF); (exact rfl); ((conv => lhs; simp -implicitDefEqProofs [*]) <;> exact rfl))
          | ((with_reducible apply ex4); (conv => lhs; simp -implicitDefEqProofs [*]) <;> exact rfl)
          | (with_reducible apply W_sblock) | (with_reducible apply W_block) | (with_reducible apply W_sskip) | (with_reducible apply W_skip) | (with_reducible apply W_sret) | (with_reducible apply W_ret) | (with_reducible apply W_sexit) | (with_reducible apply W_exit)
          | (with_reducible apply thenW_n) | (with_reducible apply thenW_r) | (with_reducible apply thenW_e) | (with_reducible apply inB_n) | (with_reducible apply inB_r) | (with_reducible apply inB_e) | ((with_reducible apply inB_o); rotate_left; exact rfl)
          | ((with_reducible apply EndQ_ret); (conv => lhs; simp -implicitDefEqProofs [*]) <;> exact rfl) | ((with_reducible apply EndQ_normal); (conv => lhs; simp -implicitDefEqProofs [*]) <;> exact rfl)
          | (intro h h'; try simp [*, -h] at h'))
        rfl
end Go.Proofs.Ytmfhdhiaokejdaa
