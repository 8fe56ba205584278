/- Law 31: the machine of blocks: its instructions. -/
import Derived.Test.YtmfhdhiaokejdaaK7
import Derived.Test.YtmfhdhiaokejdaaK6
import Derived.Test.YtmfhdhiaokejdaaK4
import Derived.Test.YtmfhdhiaokejdaaKf
import Derived.Lib.Hide
import Derived.Test.YtmfhdhiaokejdaaK8
namespace Go.Proofs.Ytmfhdhiaokejdaa
open Go Go.Ab
set_option linter.unusedSimpArgs false
set_option linter.unusedVariables false
structure RS where
  (words out : List Int)
  (read steps fin : Int)
structure RC where
  (nw : Int)
  (fs : List Fn)
  (inp : ByteArray)
  (fuel : Int)
def rg (r : List Int) (x : Int) : Int := r.getD x.toNat 0
/-- One instruction. -/
def oneS (c : RC) (ap : Int → Int → Int → Int × Int) (call : Int → RS → RS) (t : Tac) (s : RS) (r : List Int) : RS × List Int :=
  if t.op = 1 then (s, r.set t.d.toNat t.n)
  else if t.op = 2 then (s, r.set t.d.toNat (rg r t.a))
  else if t.op = 3 then (if (ap t.k (rg r t.a) (rg r t.b)).2 ≠ 0 then ({ s with fin := 2 }, r) else (s, r.set t.d.toNat (ap t.k (rg r t.a) (rg r t.b)).1))
  else if t.op = 4 then (s, r.set t.d.toNat (rg s.words t.base))
  else if t.op = 5 then ({ s with words := s.words.set t.base.toNat (rg r t.a) }, r)
  else if t.op = 6 then (if t.size ≤ rg r t.a then ({ s with fin := 3 }, r) else (s, r.set t.d.toNat (rg s.words (t.base + rg r t.a))))
  else if t.op = 7 then (if t.size ≤ rg r t.a then ({ s with fin := 3 }, r) else ({ s with words := s.words.set (t.base + rg r t.a).toNat (rg r t.b) }, r))
  else if t.op = 8 then (if s.read < c.inp.size then ({ s with read := s.read + 1 }, r.set t.d.toNat (c.inp.data.toList.getD s.read.toNat 0).toNat) else (s, r.set t.d.toNat 256))
  else if t.op = 9 then (if 65536 ≤ (s.out.length : Int) then ({ s with fin := 4 }, r) else ({ s with out := s.out ++ [rg r t.a % 256] }, r))
  else if t.op = 10 then (call t.base s, r)
  else (s, r)
/-- A block's instructions; true: all are done, and nothing has ended. -/
def insS (c : RC) (ap : Int → Int → Int → Int × Int) (call : Int → RS → RS) : List Tac → RS → List Int → RS × List Int × Bool
  | [], s, r => (s, r, true)
  | t :: ts, s, r => if c.fuel ≤ s.steps then ({ s with fin := 5 }, r, false) else
    let p := oneS c ap call t { s with steps := s.steps + 1 } r
    if p.1.fin ≠ 0 then (p.1, p.2, false) else insS c ap call ts p.1 p.2
/-- From a block on, with so many blocks to go at most. -/
def loopS (c : RC) (ap : Int → Int → Int → Int × Int) : Nat → Fn → Int → RS → List Int → RS
  | 0, _, _, s, _ => s
  | n + 1, f, pc, s, r => match f.blocks[pc.toNat]? with
    | none => s
    | some b =>
      let call := fun i s => match c.fs[i.toNat]? with
        | none => s
        | some g => loopS c ap n g 0 s (List.replicate g.regs.toNat 0)
      let p := insS c ap call b.ins s r
      if p.2.2 = false then p.1
      else if c.fuel ≤ p.1.steps then { p.1 with fin := 5 }
      else if b.en = 3 then { p.1 with steps := p.1.steps + 1 }
      else loopS c ap n f (if b.en = 2 ∧ rg p.2.1 b.v = 0 then b.el else b.to) { p.1 with steps := p.1.steps + 1 } p.2.1
/-! ### forwarding -/
/-- Each register holds what its source holds. -/
def Agree (l r : List Int) : Prop := ∀ v : Nat, v < r.length → rg r (atL l v) = rg r v
structure Tac.okS (t : Tac) (n : Nat) : Prop where
  ok : t.okR n
  d : setsB t.op = true → 0 ≤ t.d
theorem rg_set_ne {r : List Int} {d : Nat} {x y : Int} (h : y.toNat ≠ d) : rg (r.set d x) y = rg r y := by
  unfold rg
  rw [List.getD_eq_getElem?_getD, List.getD_eq_getElem?_getD, List.getElem?_set, if_neg (fun e => h e.symm)]
theorem rg_set_eq {r : List Int} {d : Nat} {x : Int} (h : d < r.length) : rg (r.set d x) d = x := by
  unfold rg
  rw [List.getD_eq_getElem?_getD, Int.toNat_natCast, List.getElem?_set, if_pos rfl, if_pos h]; rfl
theorem agree_id (n : Nat) (r : List Int) (h : r.length = n) : Agree (idL n) r := fun v hv => by
  have : atL (idL n) v = v := by
    unfold atL
    rw [List.getD_eq_getElem?_getD, Int.toNat_natCast, idL_get, if_pos (by omega)]; rfl
  rw [this]
theorem forget_at {l : List Int} {n d v : Nat} (hr : Rng l n) (hv : v < n) : atL (fwdForget l d) v = if v = d then (d : Int) else if atL l v = (d : Int) then (v : Int) else atL l v := by
  have hat := atL_get hr (x := (v : Int)) (by omega) (by omega)
  rw [Int.toNat_natCast] at hat
  have : (fwdForget l d)[v]? = some (if v = d then (d : Int) else if atL l v = (d : Int) then (v : Int) else atL l v) := by
    rw [forget_get, hat.1]
    by_cases e : v = d
    · subst e; rw [if_pos ⟨rfl, by rw [hr.1]; exact hv⟩, if_pos rfl]
    · rw [if_neg (fun h => e h.1), if_neg e]; rfl
  unfold atL at this ⊢
  rw [List.getD_eq_getElem?_getD, Int.toNat_natCast, this]; rfl
theorem agree_forget {l r : List Int} {n d : Nat} (hr : Rng l n) (hl : r.length = n) (hd : d < n) (h : Agree l r) (x : Int) : Agree (fwdForget l d) (r.set d x) := fun v hv => by
  rw [List.length_set] at hv
  rw [forget_at hr (by omega)]
  by_cases e : v = d
  · rw [if_pos e, e]
  · rw [if_neg e]
    split
    · rfl
    · rename_i hne
      have hat := atL_get hr (x := (v : Int)) (by omega) (by omega)
      rw [rg_set_ne (by omega), rg_set_ne (by rw [Int.toNat_natCast]; exact e)]
      exact h v hv
theorem agree_same {l r : List Int} {n d : Nat} (hr : Rng l n) (hl : r.length = n) (hd : d < n) (h : Agree l r) {a : Int} (h0 : 0 ≤ a) (h1 : a < n) (hne : atL l a ≠ (d : Int)) : Agree ((fwdForget l d).set d (atL l a)) (r.set d (rg r a)) := fun v hv => by
  have hf := agree_forget hr hl hd h (rg r a)
  have hat := atL_get hr h0 h1
  by_cases e : v = d
  · have : atL ((fwdForget l d).set d (atL l a)) v = atL l a := by
      unfold atL
      rw [List.getD_eq_getElem?_getD, Int.toNat_natCast, List.getElem?_set, if_pos e.symm, if_pos (by rw [forget_len, hr.1]; exact hd)]; rfl
    rw [this, e, rg_set_ne (by omega), rg_set_eq (by omega)]
    have := h a.toNat (by omega)
    rw [Int.toNat_of_nonneg h0] at this
    exact this
  · have : atL ((fwdForget l d).set d (atL l a)) v = atL (fwdForget l d) v := by
      unfold atL
      rw [List.getD_eq_getElem?_getD, Int.toNat_natCast, List.getElem?_set, if_neg (fun h => e h.symm), List.getD_eq_getElem?_getD]
    rw [this]; exact hf v hv
theorem agree_step {l r : List Int} {n : Nat} (hr : Rng l n) (hl : r.length = n) (h : Agree l r) {t : Tac} (ht : t.okS n) {x : Int} (hs : setsB t.op = true) (hx : t.op = 2 → x = rg r t.a) : Agree (fwdStep l t) (r.set t.d.toNat x) := by
  have e : t.sets = t.d := by unfold Tac.sets setsZ; rw [if_pos hs]
  have h0 := ht.d hs
  have h1 := ht.ok.2 (by omega)
  unfold fwdStep
  rw [e, if_pos h0]
  split
  · rename_i hop
    have ha := uses_a ht.ok (.inl hop.1)
    rw [hx hop.1]
    exact agree_same hr hl (by omega) h ha.1 ha.2 (by have := hop.2; omega)
  · exact agree_forget hr hl (by omega) h x
theorem agree_none {l r : List Int} {t : Tac} (h : Agree l r) (hs : setsB t.op = false) : Agree (fwdStep l t) r := by
  have e : t.sets = -1 := by unfold Tac.sets setsZ; rw [if_neg (by simp [hs])]
  unfold fwdStep
  rw [e, if_neg (by omega)]; exact h
theorem rg_fwd {l r : List Int} {n : Nat} (hl : r.length = n) (h : Agree l r) {a : Int} (h0 : 0 ≤ a) (h1 : a < n) : rg r (atL l a) = rg r a := by
  have := h a.toNat (by omega)
  rw [Int.toNat_of_nonneg h0] at this
  exact this
theorem one_alike {c : RC} {c' : RC} (hc : c'.inp = c.inp) {ap : Int → Int → Int → Int × Int} {call : Int → RS → RS} {l r : List Int} {n : Nat} (hl : r.length = n) (h : Agree l r) {t : Tac} (ht : t.okS n) (s : RS) : oneS c' ap call (fwdTac l t) s r = oneS c ap call t s r := by
  by_cases h1 : t.op = 2 ∨ t.op = 5 ∨ t.op = 6 ∨ t.op = 9
  · have e : fwdTac l t = { t with a := atL l t.a } := by unfold fwdTac; rw [if_pos h1]
    have ha := uses_a ht.ok (by omega)
    rw [e]
    unfold oneS
    simp only [rg_fwd hl h ha.1 ha.2, hc]
  · by_cases h2 : t.op = 3 ∨ t.op = 7
    · have e : fwdTac l t = { t with a := atL l t.a, b := atL l t.b } := by unfold fwdTac; rw [if_neg h1, if_pos h2]
      have ha := uses_a ht.ok (by omega)
      have hb := uses_b ht.ok h2
      rw [e]
      unfold oneS
      simp only [rg_fwd hl h ha.1 ha.2, rg_fwd hl h hb.1 hb.2, hc]
    · have e : fwdTac l t = t := by unfold fwdTac; rw [if_neg h1, if_neg h2]
      rw [e]
      unfold oneS
      rw [hc]
theorem one_agree {c : RC} {ap : Int → Int → Int → Int × Int} {call : Int → RS → RS} {l r : List Int} {n : Nat} (hr : Rng l n) (hl : r.length = n) (h : Agree l r) {t : Tac} (ht : t.okS n) {s : RS} (hf : (oneS c ap call t s r).1.fin = 0) : Agree (fwdStep l t) (oneS c ap call t s r).2 ∧ (oneS c ap call t s r).2.length = n := by
  unfold oneS at hf ⊢
  have set : ∀ x, setsB t.op = true → (t.op = 2 → x = rg r t.a) → Agree (fwdStep l t) (r.set t.d.toNat x) ∧ (r.set t.d.toNat x).length = n := fun x h1 h2 => ⟨agree_step hr hl h ht h1 h2, by rw [List.length_set]; exact hl⟩
  have no : setsB t.op = false → Agree (fwdStep l t) r ∧ r.length = n := fun h1 => ⟨agree_none h h1, hl⟩
  by_cases h1 : t.op = 1
  · simp only [h1, if_pos]; exact set _ (by simp [setsB, h1]) (by omega)
  by_cases h2 : t.op = 2
  · simp only [if_neg h1, if_pos h2]; exact set _ (by simp [setsB, h2]) (fun _ => rfl)
  by_cases h3 : t.op = 3
  · simp only [if_neg h1, if_neg h2, if_pos h3] at hf ⊢
    split at hf
    · cases hf
    · rename_i h'; rw [if_neg h']; exact set _ (by simp [setsB, h3]) (by omega)
  by_cases h4 : t.op = 4
  · simp only [if_neg h1, if_neg h2, if_neg h3, if_pos h4]; exact set _ (by simp [setsB, h4]) (by omega)
  by_cases h5 : t.op = 5
  · simp only [if_neg h1, if_neg h2, if_neg h3, if_neg h4, if_pos h5]; exact no (by simp [setsB, h5])
  by_cases h6 : t.op = 6
  · simp only [if_neg h1, if_neg h2, if_neg h3, if_neg h4, if_neg h5, if_pos h6] at hf ⊢
    split at hf
    · cases hf
    · rename_i h'; rw [if_neg h']; exact set _ (by simp [setsB, h6]) (by omega)
  by_cases h7 : t.op = 7
  · simp only [if_neg h1, if_neg h2, if_neg h3, if_neg h4, if_neg h5, if_neg h6, if_pos h7]
    split <;> exact no (by simp [setsB, h7])
  by_cases h8 : t.op = 8
  · simp only [if_neg h1, if_neg h2, if_neg h3, if_neg h4, if_neg h5, if_neg h6, if_neg h7, if_pos h8]
    split <;> exact set _ (by simp [setsB, h8]) (by omega)
  have hs : setsB t.op = false := by simp [setsB, h1, h2, h3, h4, h6, h8]
  by_cases h9 : t.op = 9
  · simp only [if_neg h1, if_neg h2, if_neg h3, if_neg h4, if_neg h5, if_neg h6, if_neg h7, if_neg h8, if_pos h9]
    split <;> exact no hs
  by_cases h10 : t.op = 10
  · simp only [if_neg h1, if_neg h2, if_neg h3, if_neg h4, if_neg h5, if_neg h6, if_neg h7, if_neg h8, if_neg h9, if_pos h10]; exact no hs
  · simp only [if_neg h1, if_neg h2, if_neg h3, if_neg h4, if_neg h5, if_neg h6, if_neg h7, if_neg h8, if_neg h9, if_neg h10]; exact no hs
theorem outs_cons (l : List Int) (t : Tac) (ts : List Tac) : outs l (t :: ts) = fwdTac l t :: outs (fwdStep l t) ts := by
  simp only [outs, List.mapIdx_cons, stN, List.take_zero, List.foldl_nil, List.take_succ_cons, List.foldl_cons]
theorem stN_cons (l : List Int) (t : Tac) (ts : List Tac) : stN l (t :: ts) (t :: ts).length = stN (fwdStep l t) ts ts.length := by simp [stN]
theorem ins_alike {c c' : RC} (hc : c'.inp = c.inp) (hfu : c'.fuel = c.fuel) {ap : Int → Int → Int → Int × Int} {call : Int → RS → RS} {n : Nat} : ∀ {ins : List Tac} {l r : List Int} {s : RS}, Rng l n → r.length = n → Agree l r → (∀ t ∈ ins, t.okS n) → insS c' ap call (outs l ins) s r = insS c ap call ins s r ∧ ((insS c ap call ins s r).2.2 = true → Agree (stN l ins ins.length) (insS c ap call ins s r).2.1 ∧ (insS c ap call ins s r).2.1.length = n)
  | [], l, r, s, hr, hl, h, hi => by
    refine ⟨rfl, fun _ => ⟨?_, hl⟩⟩
    simp only [List.length_nil, stN_zero]; exact h
  | t :: ts, l, r, s, hr, hl, h, hi => by
    have ht := hi t List.mem_cons_self
    rw [outs_cons, stN_cons]
    unfold insS
    rw [hfu, one_alike (c := c) hc hl h ht]
    by_cases hfl : c.fuel ≤ s.steps
    · simp [hfl]
    · simp only [if_neg hfl]
      by_cases hf : (oneS c ap call t { s with steps := s.steps + 1 } r).1.fin = 0
      · have ha := one_agree (c := c) (ap := ap) (call := call) hr hl h ht hf
        simp only [hf, ne_eq, not_true_eq_false, if_false]
        exact ins_alike hc hfu (step_rng hr ht.ok) ha.2 ha.1 fun u hu => hi u (List.mem_cons_of_mem _ hu)
      · simp [hf]
/-- A function all whose instructions may be. -/
structure Fn.okS (f : Fn) : Prop where
  regs : 0 ≤ f.regs
  ins : ∀ b ∈ f.blocks, ∀ t ∈ b.ins, t.okS f.regs.toNat
  v : ∀ b ∈ f.blocks, b.en = 2 → 0 ≤ b.v ∧ b.v < f.regs
def fwdFn (f : Fn) : Fn := ⟨f.regs, f.blocks.map (fwdBlk f.regs)⟩
theorem loop_alike {c c' : RC} (hc : c'.inp = c.inp) (hfu : c'.fuel = c.fuel) (hfs : c'.fs = c.fs.map fwdFn) (hok : ∀ f ∈ c.fs, f.okS) {ap : Int → Int → Int → Int × Int} : ∀ (n : Nat) {f : Fn} {pc : Int} {s : RS} {r : List Int}, f.okS → r.length = f.regs.toNat → loopS c' ap n (fwdFn f) pc s r = loopS c ap n f pc s r
  | 0, _, _, _, _, _, _ => rfl
  | n + 1, f, pc, s, r, hf, hl => by
    unfold loopS
    simp only [fwdFn, List.getElem?_map]
    cases hb : f.blocks[pc.toNat]? with
    | none => rfl
    | some b =>
      have hmem := List.mem_of_getElem? hb
      simp only [Option.map_some]
      have hcall : (fun (i : Int) (s : RS) => match c'.fs[i.toNat]? with
          | none => s
          | some g => loopS c' ap n g 0 s (List.replicate g.regs.toNat 0)) = (fun (i : Int) (s : RS) => match c.fs[i.toNat]? with
          | none => s
          | some g => loopS c ap n g 0 s (List.replicate g.regs.toNat 0)) := by
        funext i s
        rw [hfs, List.getElem?_map]
        cases hg : c.fs[i.toNat]? with
        | none => rfl
        | some g =>
          simp only [Option.map_some]
          exact loop_alike hc hfu hfs hok n (hok g (List.mem_of_getElem? hg)) (by simp [fwdFn])
      rw [hcall]
      generalize hcl : (fun (i : Int) (s : RS) => match c.fs[i.toNat]? with
          | none => s
          | some g => loopS c ap n g 0 s (List.replicate g.regs.toNat 0)) = call
      have hi := ins_alike (c := c) (c' := c') hc hfu (ap := ap) (call := call) (n := f.regs.toNat) (ins := b.ins) (s := s) (idL_rng _) hl (agree_id _ r hl) (hf.ins b hmem)
      have e1 : (fwdBlk f.regs b).ins = outs (idL f.regs.toNat) b.ins := rfl
      rw [e1, hi.1, hfu]
      by_cases h1 : (insS c ap call b.ins s r).2.2 = false
      · simp only [h1, if_true]
      · have h1' : (insS c ap call b.ins s r).2.2 = true := by simpa using h1
        have ha := hi.2 h1'
        simp only [h1', Bool.true_eq_false, if_false]
        by_cases h2 : c.fuel ≤ (insS c ap call b.ins s r).1.steps
        · simp only [if_pos h2]
        · simp only [if_neg h2]
          have e2 : (fwdBlk f.regs b).en = b.en := rfl
          have e3 : (fwdBlk f.regs b).to = b.to := rfl
          have e4 : (fwdBlk f.regs b).el = b.el := rfl
          rw [e2, e3, e4]
          by_cases h3 : b.en = 3
          · simp only [if_pos h3]
          · simp only [if_neg h3]
            have hcond : (if b.en = 2 ∧ rg (insS c ap call b.ins s r).2.1 (fwdBlk f.regs b).v = 0 then b.el else b.to) = (if b.en = 2 ∧ rg (insS c ap call b.ins s r).2.1 b.v = 0 then b.el else b.to) := by
              by_cases h4 : b.en = 2
              · have hv := hf.v b hmem h4
                have e5 : (fwdBlk f.regs b).v = atL (stN (idL f.regs.toNat) b.ins b.ins.length) b.v := by simp [fwdBlk, h4]
                rw [e5, rg_fwd ha.2 ha.1 hv.1 (by have := hf.regs; omega)]
              · simp only [h4, false_and, if_false]
            rw [hcond]
            exact loop_alike hc hfu hfs hok n hf ha.2
end Go.Proofs.Ytmfhdhiaokejdaa

namespace Go.Proofs.Ytmfhdhiaokejdaa
open Go Go.Ab
set_option linter.unusedSimpArgs false
set_option linter.unusedVariables false
theorem fnWx {P : Program} {E : Cfg} {X : Orc} {f : Nat} {fn : Func} {c : Code} {args : List AV} {ts : List TypeId} {rvs : List ResultVar} {R : List AV → Prop} (hf : P.funcs[f]? = some fn) (hx : X.dat f args = none) (hb : fn.body = some c) (hok : bodyOk fn = true) (hl : args.length = fn.params.size)
    (ht : rtys P f = ts) (hrv : fn.results.toList = rvs) (h : W P E 0 (lim P E X) c ⟨frame0 args, hp0⟩ (EndQ P ts rvs R)) : ∃ rs, (lim P E X).dat f args = some rs ∧ R rs := by
  obtain ⟨n, e, st, h1, hq⟩ := h
  cases e with
  | exit i => exact hq.elim
  | normal => obtain ⟨rs, hp', h2, h3⟩ := hq; exact ⟨rs, fnW hf hx hb hok hl ht hrv ⟨n, .normal, st, h1, rs, hp', h2, rfl⟩, h3⟩
  | ret => obtain ⟨rs, hp', h2, h3⟩ := hq; exact ⟨rs, fnW hf hx hb hok hl ht hrv ⟨n, .ret, st, h1, rs, hp', h2, rfl⟩, h3⟩
abbrev uv (n : Int) : AV := .sc (.int .u32 n)
abbrev qv (n : Int) : AV := .sc (.int .u64 n)
/-- A word. -/
def U (n : Int) : Prop := 0 ≤ n ∧ n < 4294967296
theorem U_wrap (n : Int) : U (IntKind.u32.wrap n) := by
  unfold U; rw [IntKind.wrap_u32]; omega
theorem q_wrap {n : Int} (h : U n) : IntKind.u64.wrap n = n := by
  unfold U at h; rw [IntKind.wrap_u64]; omega
def OneU (rs : List AV) : Prop := ∃ v, U v ∧ rs = [uv v]
theorem OneU.mk (n : Int) : OneU [uv (IntKind.u32.wrap n)] := ⟨_, U_wrap n, rfl⟩
theorem d43 (b : Bool) : (lim Try.prog E31 X31).dat 43 [bv b] = some [uv (if b then 1 else 0)] := by
  refine fnW Try.func43 rfl rfl bodyOk_43 rfl rtys_43 rfl ?_
  cases b
  · skip
    repeat' (first
      | ((with_reducible apply Wo_u); (conv => lhs; simp -implicitDefEqProofs [*]) <;> exact rfl)
      | ((with_reducible apply Wo_n); (conv => lhs; simp -implicitDefEqProofs [*]) <;> exact rfl)
      | (with_reducible apply Wo_nil)
      | ((with_reducible apply Wo_gt); (exact rfl); ((conv => lhs; simp -implicitDefEqProofs [*]) <;> exact rfl); (conv => lhs; simp -implicitDefEqProofs [*]) <;> exact rfl)
      | ((with_reducible apply Wo_gf); (exact rfl); ((conv => lhs; simp -implicitDefEqProofs [*]) <;> exact rfl); (exact rfl))
      | ((with_reducible apply Wo_gx); (exact rfl); ((conv => lhs; simp -implicitDefEqProofs [*]) <;> exact rfl))
      | ((with_reducible apply Wo_gsT); (exact rfl); ((conv => lhs; simp -implicitDefEqProofs [*]) <;> exact rfl))
      | ((with_reducible apply Wo_gsF); (exact rfl); ((conv => lhs; simp -implicitDefEqProofs [*]) <;> exact rfl))
      | ((with_reducible apply ex2); (conv => lhs; simp -implicitDefEqProofs [*]) <;> exact rfl)
      | (with_reducible apply W_ss) | (with_reducible apply W_srl) | (with_reducible apply W_rl)
      | ((with_reducible apply W_sc); (conv => lhs; simp -implicitDefEqProofs [*]) <;> exact rfl)
      | ((with_reducible apply W_c); (conv => lhs; simp -implicitDefEqProofs [*]) <;> exact rfl)
      | ((with_reducible apply W_srdl); kernel_rfl) | ((with_reducible apply W_rdl); kernel_rfl)
      | ((with_reducible apply Wd_u); (conv => lhs; simp -implicitDefEqProofs [*]) <;> exact rfl)
      | ((with_reducible apply Wd_n); (conv => lhs; simp -implicitDefEqProofs [*]) <;> exact rfl)
      | ((with_reducible apply Wd_nil); exact rfl)
      | ((with_reducible apply Wd_gsT); (exact rfl); ((conv => lhs; simp -implicitDefEqProofs [*]) <;> exact rfl))
      | ((with_reducible apply Wd_gsF); (exact rfl); ((conv => lhs; simp -implicitDefEqProofs [*]) <;> exact rfl))
      | ((with_reducible apply ex4); (conv => lhs; simp -implicitDefEqProofs [*]) <;> exact rfl)
      | (with_reducible apply W_sblock) | (with_reducible apply W_block) | (with_reducible apply W_sskip) | (with_reducible apply W_skip) | (with_reducible apply W_sret) | (with_reducible apply W_ret) | (with_reducible apply W_sexit) | (with_reducible apply W_exit)
      | (with_reducible apply thenW_n) | (with_reducible apply thenW_r) | (with_reducible apply thenW_e) | (with_reducible apply inB_n) | (with_reducible apply inB_r) | (with_reducible apply inB_e) | ((with_reducible apply inB_o); rotate_left; exact rfl)
      | ((with_reducible apply EndQ_ret); (conv => lhs; simp -implicitDefEqProofs [*]) <;> exact rfl) | ((with_reducible apply EndQ_normal); (conv => lhs; simp -implicitDefEqProofs [*]) <;> exact rfl)
      | (intro h h'; try simp [*, -h] at h'))
    rfl
  · skip
    repeat' (first
      | ((with_reducible apply Wo_u); (conv => lhs; simp -implicitDefEqProofs [*]) <;> exact rfl)
      | ((with_reducible apply Wo_n); (conv => lhs; simp -implicitDefEqProofs [*]) <;> exact rfl)
      | (with_reducible apply Wo_nil)
      | ((with_reducible apply Wo_gt); (exact rfl); ((conv => lhs; simp -implicitDefEqProofs [*]) <;> exact rfl); (conv => lhs; simp -implicitDefEqProofs [*]) <;> exact rfl)
      | ((with_reducible apply Wo_gf); (exact rfl); ((conv => lhs; simp -implicitDefEqProofs [*]) <;> exact rfl); (exact rfl))
      | ((with_reducible apply Wo_gx); (exact rfl); ((conv => lhs; simp -implicitDefEqProofs [*]) <;> exact rfl))
      | ((with_reducible apply Wo_gsT); (exact rfl); ((conv => lhs; simp -implicitDefEqProofs [*]) <;> exact rfl))
      | ((with_reducible apply Wo_gsF); (exact rfl); ((conv => lhs; simp -implicitDefEqProofs [*]) <;> exact rfl))
      | ((with_reducible apply ex2); (conv => lhs; simp -implicitDefEqProofs [*]) <;> exact rfl)
      | (with_reducible apply W_ss) | (with_reducible apply W_srl) | (with_reducible apply W_rl)
      | ((with_reducible apply W_sc); (conv => lhs; simp -implicitDefEqProofs [*]) <;> exact rfl)
      | ((with_reducible apply W_c); (conv => lhs; simp -implicitDefEqProofs [*]) <;> exact rfl)
      | ((with_reducible apply W_srdl); kernel_rfl) | ((with_reducible apply W_rdl); kernel_rfl)
      | ((with_reducible apply Wd_u); (conv => lhs; simp -implicitDefEqProofs [*]) <;> exact rfl)
      | ((with_reducible apply Wd_n); (conv => lhs; simp -implicitDefEqProofs [*]) <;> exact rfl)
      | ((with_reducible apply Wd_nil); exact rfl)
      | ((with_reducible apply Wd_gsT); (exact rfl); ((conv => lhs; simp -implicitDefEqProofs [*]) <;> exact rfl))
      | ((with_reducible apply Wd_gsF); (exact rfl); ((conv => lhs; simp -implicitDefEqProofs [*]) <;> exact rfl))
      | ((with_reducible apply ex4); (conv => lhs; simp -implicitDefEqProofs [*]) <;> exact rfl)
      | (with_reducible apply W_sblock) | (with_reducible apply W_block) | (with_reducible apply W_sskip) | (with_reducible apply W_skip) | (with_reducible apply W_sret) | (with_reducible apply W_ret) | (with_reducible apply W_sexit) | (with_reducible apply W_exit)
      | (with_reducible apply thenW_n) | (with_reducible apply thenW_r) | (with_reducible apply thenW_e) | (with_reducible apply inB_n) | (with_reducible apply inB_r) | (with_reducible apply inB_e) | ((with_reducible apply inB_o); rotate_left; exact rfl)
      | ((with_reducible apply EndQ_ret); (conv => lhs; simp -implicitDefEqProofs [*]) <;> exact rfl) | ((with_reducible apply EndQ_normal); (conv => lhs; simp -implicitDefEqProofs [*]) <;> exact rfl)
      | (intro h h'; try simp [*, -h] at h'))
    rfl
set_option maxHeartbeats 2000000 in
theorem d42 (k a b : Int) (hb : U b) : ∃ rs, (lim Try.prog E31 X31).dat 42 [iv k, uv a, uv b] = some rs ∧ OneU rs := by
  refine fnWx Try.func42 rfl rfl bodyOk_42 rfl rtys_42 rfl ?_
  unfold U at hb
  repeat' (first
    | ((with_reducible apply Wo_u); (conv => lhs; simp -implicitDefEqProofs [*]) <;> exact rfl)
    | ((with_reducible apply Wo_n); (conv => lhs; simp -implicitDefEqProofs [*]) <;> exact rfl)
    | (with_reducible apply Wo_nil)
    | ((with_reducible apply Wo_gt); (exact rfl); ((conv => lhs; simp -implicitDefEqProofs [*]) <;> exact rfl); (conv => lhs; simp -implicitDefEqProofs [*]) <;> exact rfl)
    | ((with_reducible apply Wo_gf); (exact rfl); ((conv => lhs; simp -implicitDefEqProofs [*]) <;> exact rfl); (exact rfl))
    | ((with_reducible apply Wo_gx); (exact rfl); ((conv => lhs; simp -implicitDefEqProofs [*]) <;> exact rfl))
    | ((with_reducible apply Wo_gsT); (exact rfl); ((conv => lhs; simp -implicitDefEqProofs [*]) <;> exact rfl))
    | ((with_reducible apply Wo_gsF); (exact rfl); ((conv => lhs; simp -implicitDefEqProofs [*]) <;> exact rfl))
    | ((with_reducible apply ex2); (conv => lhs; simp -implicitDefEqProofs [*]) <;> exact rfl)
    | (with_reducible apply W_ss) | (with_reducible apply W_srl) | (with_reducible apply W_rl)
    | ((with_reducible apply W_sc); (conv => lhs; simp -implicitDefEqProofs [*]) <;> exact rfl)
    | ((with_reducible apply W_c); (conv => lhs; simp -implicitDefEqProofs [*]) <;> exact rfl)
    | ((with_reducible apply W_srdl); kernel_rfl) | ((with_reducible apply W_rdl); kernel_rfl)
    | ((with_reducible apply Wd_u); (conv => lhs; simp -implicitDefEqProofs [*]) <;> exact rfl)
    | ((with_reducible apply Wd_n); (conv => lhs; simp -implicitDefEqProofs [*]) <;> exact rfl)
    | ((with_reducible apply Wd_nil); exact rfl)
    | ((with_reducible apply Wd_gsT); (exact rfl); ((conv => lhs; simp -implicitDefEqProofs [*]) <;> exact rfl))
    | ((with_reducible apply Wd_gsF); (exact rfl); ((conv => lhs; simp -implicitDefEqProofs [*]) <;> exact rfl))
    | ((with_reducible apply ex4); (conv => lhs; simp -implicitDefEqProofs [*]) <;> exact rfl)
    | (with_reducible apply W_sblock) | (with_reducible apply W_block) | (with_reducible apply W_sskip) | (with_reducible apply W_skip) | (with_reducible apply W_sret) | (with_reducible apply W_ret) | (with_reducible apply W_sexit) | (with_reducible apply W_exit)
    | (with_reducible apply thenW_n) | (with_reducible apply thenW_r) | (with_reducible apply thenW_e) | (with_reducible apply inB_n) | (with_reducible apply inB_r) | (with_reducible apply inB_e) | ((with_reducible apply inB_o); rotate_left; exact rfl)
    | ((with_reducible apply EndQ_ret); (conv => lhs; simp -implicitDefEqProofs [*]) <;> exact rfl) | ((with_reducible apply EndQ_normal); (conv => lhs; simp -implicitDefEqProofs [*]) <;> exact rfl)
    | (intro h h'; try simp [*, -h] at h'))
  · exact ⟨0, by unfold U; omega, rfl⟩
  obtain ⟨B, hB⟩ : ∃ B : Nat, b = B := ⟨b.toNat, by omega⟩
  subst hB
  refine W_loopS (n := B) (fun s0 m s => ∃ k : Nat, ∃ y : Int, m = B - k ∧ k ≤ B ∧ s.fr 8 = uv k ∧ s.fr 7 = qv y ∧ s.fr 0 = s0.fr 0 ∧ s.fr 2 = s0.fr 2) ⟨0, IntKind.u64.wrap a, by simp, by first | omega | simp, by simp, by simp, by simp, by simp⟩ ?_
  rintro m ⟨fr, hp⟩ ⟨k, y, rfl, hk, hs8, hs7, hs0, hs2⟩
  simp at hs8 hs7 hs0 hs2
  by_cases hlt : k < B
  · have hw : IntKind.u32.wrap ((k : Int) + 1) = (k : Int) + 1 := IntWalk.u32_in _ (by omega)
    repeat' (first
      | ((with_reducible apply Wo_u); (conv => lhs; simp -implicitDefEqProofs [*]) <;> exact rfl)
      | ((with_reducible apply Wo_n); (conv => lhs; simp -implicitDefEqProofs [*]) <;> exact rfl)
      | (with_reducible apply Wo_nil)
      | ((with_reducible apply Wo_gt); (exact rfl); ((conv => lhs; simp -implicitDefEqProofs [*]) <;> exact rfl); (conv => lhs; simp -implicitDefEqProofs [*]) <;> exact rfl)
      | ((with_reducible apply Wo_gf); (exact rfl); ((conv => lhs; simp -implicitDefEqProofs [*]) <;> exact rfl); (exact rfl))
      | ((with_reducible apply Wo_gx); (exact rfl); ((conv => lhs; simp -implicitDefEqProofs [*]) <;> exact rfl))
      | ((with_reducible apply Wo_gsT); (exact rfl); ((conv => lhs; simp -implicitDefEqProofs [*]) <;> exact rfl))
      | ((with_reducible apply Wo_gsF); (exact rfl); ((conv => lhs; simp -implicitDefEqProofs [*]) <;> exact rfl))
      | ((with_reducible apply ex2); (conv => lhs; simp -implicitDefEqProofs [*]) <;> exact rfl)
      | (with_reducible apply W_ss) | (with_reducible apply W_srl) | (with_reducible apply W_rl)
      | ((with_reducible apply W_sc); (conv => lhs; simp -implicitDefEqProofs [*]) <;> exact rfl)
      | ((with_reducible apply W_c); (conv => lhs; simp -implicitDefEqProofs [*]) <;> exact rfl)
      | ((with_reducible apply W_srdl); kernel_rfl) | ((with_reducible apply W_rdl); kernel_rfl)
      | ((with_reducible apply Wd_u); (conv => lhs; simp -implicitDefEqProofs [*]) <;> exact rfl)
      | ((with_reducible apply Wd_n); (conv => lhs; simp -implicitDefEqProofs [*]) <;> exact rfl)
      | ((with_reducible apply Wd_nil); exact rfl)
      | ((with_reducible apply Wd_gsT); (exact rfl); ((conv => lhs; simp -implicitDefEqProofs [*]) <;> exact rfl))
      | ((with_reducible apply Wd_gsF); (exact rfl); ((conv => lhs; simp -implicitDefEqProofs [*]) <;> exact rfl))
      | ((with_reducible apply ex4); (conv => lhs; simp -implicitDefEqProofs [*]) <;> exact rfl)
      | (with_reducible apply W_sblock) | (with_reducible apply W_block) | (with_reducible apply W_sskip) | (with_reducible apply W_skip) | (with_reducible apply W_sret) | (with_reducible apply W_ret) | (with_reducible apply W_sexit) | (with_reducible apply W_exit)
      | (with_reducible apply thenW_n) | (with_reducible apply thenW_r) | (with_reducible apply thenW_e) | (with_reducible apply inB_n) | (with_reducible apply inB_r) | (with_reducible apply inB_e) | ((with_reducible apply inB_o); rotate_left; exact rfl)
      | ((with_reducible apply EndQ_ret); (conv => lhs; simp -implicitDefEqProofs [*]) <;> exact rfl) | ((with_reducible apply EndQ_normal); (conv => lhs; simp -implicitDefEqProofs [*]) <;> exact rfl)
      | (intro h h'; try simp [*, -h] at h'))
    · exact ⟨_, by omega, k + 1, _, rfl, hlt, by simp, by simp; rfl, by simp [*], by simp [*]⟩
    · exact ⟨_, by omega, k + 1, _, rfl, hlt, by simp, by simp; rfl, by simp [*], by simp [*]⟩
  · obtain rfl : k = B := by omega
    repeat' (first
      | ((with_reducible apply Wo_u); (conv => lhs; simp -implicitDefEqProofs [*]) <;> exact rfl)
      | ((with_reducible apply Wo_n); (conv => lhs; simp -implicitDefEqProofs [*]) <;> exact rfl)
      | (with_reducible apply Wo_nil)
      | ((with_reducible apply Wo_gt); (exact rfl); ((conv => lhs; simp -implicitDefEqProofs [*]) <;> exact rfl); (conv => lhs; simp -implicitDefEqProofs [*]) <;> exact rfl)
      | ((with_reducible apply Wo_gf); (exact rfl); ((conv => lhs; simp -implicitDefEqProofs [*]) <;> exact rfl); (exact rfl))
      | ((with_reducible apply Wo_gx); (exact rfl); ((conv => lhs; simp -implicitDefEqProofs [*]) <;> exact rfl))
      | ((with_reducible apply Wo_gsT); (exact rfl); ((conv => lhs; simp -implicitDefEqProofs [*]) <;> exact rfl))
      | ((with_reducible apply Wo_gsF); (exact rfl); ((conv => lhs; simp -implicitDefEqProofs [*]) <;> exact rfl))
      | ((with_reducible apply ex2); (conv => lhs; simp -implicitDefEqProofs [*]) <;> exact rfl)
      | (with_reducible apply W_ss) | (with_reducible apply W_srl) | (with_reducible apply W_rl)
      | ((with_reducible apply W_sc); (conv => lhs; simp -implicitDefEqProofs [*]) <;> exact rfl)
      | ((with_reducible apply W_c); (conv => lhs; simp -implicitDefEqProofs [*]) <;> exact rfl)
      | ((with_reducible apply W_srdl); kernel_rfl) | ((with_reducible apply W_rdl); kernel_rfl)
      | ((with_reducible apply Wd_u); (conv => lhs; simp -implicitDefEqProofs [*]) <;> exact rfl)
      | ((with_reducible apply Wd_n); (conv => lhs; simp -implicitDefEqProofs [*]) <;> exact rfl)
      | ((with_reducible apply Wd_nil); exact rfl)
      | ((with_reducible apply Wd_gsT); (exact rfl); ((conv => lhs; simp -implicitDefEqProofs [*]) <;> exact rfl))
      | ((with_reducible apply Wd_gsF); (exact rfl); ((conv => lhs; simp -implicitDefEqProofs [*]) <;> exact rfl))
      | ((with_reducible apply ex4); (conv => lhs; simp -implicitDefEqProofs [*]) <;> exact rfl)
      | (with_reducible apply W_sblock) | (with_reducible apply W_block) | (with_reducible apply W_sskip) | (with_reducible apply W_skip) | (with_reducible apply W_sret) | (with_reducible apply W_ret) | (with_reducible apply W_sexit) | (with_reducible apply W_exit)
      | (with_reducible apply thenW_n) | (with_reducible apply thenW_r) | (with_reducible apply thenW_e) | (with_reducible apply inB_n) | (with_reducible apply inB_r) | (with_reducible apply inB_e) | ((with_reducible apply inB_o); rotate_left; exact rfl)
      | ((with_reducible apply EndQ_ret); (conv => lhs; simp -implicitDefEqProofs [*]) <;> exact rfl) | ((with_reducible apply EndQ_normal); (conv => lhs; simp -implicitDefEqProofs [*]) <;> exact rfl)
      | (intro h h'; try simp [*, -h] at h'))
    exact OneU.mk _
set_option maxHeartbeats 2000000 in
theorem d44 (a : Int) : ∃ rs, (lim Try.prog E31 X31).dat 44 [uv a] = some rs ∧ ∃ l : List Int, l.length = 32 ∧ rs = [.vec 1 (rowI l)] := by
  refine fnWx Try.func44 rfl rfl bodyOk_44 rfl rtys_44 rfl ?_
  repeat' (first
    | ((with_reducible apply Wo_u); (conv => lhs; simp -implicitDefEqProofs [*]) <;> exact rfl)
    | ((with_reducible apply Wo_n); (conv => lhs; simp -implicitDefEqProofs [*]) <;> exact rfl)
    | (with_reducible apply Wo_nil)
    | ((with_reducible apply Wo_gt); (exact rfl); ((conv => lhs; simp -implicitDefEqProofs [*]) <;> exact rfl); (conv => lhs; simp -implicitDefEqProofs [*]) <;> exact rfl)
    | ((with_reducible apply Wo_gf); (exact rfl); ((conv => lhs; simp -implicitDefEqProofs [*]) <;> exact rfl); (exact rfl))
    | ((with_reducible apply Wo_gx); (exact rfl); ((conv => lhs; simp -implicitDefEqProofs [*]) <;> exact rfl))
    | ((with_reducible apply Wo_gsT); (exact rfl); ((conv => lhs; simp -implicitDefEqProofs [*]) <;> exact rfl))
    | ((with_reducible apply Wo_gsF); (exact rfl); ((conv => lhs; simp -implicitDefEqProofs [*]) <;> exact rfl))
    | ((with_reducible apply ex2); (conv => lhs; simp -implicitDefEqProofs [*]) <;> exact rfl)
    | (with_reducible apply W_ss) | (with_reducible apply W_srl) | (with_reducible apply W_rl)
    | ((with_reducible apply W_sc); (conv => lhs; simp -implicitDefEqProofs [*]) <;> exact rfl)
    | ((with_reducible apply W_c); (conv => lhs; simp -implicitDefEqProofs [*]) <;> exact rfl)
    | ((with_reducible apply W_srdl); kernel_rfl) | ((with_reducible apply W_rdl); kernel_rfl)
    | ((with_reducible apply Wd_u); (conv => lhs; simp -implicitDefEqProofs [*]) <;> exact rfl)
    | ((with_reducible apply Wd_n); (conv => lhs; simp -implicitDefEqProofs [*]) <;> exact rfl)
    | ((with_reducible apply Wd_nil); exact rfl)
    | ((with_reducible apply Wd_gsT); (exact rfl); ((conv => lhs; simp -implicitDefEqProofs [*]) <;> exact rfl))
    | ((with_reducible apply Wd_gsF); (exact rfl); ((conv => lhs; simp -implicitDefEqProofs [*]) <;> exact rfl))
    | ((with_reducible apply ex4); (conv => lhs; simp -implicitDefEqProofs [*]) <;> exact rfl)
    | (with_reducible apply W_sblock) | (with_reducible apply W_block) | (with_reducible apply W_sskip) | (with_reducible apply W_skip) | (with_reducible apply W_sret) | (with_reducible apply W_ret) | (with_reducible apply W_sexit) | (with_reducible apply W_exit)
    | (with_reducible apply thenW_n) | (with_reducible apply thenW_r) | (with_reducible apply thenW_e) | (with_reducible apply inB_n) | (with_reducible apply inB_r) | (with_reducible apply inB_e) | ((with_reducible apply inB_o); rotate_left; exact rfl)
    | ((with_reducible apply EndQ_ret); (conv => lhs; simp -implicitDefEqProofs [*]) <;> exact rfl) | ((with_reducible apply EndQ_normal); (conv => lhs; simp -implicitDefEqProofs [*]) <;> exact rfl)
    | (intro h h'; try simp [*, -h] at h'))
  refine W_loopS (n := 32) (fun s0 m s => ∃ (k : Nat) (y : Int) (g : Nat) (l : List Int), m = 32 - k ∧ k ≤ 32 ∧ s.fr 4 = iv k ∧ s.fr 0 = uv y ∧ s.fr 3 = .own ⟨0, 3, 0⟩ g k ∧ s.hp ⟨0, 3, 0⟩ = .arr g 1 3 (rowI l) false ∧ l.length = k) ⟨0, a, 1, [], by simp, by omega, by simp, by simp, by simp, by simp, rfl⟩ ?_
  rintro m ⟨fr, hp⟩ ⟨k, y, g, l, rfl, hk, hs4, hs0, hs3, hh3, hll⟩
  simp at hs4 hs0 hs3 hh3
  by_cases hlt : k < 32
  · have hw := wrapN (k := k) (by omega)
    have hlI : (k : Int) < 32 := by omega
    have hby : (k + 1) * 8 ≤ 140737488355328 := by omega
    have hby3 : k + 1 ≤ 17592186044416 := by omega
    have hby2 : k ≤ 9223372036854775806 := by omega
    repeat' (first
      | ((with_reducible apply Wo_u); (conv => lhs; simp -implicitDefEqProofs [*]) <;> exact rfl)
      | ((with_reducible apply Wo_n); (conv => lhs; simp -implicitDefEqProofs [*]) <;> exact rfl)
      | (with_reducible apply Wo_nil)
      | ((with_reducible apply Wo_gt); (exact rfl); ((conv => lhs; simp -implicitDefEqProofs [*]) <;> exact rfl); (conv => lhs; simp -implicitDefEqProofs [*]) <;> exact rfl)
      | ((with_reducible apply Wo_gf); (exact rfl); ((conv => lhs; simp -implicitDefEqProofs [*]) <;> exact rfl); (exact rfl))
      | ((with_reducible apply Wo_gx); (exact rfl); ((conv => lhs; simp -implicitDefEqProofs [*]) <;> exact rfl))
      | ((with_reducible apply Wo_gsT); (exact rfl); ((conv => lhs; simp -implicitDefEqProofs [*]) <;> exact rfl))
      | ((with_reducible apply Wo_gsF); (exact rfl); ((conv => lhs; simp -implicitDefEqProofs [*]) <;> exact rfl))
      | ((with_reducible apply ex2); (conv => lhs; simp -implicitDefEqProofs [*]) <;> exact rfl)
      | (with_reducible apply W_ss) | (with_reducible apply W_srl) | (with_reducible apply W_rl)
      | ((with_reducible apply W_sc); (conv => lhs; simp -implicitDefEqProofs [*]) <;> exact rfl)
      | ((with_reducible apply W_c); (conv => lhs; simp -implicitDefEqProofs [*]) <;> exact rfl)
      | ((with_reducible apply W_srdl); kernel_rfl) | ((with_reducible apply W_rdl); kernel_rfl)
      | ((with_reducible apply Wd_u); (conv => lhs; simp -implicitDefEqProofs [*]) <;> exact rfl)
      | ((with_reducible apply Wd_n); (conv => lhs; simp -implicitDefEqProofs [*]) <;> exact rfl)
      | ((with_reducible apply Wd_nil); exact rfl)
      | ((with_reducible apply Wd_gsT); (exact rfl); ((conv => lhs; simp -implicitDefEqProofs [*]) <;> exact rfl))
      | ((with_reducible apply Wd_gsF); (exact rfl); ((conv => lhs; simp -implicitDefEqProofs [*]) <;> exact rfl))
      | ((with_reducible apply ex4); (conv => lhs; simp -implicitDefEqProofs [*]) <;> exact rfl)
      | (with_reducible apply W_sblock) | (with_reducible apply W_block) | (with_reducible apply W_sskip) | (with_reducible apply W_skip) | (with_reducible apply W_sret) | (with_reducible apply W_ret) | (with_reducible apply W_sexit) | (with_reducible apply W_exit)
      | (with_reducible apply thenW_n) | (with_reducible apply thenW_r) | (with_reducible apply thenW_e) | (with_reducible apply inB_n) | (with_reducible apply inB_r) | (with_reducible apply inB_e) | ((with_reducible apply inB_o); rotate_left; exact rfl)
      | ((with_reducible apply EndQ_ret); (conv => lhs; simp -implicitDefEqProofs [*]) <;> exact rfl) | ((with_reducible apply EndQ_normal); (conv => lhs; simp -implicitDefEqProofs [*]) <;> exact rfl)
      | (intro h h'; try simp [*, -h] at h'))
    exact ⟨_, by omega, k + 1, IntKind.u32.wrap (y.tdiv 2), g + 1, l ++ [IntKind.i64.wrap (y.tmod 2)], rfl, hlt, by simp, by simp, by simp [*], by simp [*], by simp [*]⟩
  · obtain rfl : k = 32 := by omega
    have htk : (rowI l).take 32 = rowI l := List.take_of_length_le (by simp [hll])
    repeat' (first
      | ((with_reducible apply Wo_u); (conv => lhs; simp -implicitDefEqProofs [*]) <;> exact rfl)
      | ((with_reducible apply Wo_n); (conv => lhs; simp -implicitDefEqProofs [*]) <;> exact rfl)
      | (with_reducible apply Wo_nil)
      | ((with_reducible apply Wo_gt); (exact rfl); ((conv => lhs; simp -implicitDefEqProofs [*]) <;> exact rfl); (conv => lhs; simp -implicitDefEqProofs [*]) <;> exact rfl)
      | ((with_reducible apply Wo_gf); (exact rfl); ((conv => lhs; simp -implicitDefEqProofs [*]) <;> exact rfl); (exact rfl))
      | ((with_reducible apply Wo_gx); (exact rfl); ((conv => lhs; simp -implicitDefEqProofs [*]) <;> exact rfl))
      | ((with_reducible apply Wo_gsT); (exact rfl); ((conv => lhs; simp -implicitDefEqProofs [*]) <;> exact rfl))
      | ((with_reducible apply Wo_gsF); (exact rfl); ((conv => lhs; simp -implicitDefEqProofs [*]) <;> exact rfl))
      | ((with_reducible apply ex2); (conv => lhs; simp -implicitDefEqProofs [*]) <;> exact rfl)
      | (with_reducible apply W_ss) | (with_reducible apply W_srl) | (with_reducible apply W_rl)
      | ((with_reducible apply W_sc); (conv => lhs; simp -implicitDefEqProofs [*]) <;> exact rfl)
      | ((with_reducible apply W_c); (conv => lhs; simp -implicitDefEqProofs [*]) <;> exact rfl)
      | ((with_reducible apply W_srdl); kernel_rfl) | ((with_reducible apply W_rdl); kernel_rfl)
      | ((with_reducible apply Wd_u); (conv => lhs; simp -implicitDefEqProofs [*]) <;> exact rfl)
      | ((with_reducible apply Wd_n); (conv => lhs; simp -implicitDefEqProofs [*]) <;> exact rfl)
      | ((with_reducible apply Wd_nil); exact rfl)
      | ((with_reducible apply Wd_gsT); (exact rfl); ((conv => lhs; simp -implicitDefEqProofs [*]) <;> exact rfl))
      | ((with_reducible apply Wd_gsF); (exact rfl); ((conv => lhs; simp -implicitDefEqProofs [*]) <;> exact rfl))
      | ((with_reducible apply ex4); (conv => lhs; simp -implicitDefEqProofs [*]) <;> exact rfl)
      | (with_reducible apply W_sblock) | (with_reducible apply W_block) | (with_reducible apply W_sskip) | (with_reducible apply W_skip) | (with_reducible apply W_sret) | (with_reducible apply W_ret) | (with_reducible apply W_sexit) | (with_reducible apply W_exit)
      | (with_reducible apply thenW_n) | (with_reducible apply thenW_r) | (with_reducible apply thenW_e) | (with_reducible apply inB_n) | (with_reducible apply inB_r) | (with_reducible apply inB_e) | ((with_reducible apply inB_o); rotate_left; exact rfl)
      | ((with_reducible apply EndQ_ret); (conv => lhs; simp -implicitDefEqProofs [*]) <;> exact rfl) | ((with_reducible apply EndQ_normal); (conv => lhs; simp -implicitDefEqProofs [*]) <;> exact rfl)
      | (intro h h'; try simp [*, -h] at h'))
    exact ⟨l, hll, by simp [*]⟩
set_option maxHeartbeats 2000000 in
theorem d45 (l : List Int) (hl : l.length = 32) : ∃ rs, (lim Try.prog E31 X31).dat 45 [.sl false 1 (rowI l)] = some rs ∧ OneU rs := by
  refine fnWx Try.func45 rfl rfl bodyOk_45 rfl rtys_45 rfl ?_
  have hw0 : IntKind.i64.wrap 31 = 31 := by decide +kernel
  repeat' (first
    | ((with_reducible apply Wo_u); (conv => lhs; simp -implicitDefEqProofs [*]) <;> exact rfl)
    | ((with_reducible apply Wo_n); (conv => lhs; simp -implicitDefEqProofs [*]) <;> exact rfl)
    | (with_reducible apply Wo_nil)
    | ((with_reducible apply Wo_gt); (exact rfl); ((conv => lhs; simp -implicitDefEqProofs [*]) <;> exact rfl); (conv => lhs; simp -implicitDefEqProofs [*]) <;> exact rfl)
    | ((with_reducible apply Wo_gf); (exact rfl); ((conv => lhs; simp -implicitDefEqProofs [*]) <;> exact rfl); (exact rfl))
    | ((with_reducible apply Wo_gx); (exact rfl); ((conv => lhs; simp -implicitDefEqProofs [*]) <;> exact rfl))
    | ((with_reducible apply Wo_gsT); (exact rfl); ((conv => lhs; simp -implicitDefEqProofs [*]) <;> exact rfl))
    | ((with_reducible apply Wo_gsF); (exact rfl); ((conv => lhs; simp -implicitDefEqProofs [*]) <;> exact rfl))
    | ((with_reducible apply ex2); (conv => lhs; simp -implicitDefEqProofs [*]) <;> exact rfl)
    | (with_reducible apply W_ss) | (with_reducible apply W_srl) | (with_reducible apply W_rl)
    | ((with_reducible apply W_sc); (conv => lhs; simp -implicitDefEqProofs [*]) <;> exact rfl)
    | ((with_reducible apply W_c); (conv => lhs; simp -implicitDefEqProofs [*]) <;> exact rfl)
    | ((with_reducible apply W_srdl); kernel_rfl) | ((with_reducible apply W_rdl); kernel_rfl)
    | ((with_reducible apply Wd_u); (conv => lhs; simp -implicitDefEqProofs [*]) <;> exact rfl)
    | ((with_reducible apply Wd_n); (conv => lhs; simp -implicitDefEqProofs [*]) <;> exact rfl)
    | ((with_reducible apply Wd_nil); exact rfl)
    | ((with_reducible apply Wd_gsT); (exact rfl); ((conv => lhs; simp -implicitDefEqProofs [*]) <;> exact rfl))
    | ((with_reducible apply Wd_gsF); (exact rfl); ((conv => lhs; simp -implicitDefEqProofs [*]) <;> exact rfl))
    | ((with_reducible apply ex4); (conv => lhs; simp -implicitDefEqProofs [*]) <;> exact rfl)
    | (with_reducible apply W_sblock) | (with_reducible apply W_block) | (with_reducible apply W_sskip) | (with_reducible apply W_skip) | (with_reducible apply W_sret) | (with_reducible apply W_ret) | (with_reducible apply W_sexit) | (with_reducible apply W_exit)
    | (with_reducible apply thenW_n) | (with_reducible apply thenW_r) | (with_reducible apply thenW_e) | (with_reducible apply inB_n) | (with_reducible apply inB_r) | (with_reducible apply inB_e) | ((with_reducible apply inB_o); rotate_left; exact rfl)
    | ((with_reducible apply EndQ_ret); (conv => lhs; simp -implicitDefEqProofs [*]) <;> exact rfl) | ((with_reducible apply EndQ_normal); (conv => lhs; simp -implicitDefEqProofs [*]) <;> exact rfl)
    | (intro h h'; try simp [*, -h] at h'))
  refine W_loopS (n := 32) (fun s0 m s => ∃ (y : Int), m ≤ 32 ∧ s.fr 4 = iv ((m : Int) - 1) ∧ s.fr 3 = qv y ∧ s.fr 0 = s0.fr 0) ⟨0, by simp, by simp, by simp, by simp⟩ ?_
  rintro m ⟨fr, hp⟩ ⟨y, hk, hs4, hs3, hs0⟩
  simp at hs4 hs3 hs0
  cases m with
  | zero =>
    simp at hs4
    repeat' (first
      | ((with_reducible apply Wo_u); (conv => lhs; simp -implicitDefEqProofs [*]) <;> exact rfl)
      | ((with_reducible apply Wo_n); (conv => lhs; simp -implicitDefEqProofs [*]) <;> exact rfl)
      | (with_reducible apply Wo_nil)
      | ((with_reducible apply Wo_gt); (exact rfl); ((conv => lhs; simp -implicitDefEqProofs [*]) <;> exact rfl); (conv => lhs; simp -implicitDefEqProofs [*]) <;> exact rfl)
      | ((with_reducible apply Wo_gf); (exact rfl); ((conv => lhs; simp -implicitDefEqProofs [*]) <;> exact rfl); (exact rfl))
      | ((with_reducible apply Wo_gx); (exact rfl); ((conv => lhs; simp -implicitDefEqProofs [*]) <;> exact rfl))
      | ((with_reducible apply Wo_gsT); (exact rfl); ((conv => lhs; simp -implicitDefEqProofs [*]) <;> exact rfl))
      | ((with_reducible apply Wo_gsF); (exact rfl); ((conv => lhs; simp -implicitDefEqProofs [*]) <;> exact rfl))
      | ((with_reducible apply ex2); (conv => lhs; simp -implicitDefEqProofs [*]) <;> exact rfl)
      | (with_reducible apply W_ss) | (with_reducible apply W_srl) | (with_reducible apply W_rl)
      | ((with_reducible apply W_sc); (conv => lhs; simp -implicitDefEqProofs [*]) <;> exact rfl)
      | ((with_reducible apply W_c); (conv => lhs; simp -implicitDefEqProofs [*]) <;> exact rfl)
      | ((with_reducible apply W_srdl); kernel_rfl) | ((with_reducible apply W_rdl); kernel_rfl)
      | ((with_reducible apply Wd_u); (conv => lhs; simp -implicitDefEqProofs [*]) <;> exact rfl)
      | ((with_reducible apply Wd_n); (conv => lhs; simp -implicitDefEqProofs [*]) <;> exact rfl)
      | ((with_reducible apply Wd_nil); exact rfl)
      | ((with_reducible apply Wd_gsT); (exact rfl); ((conv => lhs; simp -implicitDefEqProofs [*]) <;> exact rfl))
      | ((with_reducible apply Wd_gsF); (exact rfl); ((conv => lhs; simp -implicitDefEqProofs [*]) <;> exact rfl))
      | ((with_reducible apply ex4); (conv => lhs; simp -implicitDefEqProofs [*]) <;> exact rfl)
      | (with_reducible apply W_sblock) | (with_reducible apply W_block) | (with_reducible apply W_sskip) | (with_reducible apply W_skip) | (with_reducible apply W_sret) | (with_reducible apply W_ret) | (with_reducible apply W_sexit) | (with_reducible apply W_exit)
      | (with_reducible apply thenW_n) | (with_reducible apply thenW_r) | (with_reducible apply thenW_e) | (with_reducible apply inB_n) | (with_reducible apply inB_r) | (with_reducible apply inB_e) | ((with_reducible apply inB_o); rotate_left; exact rfl)
      | ((with_reducible apply EndQ_ret); (conv => lhs; simp -implicitDefEqProofs [*]) <;> exact rfl) | ((with_reducible apply EndQ_normal); (conv => lhs; simp -implicitDefEqProofs [*]) <;> exact rfl)
      | (intro h h'; try simp [*, -h] at h'))
    exact OneU.mk _
  | succ n =>
    simp at hs4
    have hlt : n < 32 := by omega
    have hw1 : IntKind.i64.wrap ((n : Int) - 1) = (n : Int) - 1 := wrap64 (by omega) (by omega)
    have hg := List.getElem?_eq_getElem (l := l) (i := n) (by omega)
    repeat' (first
      | ((with_reducible apply Wo_u); (conv => lhs; simp -implicitDefEqProofs [*]) <;> exact rfl)
      | ((with_reducible apply Wo_n); (conv => lhs; simp -implicitDefEqProofs [*]) <;> exact rfl)
      | (with_reducible apply Wo_nil)
      | ((with_reducible apply Wo_gt); (exact rfl); ((conv => lhs; simp -implicitDefEqProofs [*]) <;> exact rfl); (conv => lhs; simp -implicitDefEqProofs [*]) <;> exact rfl)
      | ((with_reducible apply Wo_gf); (exact rfl); ((conv => lhs; simp -implicitDefEqProofs [*]) <;> exact rfl); (exact rfl))
      | ((with_reducible apply Wo_gx); (exact rfl); ((conv => lhs; simp -implicitDefEqProofs [*]) <;> exact rfl))
      | ((with_reducible apply Wo_gsT); (exact rfl); ((conv => lhs; simp -implicitDefEqProofs [*]) <;> exact rfl))
      | ((with_reducible apply Wo_gsF); (exact rfl); ((conv => lhs; simp -implicitDefEqProofs [*]) <;> exact rfl))
      | ((with_reducible apply ex2); (conv => lhs; simp -implicitDefEqProofs [*]) <;> exact rfl)
      | (with_reducible apply W_ss) | (with_reducible apply W_srl) | (with_reducible apply W_rl)
      | ((with_reducible apply W_sc); (conv => lhs; simp -implicitDefEqProofs [*]) <;> exact rfl)
      | ((with_reducible apply W_c); (conv => lhs; simp -implicitDefEqProofs [*]) <;> exact rfl)
      | ((with_reducible apply W_srdl); kernel_rfl) | ((with_reducible apply W_rdl); kernel_rfl)
      | ((with_reducible apply Wd_u); (conv => lhs; simp -implicitDefEqProofs [*]) <;> exact rfl)
      | ((with_reducible apply Wd_n); (conv => lhs; simp -implicitDefEqProofs [*]) <;> exact rfl)
      | ((with_reducible apply Wd_nil); exact rfl)
      | ((with_reducible apply Wd_gsT); (exact rfl); ((conv => lhs; simp -implicitDefEqProofs [*]) <;> exact rfl))
      | ((with_reducible apply Wd_gsF); (exact rfl); ((conv => lhs; simp -implicitDefEqProofs [*]) <;> exact rfl))
      | ((with_reducible apply ex4); (conv => lhs; simp -implicitDefEqProofs [*]) <;> exact rfl)
      | (with_reducible apply W_sblock) | (with_reducible apply W_block) | (with_reducible apply W_sskip) | (with_reducible apply W_skip) | (with_reducible apply W_sret) | (with_reducible apply W_ret) | (with_reducible apply W_sexit) | (with_reducible apply W_exit)
      | (with_reducible apply thenW_n) | (with_reducible apply thenW_r) | (with_reducible apply thenW_e) | (with_reducible apply inB_n) | (with_reducible apply inB_r) | (with_reducible apply inB_e) | ((with_reducible apply inB_o); rotate_left; exact rfl)
      | ((with_reducible apply EndQ_ret); (conv => lhs; simp -implicitDefEqProofs [*]) <;> exact rfl) | ((with_reducible apply EndQ_normal); (conv => lhs; simp -implicitDefEqProofs [*]) <;> exact rfl)
      | (intro h h'; try simp [*, -h] at h'))
    exact ⟨n, by omega, IntKind.u64.wrap (IntKind.u64.wrap (2 * y) + IntKind.u64.wrap l[n]), by omega, by simp, by simp, by simp [*]⟩
set_option maxHeartbeats 4000000 in
theorem d41 (k a b : Int) : ∃ rs, (lim Try.prog E31 X31).dat 41 [iv k, uv a, uv b] = some rs ∧ OneU rs := by
  obtain ⟨_, ha, l1, hl1, rfl⟩ := d44 a
  obtain ⟨_, hb, l2, hl2, rfl⟩ := d44 b
  refine fnWx Try.func41 rfl rfl bodyOk_41 rfl rtys_41 rfl ?_
  repeat' (first
    | ((with_reducible apply Wo_u); (conv => lhs; simp -implicitDefEqProofs [*]) <;> exact rfl)
    | ((with_reducible apply Wo_n); (conv => lhs; simp -implicitDefEqProofs [*]) <;> exact rfl)
    | (with_reducible apply Wo_nil)
    | ((with_reducible apply Wo_gt); (exact rfl); ((conv => lhs; simp -implicitDefEqProofs [*]) <;> exact rfl); (conv => lhs; simp -implicitDefEqProofs [*]) <;> exact rfl)
    | ((with_reducible apply Wo_gf); (exact rfl); ((conv => lhs; simp -implicitDefEqProofs [*]) <;> exact rfl); (exact rfl))
    | ((with_reducible apply Wo_gx); (exact rfl); ((conv => lhs; simp -implicitDefEqProofs [*]) <;> exact rfl))
    | ((with_reducible apply Wo_gsT); (exact rfl); ((conv => lhs; simp -implicitDefEqProofs [*]) <;> exact rfl))
    | ((with_reducible apply Wo_gsF); (exact rfl); ((conv => lhs; simp -implicitDefEqProofs [*]) <;> exact rfl))
    | ((with_reducible apply ex2); (conv => lhs; simp -implicitDefEqProofs [*]) <;> exact rfl)
    | (with_reducible apply W_ss) | (with_reducible apply W_srl) | (with_reducible apply W_rl)
    | ((with_reducible apply W_sc); (conv => lhs; simp -implicitDefEqProofs [*]) <;> exact rfl)
    | ((with_reducible apply W_c); (conv => lhs; simp -implicitDefEqProofs [*]) <;> exact rfl)
    | ((with_reducible apply W_srdl); kernel_rfl) | ((with_reducible apply W_rdl); kernel_rfl)
    | ((with_reducible apply Wd_u); (conv => lhs; simp -implicitDefEqProofs [*]) <;> exact rfl)
    | ((with_reducible apply Wd_n); (conv => lhs; simp -implicitDefEqProofs [*]) <;> exact rfl)
    | ((with_reducible apply Wd_nil); exact rfl)
    | ((with_reducible apply Wd_gsT); (exact rfl); ((conv => lhs; simp -implicitDefEqProofs [*]) <;> exact rfl))
    | ((with_reducible apply Wd_gsF); (exact rfl); ((conv => lhs; simp -implicitDefEqProofs [*]) <;> exact rfl))
    | ((with_reducible apply ex4); (conv => lhs; simp -implicitDefEqProofs [*]) <;> exact rfl)
    | (with_reducible apply W_sblock) | (with_reducible apply W_block) | (with_reducible apply W_sskip) | (with_reducible apply W_skip) | (with_reducible apply W_sret) | (with_reducible apply W_ret) | (with_reducible apply W_sexit) | (with_reducible apply W_exit)
    | (with_reducible apply thenW_n) | (with_reducible apply thenW_r) | (with_reducible apply thenW_e) | (with_reducible apply inB_n) | (with_reducible apply inB_r) | (with_reducible apply inB_e) | ((with_reducible apply inB_o); rotate_left; exact rfl)
    | ((with_reducible apply EndQ_ret); (conv => lhs; simp -implicitDefEqProofs [*]) <;> exact rfl) | ((with_reducible apply EndQ_normal); (conv => lhs; simp -implicitDefEqProofs [*]) <;> exact rfl)
    | (intro h h'; try simp [*, -h] at h'))
  refine W_loopS (n := 32) (fun s0 m s => ∃ (k : Nat) (l : List Int), m = 32 - k ∧ k ≤ 32 ∧ s.fr 9 = iv k ∧ s.fr 0 = s0.fr 0 ∧ s.fr 7 = s0.fr 7 ∧ s.fr 8 = s0.fr 8 ∧ s.hp ⟨0, 14, 0⟩ = s0.hp ⟨0, 14, 0⟩ ∧ s.hp ⟨0, 12, 0⟩ = .arr (s0.hp ⟨0, 12, 0⟩).gen 1 3 (rowI l) false ∧ l.length = 32) ⟨0, l1, by simp, by omega, by simp, by simp, by simp, by simp, by simp, by simp, hl1⟩ ?_
  rintro m ⟨fr, hp⟩ ⟨j, l, rfl, hj, hs9, hs0, hs7, hs8, hh14, hh12, hll⟩
  simp at hs9 hs0 hs7 hs8 hh14 hh12
  by_cases hlt : j < 32
  · have hw := wrapN (k := j) (by omega)
    have hlI : (j : Int) < 32 := by omega
    have hg := List.getElem?_eq_getElem (l := l) (i := j) (by omega)
    have hg2 := List.getElem?_eq_getElem (l := l2) (i := j) (by omega)
    repeat' (first
      | ((with_reducible apply Wo_u); (conv => lhs; simp -implicitDefEqProofs [*]) <;> exact rfl)
      | ((with_reducible apply Wo_n); (conv => lhs; simp -implicitDefEqProofs [*]) <;> exact rfl)
      | (with_reducible apply Wo_nil)
      | ((with_reducible apply Wo_gt); (exact rfl); ((conv => lhs; simp -implicitDefEqProofs [*]) <;> exact rfl); (conv => lhs; simp -implicitDefEqProofs [*]) <;> exact rfl)
      | ((with_reducible apply Wo_gf); (exact rfl); ((conv => lhs; simp -implicitDefEqProofs [*]) <;> exact rfl); (exact rfl))
      | ((with_reducible apply Wo_gx); (exact rfl); ((conv => lhs; simp -implicitDefEqProofs [*]) <;> exact rfl))
      | ((with_reducible apply Wo_gsT); (exact rfl); ((conv => lhs; simp -implicitDefEqProofs [*]) <;> exact rfl))
      | ((with_reducible apply Wo_gsF); (exact rfl); ((conv => lhs; simp -implicitDefEqProofs [*]) <;> exact rfl))
      | ((with_reducible apply ex2); (conv => lhs; simp -implicitDefEqProofs [*]) <;> exact rfl)
      | (with_reducible apply W_ss) | (with_reducible apply W_srl) | (with_reducible apply W_rl)
      | ((with_reducible apply W_sc); (conv => lhs; simp -implicitDefEqProofs [*]) <;> exact rfl)
      | ((with_reducible apply W_c); (conv => lhs; simp -implicitDefEqProofs [*]) <;> exact rfl)
      | ((with_reducible apply W_srdl); kernel_rfl) | ((with_reducible apply W_rdl); kernel_rfl)
      | ((with_reducible apply Wd_u); (conv => lhs; simp -implicitDefEqProofs [*]) <;> exact rfl)
      | ((with_reducible apply Wd_n); (conv => lhs; simp -implicitDefEqProofs [*]) <;> exact rfl)
      | ((with_reducible apply Wd_nil); exact rfl)
      | ((with_reducible apply Wd_gsT); (exact rfl); ((conv => lhs; simp -implicitDefEqProofs [*]) <;> exact rfl))
      | ((with_reducible apply Wd_gsF); (exact rfl); ((conv => lhs; simp -implicitDefEqProofs [*]) <;> exact rfl))
      | ((with_reducible apply ex4); (conv => lhs; simp -implicitDefEqProofs [*]) <;> exact rfl)
      | (with_reducible apply W_sblock) | (with_reducible apply W_block) | (with_reducible apply W_sskip) | (with_reducible apply W_skip) | (with_reducible apply W_sret) | (with_reducible apply W_ret) | (with_reducible apply W_sexit) | (with_reducible apply W_exit)
      | (with_reducible apply thenW_n) | (with_reducible apply thenW_r) | (with_reducible apply thenW_e) | (with_reducible apply inB_n) | (with_reducible apply inB_r) | (with_reducible apply inB_e) | ((with_reducible apply inB_o); rotate_left; exact rfl)
      | ((with_reducible apply EndQ_ret); (conv => lhs; simp -implicitDefEqProofs [*]) <;> exact rfl) | ((with_reducible apply EndQ_normal); (conv => lhs; simp -implicitDefEqProofs [*]) <;> exact rfl)
      | (intro h h'; try simp [*, -h] at h'))
    all_goals first
      | (refine ⟨_, ?_, j + 1, l.set j 0, rfl, hlt, ?_, ?_, ?_, ?_, ?_, ?_, ?_⟩ <;> first | omega | (simp; done) | (simp [*]; done) | (simp [*, List.map_set]; done))
      | (refine ⟨_, ?_, j + 1, l.set j 1, rfl, hlt, ?_, ?_, ?_, ?_, ?_, ?_, ?_⟩ <;> first | omega | (simp; done) | (simp [*]; done) | (simp [*, List.map_set]; done))
  · obtain rfl : j = 32 := by omega
    have htk : (rowI l).take 32 = rowI l := List.take_of_length_le (by simp [hll])
    obtain ⟨_, ho, v, hv, rfl⟩ := d45 l hll
    repeat' (first
      | ((with_reducible apply Wo_u); (conv => lhs; simp -implicitDefEqProofs [*]) <;> exact rfl)
      | ((with_reducible apply Wo_n); (conv => lhs; simp -implicitDefEqProofs [*]) <;> exact rfl)
      | (with_reducible apply Wo_nil)
      | ((with_reducible apply Wo_gt); (exact rfl); ((conv => lhs; simp -implicitDefEqProofs [*]) <;> exact rfl); (conv => lhs; simp -implicitDefEqProofs [*]) <;> exact rfl)
      | ((with_reducible apply Wo_gf); (exact rfl); ((conv => lhs; simp -implicitDefEqProofs [*]) <;> exact rfl); (exact rfl))
      | ((with_reducible apply Wo_gx); (exact rfl); ((conv => lhs; simp -implicitDefEqProofs [*]) <;> exact rfl))
      | ((with_reducible apply Wo_gsT); (exact rfl); ((conv => lhs; simp -implicitDefEqProofs [*]) <;> exact rfl))
      | ((with_reducible apply Wo_gsF); (exact rfl); ((conv => lhs; simp -implicitDefEqProofs [*]) <;> exact rfl))
      | ((with_reducible apply ex2); (conv => lhs; simp -implicitDefEqProofs [*]) <;> exact rfl)
      | (with_reducible apply W_ss) | (with_reducible apply W_srl) | (with_reducible apply W_rl)
      | ((with_reducible apply W_sc); (conv => lhs; simp -implicitDefEqProofs [*]) <;> exact rfl)
      | ((with_reducible apply W_c); (conv => lhs; simp -implicitDefEqProofs [*]) <;> exact rfl)
      | ((with_reducible apply W_srdl); kernel_rfl) | ((with_reducible apply W_rdl); kernel_rfl)
      | ((with_reducible apply Wd_u); (conv => lhs; simp -implicitDefEqProofs [*]) <;> exact rfl)
      | ((with_reducible apply Wd_n); (conv => lhs; simp -implicitDefEqProofs [*]) <;> exact rfl)
      | ((with_reducible apply Wd_nil); exact rfl)
      | ((with_reducible apply Wd_gsT); (exact rfl); ((conv => lhs; simp -implicitDefEqProofs [*]) <;> exact rfl))
      | ((with_reducible apply Wd_gsF); (exact rfl); ((conv => lhs; simp -implicitDefEqProofs [*]) <;> exact rfl))
      | ((with_reducible apply ex4); (conv => lhs; simp -implicitDefEqProofs [*]) <;> exact rfl)
      | (with_reducible apply W_sblock) | (with_reducible apply W_block) | (with_reducible apply W_sskip) | (with_reducible apply W_skip) | (with_reducible apply W_sret) | (with_reducible apply W_ret) | (with_reducible apply W_sexit) | (with_reducible apply W_exit)
      | (with_reducible apply thenW_n) | (with_reducible apply thenW_r) | (with_reducible apply thenW_e) | (with_reducible apply inB_n) | (with_reducible apply inB_r) | (with_reducible apply inB_e) | ((with_reducible apply inB_o); rotate_left; exact rfl)
      | ((with_reducible apply EndQ_ret); (conv => lhs; simp -implicitDefEqProofs [*]) <;> exact rfl) | ((with_reducible apply EndQ_normal); (conv => lhs; simp -implicitDefEqProofs [*]) <;> exact rfl)
      | (intro h h'; try simp [*, -h] at h'))
    exact ⟨v, hv, rfl⟩
set_option maxHeartbeats 4000000 in
theorem d40 (k a b : Int) (ha : U a) (hb : U b) : ∃ rs, (lim Try.prog E31 X31).dat 40 [iv k, uv a, uv b] = some rs ∧ ∃ v e, U v ∧ rs = [uv v, iv e] := by
  obtain ⟨_, h9, v9, hv9, rfl⟩ := d41 9 a b
  obtain ⟨_, h10, v10, hv10, rfl⟩ := d41 10 a b
  obtain ⟨_, h11, v11, hv11, rfl⟩ := d41 11 a b
  obtain ⟨_, h12, v12, hv12, rfl⟩ := d42 12 a b hb
  obtain ⟨_, h13, v13, hv13, rfl⟩ := d42 13 a b hb
  have h3 := fun b => d43 b
  have hwa := q_wrap ha
  have hwb := q_wrap hb
  have U0 : U 0 := by unfold U; omega
  have U1 : U 1 := by unfold U; omega
  refine fnWx Try.func40 rfl rfl bodyOk_40 rfl rtys_40 rfl ?_
  repeat' (first
    | ((with_reducible apply Wo_u); (conv => lhs; simp -implicitDefEqProofs [*]) <;> exact rfl)
    | ((with_reducible apply Wo_n); (conv => lhs; simp -implicitDefEqProofs [*]) <;> exact rfl)
    | (with_reducible apply Wo_nil)
    | ((with_reducible apply Wo_gt); (exact rfl); ((conv => lhs; simp -implicitDefEqProofs [*]) <;> exact rfl); (conv => lhs; simp -implicitDefEqProofs [*]) <;> exact rfl)
    | ((with_reducible apply Wo_gf); (exact rfl); ((conv => lhs; simp -implicitDefEqProofs [*]) <;> exact rfl); (exact rfl))
    | ((with_reducible apply Wo_gx); (exact rfl); ((conv => lhs; simp -implicitDefEqProofs [*]) <;> exact rfl))
    | ((with_reducible apply Wo_gsT); (exact rfl); ((conv => lhs; simp -implicitDefEqProofs [*]) <;> exact rfl))
    | ((with_reducible apply Wo_gsF); (exact rfl); ((conv => lhs; simp -implicitDefEqProofs [*]) <;> exact rfl))
    | ((with_reducible apply ex2); (conv => lhs; simp -implicitDefEqProofs [*]) <;> exact rfl)
    | (with_reducible apply W_ss) | (with_reducible apply W_srl) | (with_reducible apply W_rl)
    | ((with_reducible apply W_sc); (conv => lhs; simp -implicitDefEqProofs [*]) <;> exact rfl)
    | ((with_reducible apply W_c); (conv => lhs; simp -implicitDefEqProofs [*]) <;> exact rfl)
    | ((with_reducible apply W_srdl); kernel_rfl) | ((with_reducible apply W_rdl); kernel_rfl)
    | ((with_reducible apply Wd_u); (conv => lhs; simp -implicitDefEqProofs [*]) <;> exact rfl)
    | ((with_reducible apply Wd_n); (conv => lhs; simp -implicitDefEqProofs [*]) <;> exact rfl)
    | ((with_reducible apply Wd_nil); exact rfl)
    | ((with_reducible apply Wd_gsT); (exact rfl); ((conv => lhs; simp -implicitDefEqProofs [*]) <;> exact rfl))
    | ((with_reducible apply Wd_gsF); (exact rfl); ((conv => lhs; simp -implicitDefEqProofs [*]) <;> exact rfl))
    | ((with_reducible apply ex4); (conv => lhs; simp -implicitDefEqProofs [*]) <;> exact rfl)
    | (with_reducible apply W_sblock) | (with_reducible apply W_block) | (with_reducible apply W_sskip) | (with_reducible apply W_skip) | (with_reducible apply W_sret) | (with_reducible apply W_ret) | (with_reducible apply W_sexit) | (with_reducible apply W_exit)
    | (with_reducible apply thenW_n) | (with_reducible apply thenW_r) | (with_reducible apply thenW_e) | (with_reducible apply inB_n) | (with_reducible apply inB_r) | (with_reducible apply inB_e) | ((with_reducible apply inB_o); rotate_left; exact rfl)
    | ((with_reducible apply EndQ_ret); (conv => lhs; simp -implicitDefEqProofs [*]) <;> exact rfl) | ((with_reducible apply EndQ_normal); (conv => lhs; simp -implicitDefEqProofs [*]) <;> exact rfl)
    | (intro h h'; try simp [*, -h] at h'))
  all_goals first
    | exact ⟨_, _, hv9, rfl⟩
    | exact ⟨_, _, hv10, rfl⟩
    | exact ⟨_, _, hv11, rfl⟩
    | exact ⟨_, _, hv12, rfl⟩
    | exact ⟨_, _, hv13, rfl⟩
    | exact ⟨_, _, U_wrap _, rfl⟩
    | exact ⟨_, _, U0, rfl⟩
    | exact ⟨_, _, U1, rfl⟩
    | (refine ⟨_, _, ?_, rfl⟩; split <;> assumption)
end Go.Proofs.Ytmfhdhiaokejdaa

namespace Go.Proofs.Ytmfhdhiaokejdaa
open Go Go.Ab
set_option linter.unusedSimpArgs false
set_option linter.unusedVariables false
abbrev rowU (l : List Int) : List (List AV) := l.map fun x => [uv x]
abbrev rowB (l : List Int) : List (List AV) := l.map fun x => [.sc (.int .u8 x)]
/-- The cells of a run in the midst of it. -/
abbrev rcells (c : RC) (xd xi gw go : Nat) (s : RS) : List AV := [iv c.nw, .sl false 2 (c.fs.map Fn.row), .sc (.string c.inp), iv c.fuel, .own ⟨xd, xi, 5⟩ gw s.words.length, .own ⟨xd, xi, 6⟩ go s.out.length, iv s.read, iv s.steps, iv s.fin]
def stepB (c : RC) (s : RS) : Bool := decide (s.steps < c.fuel)
def stepS (c : RC) (s : RS) : RS := if c.fuel ≤ s.steps then { s with fin := 5 } else { s with steps := s.steps + 1 }
set_option maxHeartbeats 4000000 in
theorem h37 (k d : Nat) (c : RC) (xd xi g gw go : Nat) (s : RS) (hp1 : Hp) (hx : hp1 ⟨xd, xi, 0⟩ = .box g (rcells c xd xi gw go s) false) (h0 : 0 ≤ s.steps) (hf : c.fuel ≤ 9223372036854775807) : (lim Try.prog E31 X31).hpc k d 37 [.ptr ⟨xd, xi, 0⟩ g 0] hp1 = some (bv (stepB c s), upd hp1 ⟨xd, xi, 0⟩ (.box g (rcells c xd xi gw go (stepS c s)) false)) := by
  have key : ∃ v hp', (lim Try.prog E31 X31).hpc k d 37 [.ptr ⟨xd, xi, 0⟩ g 0] hp1 = some (v, hp') ∧ (v = bv (stepB c s) ∧ hp' = upd hp1 ⟨xd, xi, 0⟩ (.box g (rcells c xd xi gw go (stepS c s)) false)) := by
    refine lim_hpcW (R := fun v hp' => v = bv (stepB c s) ∧ hp' = upd hp1 ⟨xd, xi, 0⟩ (.box g (rcells c xd xi gw go (stepS c s)) false)) Try.func37 rfl rfl bodyOk_37 rfl rfl ?_
    by_cases hlt : c.fuel ≤ s.steps
    · have e1 : stepB c s = false := by simp [stepB]; omega
      have e2 : stepS c s = { s with fin := 5 } := by simp [stepS, hlt]
      repeat' (first
        | ((with_reducible apply Wo_u); (conv => lhs; simp -implicitDefEqProofs [*]) <;> exact rfl)
        | ((with_reducible apply Wo_n); (conv => lhs; simp -implicitDefEqProofs [*]) <;> exact rfl)
        | (with_reducible apply Wo_nil)
        | ((with_reducible apply Wo_gt); (exact rfl); ((conv => lhs; simp -implicitDefEqProofs [*]) <;> exact rfl); (conv => lhs; simp -implicitDefEqProofs [*]) <;> exact rfl)
        | ((with_reducible apply Wo_gf); (exact rfl); ((conv => lhs; simp -implicitDefEqProofs [*]) <;> exact rfl); (exact rfl))
        | ((with_reducible apply Wo_gx); (exact rfl); ((conv => lhs; simp -implicitDefEqProofs [*]) <;> exact rfl))
        | ((with_reducible apply Wo_gsT); (exact rfl); ((conv => lhs; simp -implicitDefEqProofs [*]) <;> exact rfl))
        | ((with_reducible apply Wo_gsF); (exact rfl); ((conv => lhs; simp -implicitDefEqProofs [*]) <;> exact rfl))
        | ((with_reducible apply ex2); (conv => lhs; simp -implicitDefEqProofs [*]) <;> exact rfl)
        | (with_reducible apply W_ss) | (with_reducible apply W_srl) | (with_reducible apply W_rl)
        | ((with_reducible apply W_sc); (conv => lhs; simp -implicitDefEqProofs [*]) <;> exact rfl)
        | ((with_reducible apply W_c); (conv => lhs; simp -implicitDefEqProofs [*]) <;> exact rfl)
        | ((with_reducible apply W_srdl); kernel_rfl) | ((with_reducible apply W_rdl); kernel_rfl)
        | ((with_reducible apply Wd_u); (conv => lhs; simp -implicitDefEqProofs [*]) <;> exact rfl)
        | ((with_reducible apply Wd_n); (conv => lhs; simp -implicitDefEqProofs [*]) <;> exact rfl)
        | ((with_reducible apply Wd_nil); exact rfl)
        | ((with_reducible apply Wd_gsT); (exact rfl); ((conv => lhs; simp -implicitDefEqProofs [*]) <;> exact rfl))
        | ((with_reducible apply Wd_gsF); (exact rfl); ((conv => lhs; simp -implicitDefEqProofs [*]) <;> exact rfl))
        | ((with_reducible apply ex4); (conv => lhs; simp -implicitDefEqProofs [*]) <;> exact rfl)
        | (with_reducible apply W_sblock) | (with_reducible apply W_block) | (with_reducible apply W_sskip) | (with_reducible apply W_skip) | (with_reducible apply W_sret) | (with_reducible apply W_ret) | (with_reducible apply W_sexit) | (with_reducible apply W_exit)
        | (with_reducible apply thenW_n) | (with_reducible apply thenW_r) | (with_reducible apply thenW_e) | (with_reducible apply inB_n) | (with_reducible apply inB_r) | (with_reducible apply inB_e) | ((with_reducible apply inB_o); rotate_left; exact rfl)
        | ((with_reducible apply EndQ_ret); (conv => lhs; simp -implicitDefEqProofs [*]) <;> exact rfl) | ((with_reducible apply EndQ_normal); (conv => lhs; simp -implicitDefEqProofs [*]) <;> exact rfl)
        | (intro h h'; try simp [*, -h] at h'))
      refine ⟨nofun, _, _, rfl, ?_, ?_⟩
      · simp [*]
      · simp [*]
    · have e1 : stepB c s = true := by simp [stepB]; omega
      have e2 : stepS c s = { s with steps := s.steps + 1 } := by simp [stepS, hlt]
      have hw : IntKind.i64.wrap (s.steps + 1) = s.steps + 1 := wrap64 (by omega) (by omega)
      repeat' (first
        | ((with_reducible apply Wo_u); (conv => lhs; simp -implicitDefEqProofs [*]) <;> exact rfl)
        | ((with_reducible apply Wo_n); (conv => lhs; simp -implicitDefEqProofs [*]) <;> exact rfl)
        | (with_reducible apply Wo_nil)
        | ((with_reducible apply Wo_gt); (exact rfl); ((conv => lhs; simp -implicitDefEqProofs [*]) <;> exact rfl); (conv => lhs; simp -implicitDefEqProofs [*]) <;> exact rfl)
        | ((with_reducible apply Wo_gf); (exact rfl); ((conv => lhs; simp -implicitDefEqProofs [*]) <;> exact rfl); (exact rfl))
        | ((with_reducible apply Wo_gx); (exact rfl); ((conv => lhs; simp -implicitDefEqProofs [*]) <;> exact rfl))
        | ((with_reducible apply Wo_gsT); (exact rfl); ((conv => lhs; simp -implicitDefEqProofs [*]) <;> exact rfl))
        | ((with_reducible apply Wo_gsF); (exact rfl); ((conv => lhs; simp -implicitDefEqProofs [*]) <;> exact rfl))
        | ((with_reducible apply ex2); (conv => lhs; simp -implicitDefEqProofs [*]) <;> exact rfl)
        | (with_reducible apply W_ss) | (with_reducible apply W_srl) | (with_reducible apply W_rl)
        | ((with_reducible apply W_sc); (conv => lhs; simp -implicitDefEqProofs [*]) <;> exact rfl)
        | ((with_reducible apply W_c); (conv => lhs; simp -implicitDefEqProofs [*]) <;> exact rfl)
        | ((with_reducible apply W_srdl); kernel_rfl) | ((with_reducible apply W_rdl); kernel_rfl)
        | ((with_reducible apply Wd_u); (conv => lhs; simp -implicitDefEqProofs [*]) <;> exact rfl)
        | ((with_reducible apply Wd_n); (conv => lhs; simp -implicitDefEqProofs [*]) <;> exact rfl)
        | ((with_reducible apply Wd_nil); exact rfl)
        | ((with_reducible apply Wd_gsT); (exact rfl); ((conv => lhs; simp -implicitDefEqProofs [*]) <;> exact rfl))
        | ((with_reducible apply Wd_gsF); (exact rfl); ((conv => lhs; simp -implicitDefEqProofs [*]) <;> exact rfl))
        | ((with_reducible apply ex4); (conv => lhs; simp -implicitDefEqProofs [*]) <;> exact rfl)
        | (with_reducible apply W_sblock) | (with_reducible apply W_block) | (with_reducible apply W_sskip) | (with_reducible apply W_skip) | (with_reducible apply W_sret) | (with_reducible apply W_ret) | (with_reducible apply W_sexit) | (with_reducible apply W_exit)
        | (with_reducible apply thenW_n) | (with_reducible apply thenW_r) | (with_reducible apply thenW_e) | (with_reducible apply inB_n) | (with_reducible apply inB_r) | (with_reducible apply inB_e) | ((with_reducible apply inB_o); rotate_left; exact rfl)
        | ((with_reducible apply EndQ_ret); (conv => lhs; simp -implicitDefEqProofs [*]) <;> exact rfl) | ((with_reducible apply EndQ_normal); (conv => lhs; simp -implicitDefEqProofs [*]) <;> exact rfl)
        | (intro h h'; try simp [*, -h] at h'))
      refine ⟨nofun, _, _, rfl, ?_, ?_⟩
      · simp [*]
      · simp [*]
  obtain ⟨v, hp', h1, rfl, rfl⟩ := key
  exact h1
end Go.Proofs.Ytmfhdhiaokejdaa

namespace Go.Proofs.Ytmfhdhiaokejdaa
open Go Go.Ab
set_option linter.unusedSimpArgs false
set_option linter.unusedVariables false
/-- What a call leaves as it was. -/
def Kept (k xd xi zd zi : Nat) (hp1 hp2 : Hp) : Prop := ∀ y : Nm, y.d ≤ k → y ≠ ⟨xd, xi, 0⟩ → y ≠ ⟨xd, xi, 5⟩ → y ≠ ⟨xd, xi, 6⟩ → y ≠ ⟨zd, zi, 0⟩ → hp2 y = hp1 y
structure After (c : RC) (k xd xi g gw zd zi gr : Nat) (hp1 hp2 : Hp) (s : RS) (r : List Int) : Prop where
  run : ∃ go, hp2 ⟨xd, xi, 0⟩ = .box g (rcells c xd xi gw go s) false ∧ hp2 ⟨xd, xi, 6⟩ = .arr go 1 5 (rowB s.out) false ∧ hp2 ⟨xd, xi, 5⟩ = .arr gw 1 38 (rowU s.words) false
  regs : hp2 ⟨zd, zi, 0⟩ = .arr gr 1 38 (rowU r) false
  kept : Kept k xd xi zd zi hp1 hp2
theorem rg_get {r : List Int} {a : Int} (h0 : 0 ≤ a) (h1 : a < r.length) : r[a.toNat]? = some (rg r a) := by
  unfold rg
  rw [List.getD_eq_getElem?_getD, List.getElem?_eq_getElem (by omega)]; rfl
theorem rg_el {r : List Int} {a : Int} : ∀ h, r[a.toNat]'h = rg r a := fun h => by
  unfold rg
  rw [List.getD_eq_getElem?_getD, List.getElem?_eq_getElem h]; rfl
theorem kept_far {k : Nat} {y : Nm} (h : y.d ≤ k) : ∀ i c, ¬ y = ⟨k + 1, i, c⟩ := fun i c e => by subst e; simp at h; omega
set_option maxHeartbeats 4000000 in
theorem o1 (k dd : Nat) (c : RC) (xd xi g gw go zd zi gr : Nat) (s : RS) (r : List Int) (hp1 : Hp) (hxk : xd ≤ k) (hzk : zd ≤ k) (hxz : ¬ xd = zd) (hx : hp1 ⟨xd, xi, 0⟩ = .box g (rcells c xd xi gw go s) false) (ho : hp1 ⟨xd, xi, 6⟩ = .arr go 1 5 (rowB s.out) false) (hw : hp1 ⟨xd, xi, 5⟩ = .arr gw 1 38 (rowU s.words) false) (hz : hp1 ⟨zd, zi, 0⟩ = .arr gr 1 38 (rowU r) false) (d a b kk base size n : Int) (hd0 : 0 ≤ d) (hd1 : d < r.length) : ∃ v hp', (lim Try.prog E31 X31).hpc k dd 38 [.ptr ⟨xd, xi, 0⟩ g 0, .agg [iv 1, iv d, iv a, iv b, iv kk, iv base, iv size, uv n], .own ⟨zd, zi, 0⟩ gr r.length] hp1 = some (v, hp') ∧ (v = .tup [] ∧ After c k xd xi g gw zd zi gr hp1 hp' s (r.set d.toNat n)) := by
  refine lim_hpcW (R := fun v hp' => v = .tup [] ∧ After c k xd xi g gw zd zi gr hp1 hp' s (r.set d.toNat n)) Try.func38 rfl rfl bodyOk_38 rfl rfl ?_
  have n1 : ¬ xd = k + 1 := by omega
  have n2 : ¬ zd = k + 1 := by omega
  have n3 : ¬ k + 1 = xd := by omega
  have n4 : ¬ k + 1 = zd := by omega
  have n5 : ¬ zd = xd := fun e => hxz e.symm
  have hdl : d.toNat < r.length := by omega
  repeat' (first
    | ((with_reducible apply Wo_u); (conv => lhs; simp -implicitDefEqProofs [*]) <;> exact rfl)
    | ((with_reducible apply Wo_n); (conv => lhs; simp -implicitDefEqProofs [*]) <;> exact rfl)
    | (with_reducible apply Wo_nil)
    | ((with_reducible apply Wo_gt); (exact rfl); ((conv => lhs; simp -implicitDefEqProofs [*]) <;> exact rfl); (conv => lhs; simp -implicitDefEqProofs [*]) <;> exact rfl)
    | ((with_reducible apply Wo_gf); (exact rfl); ((conv => lhs; simp -implicitDefEqProofs [*]) <;> exact rfl); (exact rfl))
    | ((with_reducible apply Wo_gx); (exact rfl); ((conv => lhs; simp -implicitDefEqProofs [*]) <;> exact rfl))
    | ((with_reducible apply Wo_gsT); (exact rfl); ((conv => lhs; simp -implicitDefEqProofs [*]) <;> exact rfl))
    | ((with_reducible apply Wo_gsF); (exact rfl); ((conv => lhs; simp -implicitDefEqProofs [*]) <;> exact rfl))
    | ((with_reducible apply ex2); (conv => lhs; simp -implicitDefEqProofs [*]) <;> exact rfl)
    | (with_reducible apply W_ss) | (with_reducible apply W_srl) | (with_reducible apply W_rl)
    | ((with_reducible apply W_sc); (conv => lhs; simp -implicitDefEqProofs [*]) <;> exact rfl)
    | ((with_reducible apply W_c); (conv => lhs; simp -implicitDefEqProofs [*]) <;> exact rfl)
    | ((with_reducible apply W_srdl); kernel_rfl) | ((with_reducible apply W_rdl); kernel_rfl)
    | ((with_reducible apply Wd_u); (conv => lhs; simp -implicitDefEqProofs [*]) <;> exact rfl)
    | ((with_reducible apply Wd_n); (conv => lhs; simp -implicitDefEqProofs [*]) <;> exact rfl)
    | ((with_reducible apply Wd_nil); exact rfl)
    | ((with_reducible apply Wd_gsT); (exact rfl); ((conv => lhs; simp -implicitDefEqProofs [*]) <;> exact rfl))
    | ((with_reducible apply Wd_gsF); (exact rfl); ((conv => lhs; simp -implicitDefEqProofs [*]) <;> exact rfl))
    | ((with_reducible apply ex4); (conv => lhs; simp -implicitDefEqProofs [*]) <;> exact rfl)
    | (with_reducible apply W_sblock) | (with_reducible apply W_block) | (with_reducible apply W_sskip) | (with_reducible apply W_skip) | (with_reducible apply W_sret) | (with_reducible apply W_ret) | (with_reducible apply W_sexit) | (with_reducible apply W_exit)
    | (with_reducible apply thenW_n) | (with_reducible apply thenW_r) | (with_reducible apply thenW_e) | (with_reducible apply inB_n) | (with_reducible apply inB_r) | (with_reducible apply inB_e) | ((with_reducible apply inB_o); rotate_left; exact rfl)
    | ((with_reducible apply EndQ_ret); (conv => lhs; simp -implicitDefEqProofs [*]) <;> exact rfl) | ((with_reducible apply EndQ_normal); (conv => lhs; simp -implicitDefEqProofs [*]) <;> exact rfl)
    | (intro h h'; try simp [*, -h] at h'))
  refine ⟨nofun, _, _, rfl, rfl, ⟨go, ?_, ?_, ?_⟩, ?_, fun y hy y0 y5 y6 yz => ?_⟩
  · simp [*]
  · simp [*]
  · simp [*, List.map_set]
  · simp [*, List.map_set]
  · have yk := kept_far hy
    simp [*]
set_option maxHeartbeats 4000000 in
theorem o2 (k dd : Nat) (c : RC) (xd xi g gw go zd zi gr : Nat) (s : RS) (r : List Int) (hp1 : Hp) (hxk : xd ≤ k) (hzk : zd ≤ k) (hxz : ¬ xd = zd) (hx : hp1 ⟨xd, xi, 0⟩ = .box g (rcells c xd xi gw go s) false) (ho : hp1 ⟨xd, xi, 6⟩ = .arr go 1 5 (rowB s.out) false) (hw : hp1 ⟨xd, xi, 5⟩ = .arr gw 1 38 (rowU s.words) false) (hz : hp1 ⟨zd, zi, 0⟩ = .arr gr 1 38 (rowU r) false) (d a b kk base size n : Int) (hd0 : 0 ≤ d) (hd1 : d < r.length) (ha0 : 0 ≤ a) (ha1 : a < r.length) : ∃ v hp', (lim Try.prog E31 X31).hpc k dd 38 [.ptr ⟨xd, xi, 0⟩ g 0, .agg [iv 2, iv d, iv a, iv b, iv kk, iv base, iv size, uv n], .own ⟨zd, zi, 0⟩ gr r.length] hp1 = some (v, hp') ∧ (v = .tup [] ∧ After c k xd xi g gw zd zi gr hp1 hp' s (r.set d.toNat (rg r a))) := by
  refine lim_hpcW (R := fun v hp' => v = .tup [] ∧ After c k xd xi g gw zd zi gr hp1 hp' s (r.set d.toNat (rg r a))) Try.func38 rfl rfl bodyOk_38 rfl rfl ?_
  have n1 : ¬ xd = k + 1 := by omega
  have n2 : ¬ zd = k + 1 := by omega
  have n3 : ¬ k + 1 = xd := by omega
  have n4 : ¬ k + 1 = zd := by omega
  have n5 : ¬ zd = xd := fun e => hxz e.symm
  have hdl : d.toNat < r.length := by omega
  have hal : a.toNat < r.length := by omega
  have hra := rg_get ha0 ha1
  have hre := rg_el (r := r) (a := a)
  repeat' (first
    | ((with_reducible apply Wo_u); (conv => lhs; simp -implicitDefEqProofs [*]) <;> exact rfl)
    | ((with_reducible apply Wo_n); (conv => lhs; simp -implicitDefEqProofs [*]) <;> exact rfl)
    | (with_reducible apply Wo_nil)
    | ((with_reducible apply Wo_gt); (exact rfl); ((conv => lhs; simp -implicitDefEqProofs [*]) <;> exact rfl); (conv => lhs; simp -implicitDefEqProofs [*]) <;> exact rfl)
    | ((with_reducible apply Wo_gf); (exact rfl); ((conv => lhs; simp -implicitDefEqProofs [*]) <;> exact rfl); (exact rfl))
    | ((with_reducible apply Wo_gx); (exact rfl); ((conv => lhs; simp -implicitDefEqProofs [*]) <;> exact rfl))
    | ((with_reducible apply Wo_gsT); (exact rfl); ((conv => lhs; simp -implicitDefEqProofs [*]) <;> exact rfl))
    | ((with_reducible apply Wo_gsF); (exact rfl); ((conv => lhs; simp -implicitDefEqProofs [*]) <;> exact rfl))
    | ((with_reducible apply ex2); (conv => lhs; simp -implicitDefEqProofs [*]) <;> exact rfl)
    | (with_reducible apply W_ss) | (with_reducible apply W_srl) | (with_reducible apply W_rl)
    | ((with_reducible apply W_sc); (conv => lhs; simp -implicitDefEqProofs [*]) <;> exact rfl)
    | ((with_reducible apply W_c); (conv => lhs; simp -implicitDefEqProofs [*]) <;> exact rfl)
    | ((with_reducible apply W_srdl); kernel_rfl) | ((with_reducible apply W_rdl); kernel_rfl)
    | ((with_reducible apply Wd_u); (conv => lhs; simp -implicitDefEqProofs [*]) <;> exact rfl)
    | ((with_reducible apply Wd_n); (conv => lhs; simp -implicitDefEqProofs [*]) <;> exact rfl)
    | ((with_reducible apply Wd_nil); exact rfl)
    | ((with_reducible apply Wd_gsT); (exact rfl); ((conv => lhs; simp -implicitDefEqProofs [*]) <;> exact rfl))
    | ((with_reducible apply Wd_gsF); (exact rfl); ((conv => lhs; simp -implicitDefEqProofs [*]) <;> exact rfl))
    | ((with_reducible apply ex4); (conv => lhs; simp -implicitDefEqProofs [*]) <;> exact rfl)
    | (with_reducible apply W_sblock) | (with_reducible apply W_block) | (with_reducible apply W_sskip) | (with_reducible apply W_skip) | (with_reducible apply W_sret) | (with_reducible apply W_ret) | (with_reducible apply W_sexit) | (with_reducible apply W_exit)
    | (with_reducible apply thenW_n) | (with_reducible apply thenW_r) | (with_reducible apply thenW_e) | (with_reducible apply inB_n) | (with_reducible apply inB_r) | (with_reducible apply inB_e) | ((with_reducible apply inB_o); rotate_left; exact rfl)
    | ((with_reducible apply EndQ_ret); (conv => lhs; simp -implicitDefEqProofs [*]) <;> exact rfl) | ((with_reducible apply EndQ_normal); (conv => lhs; simp -implicitDefEqProofs [*]) <;> exact rfl)
    | (intro h h'; try simp [*, -h] at h'))
  refine ⟨nofun, _, _, rfl, rfl, ⟨go, ?_, ?_, ?_⟩, ?_, fun y hy y0 y5 y6 yz => ?_⟩
  · simp [*]
  · simp [*]
  · simp [*, List.map_set]
  · simp [*, List.map_set]
  · have yk := kept_far hy
    simp [*]
set_option maxHeartbeats 4000000 in
theorem o4 (k dd : Nat) (c : RC) (xd xi g gw go zd zi gr : Nat) (s : RS) (r : List Int) (hp1 : Hp) (hxk : xd ≤ k) (hzk : zd ≤ k) (hxz : ¬ xd = zd) (hx : hp1 ⟨xd, xi, 0⟩ = .box g (rcells c xd xi gw go s) false) (ho : hp1 ⟨xd, xi, 6⟩ = .arr go 1 5 (rowB s.out) false) (hw : hp1 ⟨xd, xi, 5⟩ = .arr gw 1 38 (rowU s.words) false) (hz : hp1 ⟨zd, zi, 0⟩ = .arr gr 1 38 (rowU r) false) (d a b kk base size n : Int) (hd0 : 0 ≤ d) (hd1 : d < r.length) (hb0 : 0 ≤ base) (hb1 : base < s.words.length) : ∃ v hp', (lim Try.prog E31 X31).hpc k dd 38 [.ptr ⟨xd, xi, 0⟩ g 0, .agg [iv 4, iv d, iv a, iv b, iv kk, iv base, iv size, uv n], .own ⟨zd, zi, 0⟩ gr r.length] hp1 = some (v, hp') ∧ (v = .tup [] ∧ After c k xd xi g gw zd zi gr hp1 hp' s (r.set d.toNat (rg s.words base))) := by
  refine lim_hpcW (R := fun v hp' => v = .tup [] ∧ After c k xd xi g gw zd zi gr hp1 hp' s (r.set d.toNat (rg s.words base))) Try.func38 rfl rfl bodyOk_38 rfl rfl ?_
  have n1 : ¬ xd = k + 1 := by omega
  have n2 : ¬ zd = k + 1 := by omega
  have n3 : ¬ k + 1 = xd := by omega
  have n4 : ¬ k + 1 = zd := by omega
  have n5 : ¬ zd = xd := fun e => hxz e.symm
  have hdl : d.toNat < r.length := by omega
  have hwl : base.toNat < s.words.length := by omega
  have hwa := rg_get hb0 hb1
  have hwe := rg_el (r := s.words) (a := base)
  repeat' (first
    | ((with_reducible apply Wo_u); (conv => lhs; simp -implicitDefEqProofs [*]) <;> exact rfl)
    | ((with_reducible apply Wo_n); (conv => lhs; simp -implicitDefEqProofs [*]) <;> exact rfl)
    | (with_reducible apply Wo_nil)
    | ((with_reducible apply Wo_gt); (exact rfl); ((conv => lhs; simp -implicitDefEqProofs [*]) <;> exact rfl); (conv => lhs; simp -implicitDefEqProofs [*]) <;> exact rfl)
    | ((with_reducible apply Wo_gf); (exact rfl); ((conv => lhs; simp -implicitDefEqProofs [*]) <;> exact rfl); (exact rfl))
    | ((with_reducible apply Wo_gx); (exact rfl); ((conv => lhs; simp -implicitDefEqProofs [*]) <;> exact rfl))
    | ((with_reducible apply Wo_gsT); (exact rfl); ((conv => lhs; simp -implicitDefEqProofs [*]) <;> exact rfl))
    | ((with_reducible apply Wo_gsF); (exact rfl); ((conv => lhs; simp -implicitDefEqProofs [*]) <;> exact rfl))
    | ((with_reducible apply ex2); (conv => lhs; simp -implicitDefEqProofs [*]) <;> exact rfl)
    | (with_reducible apply W_ss) | (with_reducible apply W_srl) | (with_reducible apply W_rl)
    | ((with_reducible apply W_sc); (conv => lhs; simp -implicitDefEqProofs [*]) <;> exact rfl)
    | ((with_reducible apply W_c); (conv => lhs; simp -implicitDefEqProofs [*]) <;> exact rfl)
    | ((with_reducible apply W_srdl); kernel_rfl) | ((with_reducible apply W_rdl); kernel_rfl)
    | ((with_reducible apply Wd_u); (conv => lhs; simp -implicitDefEqProofs [*]) <;> exact rfl)
    | ((with_reducible apply Wd_n); (conv => lhs; simp -implicitDefEqProofs [*]) <;> exact rfl)
    | ((with_reducible apply Wd_nil); exact rfl)
    | ((with_reducible apply Wd_gsT); (exact rfl); ((conv => lhs; simp -implicitDefEqProofs [*]) <;> exact rfl))
    | ((with_reducible apply Wd_gsF); (exact rfl); ((conv => lhs; simp -implicitDefEqProofs [*]) <;> exact rfl))
    | ((with_reducible apply ex4); (conv => lhs; simp -implicitDefEqProofs [*]) <;> exact rfl)
    | (with_reducible apply W_sblock) | (with_reducible apply W_block) | (with_reducible apply W_sskip) | (with_reducible apply W_skip) | (with_reducible apply W_sret) | (with_reducible apply W_ret) | (with_reducible apply W_sexit) | (with_reducible apply W_exit)
    | (with_reducible apply thenW_n) | (with_reducible apply thenW_r) | (with_reducible apply thenW_e) | (with_reducible apply inB_n) | (with_reducible apply inB_r) | (with_reducible apply inB_e) | ((with_reducible apply inB_o); rotate_left; exact rfl)
    | ((with_reducible apply EndQ_ret); (conv => lhs; simp -implicitDefEqProofs [*]) <;> exact rfl) | ((with_reducible apply EndQ_normal); (conv => lhs; simp -implicitDefEqProofs [*]) <;> exact rfl)
    | (intro h h'; try simp [*, -h] at h'))
  refine ⟨nofun, _, _, rfl, rfl, ⟨go, ?_, ?_, ?_⟩, ?_, fun y hy y0 y5 y6 yz => ?_⟩
  · simp [*]
  · simp [*]
  · simp [*, List.map_set]
  · simp [*, List.map_set]
  · have yk := kept_far hy
    simp [*]
set_option maxHeartbeats 4000000 in
theorem o5 (k dd : Nat) (c : RC) (xd xi g gw go zd zi gr : Nat) (s : RS) (r : List Int) (hp1 : Hp) (hxk : xd ≤ k) (hzk : zd ≤ k) (hxz : ¬ xd = zd) (hx : hp1 ⟨xd, xi, 0⟩ = .box g (rcells c xd xi gw go s) false) (ho : hp1 ⟨xd, xi, 6⟩ = .arr go 1 5 (rowB s.out) false) (hw : hp1 ⟨xd, xi, 5⟩ = .arr gw 1 38 (rowU s.words) false) (hz : hp1 ⟨zd, zi, 0⟩ = .arr gr 1 38 (rowU r) false) (d a b kk base size n : Int) (ha0 : 0 ≤ a) (ha1 : a < r.length) (hb0 : 0 ≤ base) (hb1 : base < s.words.length) : ∃ v hp', (lim Try.prog E31 X31).hpc k dd 38 [.ptr ⟨xd, xi, 0⟩ g 0, .agg [iv 5, iv d, iv a, iv b, iv kk, iv base, iv size, uv n], .own ⟨zd, zi, 0⟩ gr r.length] hp1 = some (v, hp') ∧ (v = .tup [] ∧ After c k xd xi g gw zd zi gr hp1 hp' { s with words := s.words.set base.toNat (rg r a) } (r)) := by
  refine lim_hpcW (R := fun v hp' => v = .tup [] ∧ After c k xd xi g gw zd zi gr hp1 hp' { s with words := s.words.set base.toNat (rg r a) } (r)) Try.func38 rfl rfl bodyOk_38 rfl rfl ?_
  have n1 : ¬ xd = k + 1 := by omega
  have n2 : ¬ zd = k + 1 := by omega
  have n3 : ¬ k + 1 = xd := by omega
  have n4 : ¬ k + 1 = zd := by omega
  have n5 : ¬ zd = xd := fun e => hxz e.symm
  have hal : a.toNat < r.length := by omega
  have hra := rg_get ha0 ha1
  have hre := rg_el (r := r) (a := a)
  have hwl : base.toNat < s.words.length := by omega
  have hwa := rg_get hb0 hb1
  have hwe := rg_el (r := s.words) (a := base)
  repeat' (first
    | ((with_reducible apply Wo_u); (conv => lhs; simp -implicitDefEqProofs [*]) <;> exact rfl)
    | ((with_reducible apply Wo_n); (conv => lhs; simp -implicitDefEqProofs [*]) <;> exact rfl)
    | (with_reducible apply Wo_nil)
    | ((with_reducible apply Wo_gt); (exact rfl); ((conv => lhs; simp -implicitDefEqProofs [*]) <;> exact rfl); (conv => lhs; simp -implicitDefEqProofs [*]) <;> exact rfl)
    | ((with_reducible apply Wo_gf); (exact rfl); ((conv => lhs; simp -implicitDefEqProofs [*]) <;> exact rfl); (exact rfl))
    | ((with_reducible apply Wo_gx); (exact rfl); ((conv => lhs; simp -implicitDefEqProofs [*]) <;> exact rfl))
    | ((with_reducible apply Wo_gsT); (exact rfl); ((conv => lhs; simp -implicitDefEqProofs [*]) <;> exact rfl))
    | ((with_reducible apply Wo_gsF); (exact rfl); ((conv => lhs; simp -implicitDefEqProofs [*]) <;> exact rfl))
    | ((with_reducible apply ex2); (conv => lhs; simp -implicitDefEqProofs [*]) <;> exact rfl)
    | (with_reducible apply W_ss) | (with_reducible apply W_srl) | (with_reducible apply W_rl)
    | ((with_reducible apply W_sc); (conv => lhs; simp -implicitDefEqProofs [*]) <;> exact rfl)
    | ((with_reducible apply W_c); (conv => lhs; simp -implicitDefEqProofs [*]) <;> exact rfl)
    | ((with_reducible apply W_srdl); kernel_rfl) | ((with_reducible apply W_rdl); kernel_rfl)
    | ((with_reducible apply Wd_u); (conv => lhs; simp -implicitDefEqProofs [*]) <;> exact rfl)
    | ((with_reducible apply Wd_n); (conv => lhs; simp -implicitDefEqProofs [*]) <;> exact rfl)
    | ((with_reducible apply Wd_nil); exact rfl)
    | ((with_reducible apply Wd_gsT); (exact rfl); ((conv => lhs; simp -implicitDefEqProofs [*]) <;> exact rfl))
    | ((with_reducible apply Wd_gsF); (exact rfl); ((conv => lhs; simp -implicitDefEqProofs [*]) <;> exact rfl))
    | ((with_reducible apply ex4); (conv => lhs; simp -implicitDefEqProofs [*]) <;> exact rfl)
    | (with_reducible apply W_sblock) | (with_reducible apply W_block) | (with_reducible apply W_sskip) | (with_reducible apply W_skip) | (with_reducible apply W_sret) | (with_reducible apply W_ret) | (with_reducible apply W_sexit) | (with_reducible apply W_exit)
    | (with_reducible apply thenW_n) | (with_reducible apply thenW_r) | (with_reducible apply thenW_e) | (with_reducible apply inB_n) | (with_reducible apply inB_r) | (with_reducible apply inB_e) | ((with_reducible apply inB_o); rotate_left; exact rfl)
    | ((with_reducible apply EndQ_ret); (conv => lhs; simp -implicitDefEqProofs [*]) <;> exact rfl) | ((with_reducible apply EndQ_normal); (conv => lhs; simp -implicitDefEqProofs [*]) <;> exact rfl)
    | (intro h h'; try simp [*, -h] at h'))
  refine ⟨nofun, _, _, rfl, rfl, ⟨go, ?_, ?_, ?_⟩, ?_, fun y hy y0 y5 y6 yz => ?_⟩
  · simp [*]
  · simp [*]
  · simp [*, List.map_set]
  · simp [*, List.map_set]
  · have yk := kept_far hy
    simp [*]
end Go.Proofs.Ytmfhdhiaokejdaa

namespace Go.Proofs.Ytmfhdhiaokejdaa
open Go Go.Ab
set_option linter.unusedSimpArgs false
set_option linter.unusedVariables false
set_option maxHeartbeats 4000000 in
theorem o3a (k dd : Nat) (c : RC) (xd xi g gw go zd zi gr : Nat) (s : RS) (r : List Int) (hp1 : Hp) (hxk : xd ≤ k) (hzk : zd ≤ k) (hxz : ¬ xd = zd) (hx : hp1 ⟨xd, xi, 0⟩ = .box g (rcells c xd xi gw go s) false) (ho : hp1 ⟨xd, xi, 6⟩ = .arr go 1 5 (rowB s.out) false) (hw : hp1 ⟨xd, xi, 5⟩ = .arr gw 1 38 (rowU s.words) false) (hz : hp1 ⟨zd, zi, 0⟩ = .arr gr 1 38 (rowU r) false) (d a b kk base size n : Int) (hd0 : 0 ≤ d) (hd1 : d < r.length) (ha0 : 0 ≤ a) (ha1 : a < r.length) (hb0 : 0 ≤ b) (hb1 : b < r.length) (w : Int) (h40 : (lim Try.prog E31 X31).dat 40 [iv kk, uv (rg r a), uv (rg r b)] = some [uv w, iv 0]) : ∃ v hp', (lim Try.prog E31 X31).hpc k dd 38 [.ptr ⟨xd, xi, 0⟩ g 0, .agg [iv 3, iv d, iv a, iv b, iv kk, iv base, iv size, uv n], .own ⟨zd, zi, 0⟩ gr r.length] hp1 = some (v, hp') ∧ (v = .tup [] ∧ After c k xd xi g gw zd zi gr hp1 hp' s (r.set d.toNat w)) := by
  refine lim_hpcW (R := fun v hp' => v = .tup [] ∧ After c k xd xi g gw zd zi gr hp1 hp' s (r.set d.toNat w)) Try.func38 rfl rfl bodyOk_38 rfl rfl ?_
  have n1 : ¬ xd = k + 1 := by omega
  have n2 : ¬ zd = k + 1 := by omega
  have n3 : ¬ k + 1 = xd := by omega
  have n4 : ¬ k + 1 = zd := by omega
  have n5 : ¬ zd = xd := fun e => hxz e.symm
  have hdl : d.toNat < r.length := by omega
  have hal : a.toNat < r.length := by omega
  have hra := rg_get ha0 ha1
  have hre := rg_el (r := r) (a := a)
  have hbl : b.toNat < r.length := by omega
  have hrb := rg_get hb0 hb1
  have hrf := rg_el (r := r) (a := b)
  repeat' (first
    | ((with_reducible apply Wo_u); (conv => lhs; simp -implicitDefEqProofs [*]) <;> exact rfl)
    | ((with_reducible apply Wo_n); (conv => lhs; simp -implicitDefEqProofs [*]) <;> exact rfl)
    | (with_reducible apply Wo_nil)
    | ((with_reducible apply Wo_gt); (exact rfl); ((conv => lhs; simp -implicitDefEqProofs [*]) <;> exact rfl); (conv => lhs; simp -implicitDefEqProofs [*]) <;> exact rfl)
    | ((with_reducible apply Wo_gf); (exact rfl); ((conv => lhs; simp -implicitDefEqProofs [*]) <;> exact rfl); (exact rfl))
    | ((with_reducible apply Wo_gx); (exact rfl); ((conv => lhs; simp -implicitDefEqProofs [*]) <;> exact rfl))
    | ((with_reducible apply Wo_gsT); (exact rfl); ((conv => lhs; simp -implicitDefEqProofs [*]) <;> exact rfl))
    | ((with_reducible apply Wo_gsF); (exact rfl); ((conv => lhs; simp -implicitDefEqProofs [*]) <;> exact rfl))
    | ((with_reducible apply ex2); (conv => lhs; simp -implicitDefEqProofs [*]) <;> exact rfl)
    | (with_reducible apply W_ss) | (with_reducible apply W_srl) | (with_reducible apply W_rl)
    | ((with_reducible apply W_sc); (conv => lhs; simp -implicitDefEqProofs [*]) <;> exact rfl)
    | ((with_reducible apply W_c); (conv => lhs; simp -implicitDefEqProofs [*]) <;> exact rfl)
    | ((with_reducible apply W_srdl); kernel_rfl) | ((with_reducible apply W_rdl); kernel_rfl)
    | ((with_reducible apply Wd_u); (conv => lhs; simp -implicitDefEqProofs [*]) <;> exact rfl)
    | ((with_reducible apply Wd_n); (conv => lhs; simp -implicitDefEqProofs [*]) <;> exact rfl)
    | ((with_reducible apply Wd_nil); exact rfl)
    | ((with_reducible apply Wd_gsT); (exact rfl); ((conv => lhs; simp -implicitDefEqProofs [*]) <;> exact rfl))
    | ((with_reducible apply Wd_gsF); (exact rfl); ((conv => lhs; simp -implicitDefEqProofs [*]) <;> exact rfl))
    | ((with_reducible apply ex4); (conv => lhs; simp -implicitDefEqProofs [*]) <;> exact rfl)
    | (with_reducible apply W_sblock) | (with_reducible apply W_block) | (with_reducible apply W_sskip) | (with_reducible apply W_skip) | (with_reducible apply W_sret) | (with_reducible apply W_ret) | (with_reducible apply W_sexit) | (with_reducible apply W_exit)
    | (with_reducible apply thenW_n) | (with_reducible apply thenW_r) | (with_reducible apply thenW_e) | (with_reducible apply inB_n) | (with_reducible apply inB_r) | (with_reducible apply inB_e) | ((with_reducible apply inB_o); rotate_left; exact rfl)
    | ((with_reducible apply EndQ_ret); (conv => lhs; simp -implicitDefEqProofs [*]) <;> exact rfl) | ((with_reducible apply EndQ_normal); (conv => lhs; simp -implicitDefEqProofs [*]) <;> exact rfl)
    | (intro h h'; try simp [*, -h] at h'))
  refine ⟨nofun, _, _, rfl, rfl, ⟨go, ?_, ?_, ?_⟩, ?_, fun y hy y0 y5 y6 yz => ?_⟩
  · simp [*]
  · simp [*]
  · simp [*, List.map_set]
  · simp [*, List.map_set]
  · have yk := kept_far hy
    simp [*]
set_option maxHeartbeats 4000000 in
theorem o3b (k dd : Nat) (c : RC) (xd xi g gw go zd zi gr : Nat) (s : RS) (r : List Int) (hp1 : Hp) (hxk : xd ≤ k) (hzk : zd ≤ k) (hxz : ¬ xd = zd) (hx : hp1 ⟨xd, xi, 0⟩ = .box g (rcells c xd xi gw go s) false) (ho : hp1 ⟨xd, xi, 6⟩ = .arr go 1 5 (rowB s.out) false) (hw : hp1 ⟨xd, xi, 5⟩ = .arr gw 1 38 (rowU s.words) false) (hz : hp1 ⟨zd, zi, 0⟩ = .arr gr 1 38 (rowU r) false) (d a b kk base size n : Int) (ha0 : 0 ≤ a) (ha1 : a < r.length) (hb0 : 0 ≤ b) (hb1 : b < r.length) (w e : Int) (h40 : (lim Try.prog E31 X31).dat 40 [iv kk, uv (rg r a), uv (rg r b)] = some [uv w, iv e]) (he : ¬ e = 0) : ∃ v hp', (lim Try.prog E31 X31).hpc k dd 38 [.ptr ⟨xd, xi, 0⟩ g 0, .agg [iv 3, iv d, iv a, iv b, iv kk, iv base, iv size, uv n], .own ⟨zd, zi, 0⟩ gr r.length] hp1 = some (v, hp') ∧ (v = .tup [] ∧ After c k xd xi g gw zd zi gr hp1 hp' { s with fin := 2 } (r)) := by
  refine lim_hpcW (R := fun v hp' => v = .tup [] ∧ After c k xd xi g gw zd zi gr hp1 hp' { s with fin := 2 } (r)) Try.func38 rfl rfl bodyOk_38 rfl rfl ?_
  have n1 : ¬ xd = k + 1 := by omega
  have n2 : ¬ zd = k + 1 := by omega
  have n3 : ¬ k + 1 = xd := by omega
  have n4 : ¬ k + 1 = zd := by omega
  have n5 : ¬ zd = xd := fun e => hxz e.symm
  have hal : a.toNat < r.length := by omega
  have hra := rg_get ha0 ha1
  have hre := rg_el (r := r) (a := a)
  have hbl : b.toNat < r.length := by omega
  have hrb := rg_get hb0 hb1
  have hrf := rg_el (r := r) (a := b)
  repeat' (first
    | ((with_reducible apply Wo_u); (conv => lhs; simp -implicitDefEqProofs [*]) <;> exact rfl)
    | ((with_reducible apply Wo_n); (conv => lhs; simp -implicitDefEqProofs [*]) <;> exact rfl)
    | (with_reducible apply Wo_nil)
    | ((with_reducible apply Wo_gt); (exact rfl); ((conv => lhs; simp -implicitDefEqProofs [*]) <;> exact rfl); (conv => lhs; simp -implicitDefEqProofs [*]) <;> exact rfl)
    | ((with_reducible apply Wo_gf); (exact rfl); ((conv => lhs; simp -implicitDefEqProofs [*]) <;> exact rfl); (exact rfl))
    | ((with_reducible apply Wo_gx); (exact rfl); ((conv => lhs; simp -implicitDefEqProofs [*]) <;> exact rfl))
    | ((with_reducible apply Wo_gsT); (exact rfl); ((conv => lhs; simp -implicitDefEqProofs [*]) <;> exact rfl))
    | ((with_reducible apply Wo_gsF); (exact rfl); ((conv => lhs; simp -implicitDefEqProofs [*]) <;> exact rfl))
    | ((with_reducible apply ex2); (conv => lhs; simp -implicitDefEqProofs [*]) <;> exact rfl)
    | (with_reducible apply W_ss) | (with_reducible apply W_srl) | (with_reducible apply W_rl)
    | ((with_reducible apply W_sc); (conv => lhs; simp -implicitDefEqProofs [*]) <;> exact rfl)
    | ((with_reducible apply W_c); (conv => lhs; simp -implicitDefEqProofs [*]) <;> exact rfl)
    | ((with_reducible apply W_srdl); kernel_rfl) | ((with_reducible apply W_rdl); kernel_rfl)
    | ((with_reducible apply Wd_u); (conv => lhs; simp -implicitDefEqProofs [*]) <;> exact rfl)
    | ((with_reducible apply Wd_n); (conv => lhs; simp -implicitDefEqProofs [*]) <;> exact rfl)
    | ((with_reducible apply Wd_nil); exact rfl)
    | ((with_reducible apply Wd_gsT); (exact rfl); ((conv => lhs; simp -implicitDefEqProofs [*]) <;> exact rfl))
    | ((with_reducible apply Wd_gsF); (exact rfl); ((conv => lhs; simp -implicitDefEqProofs [*]) <;> exact rfl))
    | ((with_reducible apply ex4); (conv => lhs; simp -implicitDefEqProofs [*]) <;> exact rfl)
    | (with_reducible apply W_sblock) | (with_reducible apply W_block) | (with_reducible apply W_sskip) | (with_reducible apply W_skip) | (with_reducible apply W_sret) | (with_reducible apply W_ret) | (with_reducible apply W_sexit) | (with_reducible apply W_exit)
    | (with_reducible apply thenW_n) | (with_reducible apply thenW_r) | (with_reducible apply thenW_e) | (with_reducible apply inB_n) | (with_reducible apply inB_r) | (with_reducible apply inB_e) | ((with_reducible apply inB_o); rotate_left; exact rfl)
    | ((with_reducible apply EndQ_ret); (conv => lhs; simp -implicitDefEqProofs [*]) <;> exact rfl) | ((with_reducible apply EndQ_normal); (conv => lhs; simp -implicitDefEqProofs [*]) <;> exact rfl)
    | (intro h h'; try simp [*, -h] at h'))
  refine ⟨nofun, _, _, rfl, rfl, ⟨go, ?_, ?_, ?_⟩, ?_, fun y hy y0 y5 y6 yz => ?_⟩
  · simp [*]
  · simp [*]
  · simp [*, List.map_set]
  · simp [*, List.map_set]
  · have yk := kept_far hy
    simp [*]
set_option maxHeartbeats 4000000 in
theorem o6a (k dd : Nat) (c : RC) (xd xi g gw go zd zi gr : Nat) (s : RS) (r : List Int) (hp1 : Hp) (hxk : xd ≤ k) (hzk : zd ≤ k) (hxz : ¬ xd = zd) (hx : hp1 ⟨xd, xi, 0⟩ = .box g (rcells c xd xi gw go s) false) (ho : hp1 ⟨xd, xi, 6⟩ = .arr go 1 5 (rowB s.out) false) (hw : hp1 ⟨xd, xi, 5⟩ = .arr gw 1 38 (rowU s.words) false) (hz : hp1 ⟨zd, zi, 0⟩ = .arr gr 1 38 (rowU r) false) (d a b kk base size n : Int) (ha0 : 0 ≤ a) (ha1 : a < r.length) (hs0 : 1 ≤ size) (hs1 : size ≤ 4096) (hu : U (rg r a)) (hb0 : 0 ≤ base) (hb1 : base + size ≤ s.words.length) (hwl : s.words.length ≤ 1048576) (hge : size ≤ rg r a) : ∃ v hp', (lim Try.prog E31 X31).hpc k dd 38 [.ptr ⟨xd, xi, 0⟩ g 0, .agg [iv 6, iv d, iv a, iv b, iv kk, iv base, iv size, uv n], .own ⟨zd, zi, 0⟩ gr r.length] hp1 = some (v, hp') ∧ (v = .tup [] ∧ After c k xd xi g gw zd zi gr hp1 hp' { s with fin := 3 } (r)) := by
  refine lim_hpcW (R := fun v hp' => v = .tup [] ∧ After c k xd xi g gw zd zi gr hp1 hp' { s with fin := 3 } (r)) Try.func38 rfl rfl bodyOk_38 rfl rfl ?_
  have n1 : ¬ xd = k + 1 := by omega
  have n2 : ¬ zd = k + 1 := by omega
  have n3 : ¬ k + 1 = xd := by omega
  have n4 : ¬ k + 1 = zd := by omega
  have n5 : ¬ zd = xd := fun e => hxz e.symm
  have hal : a.toNat < r.length := by omega
  have hra := rg_get ha0 ha1
  have hre := rg_el (r := r) (a := a)
  have q1 := q_wrap hu
  have q2 : IntKind.u64.wrap size = size := q_wrap (by unfold U; omega)
  repeat' (first
    | ((with_reducible apply Wo_u); (conv => lhs; simp -implicitDefEqProofs [*]) <;> exact rfl)
    | ((with_reducible apply Wo_n); (conv => lhs; simp -implicitDefEqProofs [*]) <;> exact rfl)
    | (with_reducible apply Wo_nil)
    | ((with_reducible apply Wo_gt); (exact rfl); ((conv => lhs; simp -implicitDefEqProofs [*]) <;> exact rfl); (conv => lhs; simp -implicitDefEqProofs [*]) <;> exact rfl)
    | ((with_reducible apply Wo_gf); (exact rfl); ((conv => lhs; simp -implicitDefEqProofs [*]) <;> exact rfl); (exact rfl))
    | ((with_reducible apply Wo_gx); (exact rfl); ((conv => lhs; simp -implicitDefEqProofs [*]) <;> exact rfl))
    | ((with_reducible apply Wo_gsT); (exact rfl); ((conv => lhs; simp -implicitDefEqProofs [*]) <;> exact rfl))
    | ((with_reducible apply Wo_gsF); (exact rfl); ((conv => lhs; simp -implicitDefEqProofs [*]) <;> exact rfl))
    | ((with_reducible apply ex2); (conv => lhs; simp -implicitDefEqProofs [*]) <;> exact rfl)
    | (with_reducible apply W_ss) | (with_reducible apply W_srl) | (with_reducible apply W_rl)
    | ((with_reducible apply W_sc); (conv => lhs; simp -implicitDefEqProofs [*]) <;> exact rfl)
    | ((with_reducible apply W_c); (conv => lhs; simp -implicitDefEqProofs [*]) <;> exact rfl)
    | ((with_reducible apply W_srdl); kernel_rfl) | ((with_reducible apply W_rdl); kernel_rfl)
    | ((with_reducible apply Wd_u); (conv => lhs; simp -implicitDefEqProofs [*]) <;> exact rfl)
    | ((with_reducible apply Wd_n); (conv => lhs; simp -implicitDefEqProofs [*]) <;> exact rfl)
    | ((with_reducible apply Wd_nil); exact rfl)
    | ((with_reducible apply Wd_gsT); (exact rfl); ((conv => lhs; simp -implicitDefEqProofs [*]) <;> exact rfl))
    | ((with_reducible apply Wd_gsF); (exact rfl); ((conv => lhs; simp -implicitDefEqProofs [*]) <;> exact rfl))
    | ((with_reducible apply ex4); (conv => lhs; simp -implicitDefEqProofs [*]) <;> exact rfl)
    | (with_reducible apply W_sblock) | (with_reducible apply W_block) | (with_reducible apply W_sskip) | (with_reducible apply W_skip) | (with_reducible apply W_sret) | (with_reducible apply W_ret) | (with_reducible apply W_sexit) | (with_reducible apply W_exit)
    | (with_reducible apply thenW_n) | (with_reducible apply thenW_r) | (with_reducible apply thenW_e) | (with_reducible apply inB_n) | (with_reducible apply inB_r) | (with_reducible apply inB_e) | ((with_reducible apply inB_o); rotate_left; exact rfl)
    | ((with_reducible apply EndQ_ret); (conv => lhs; simp -implicitDefEqProofs [*]) <;> exact rfl) | ((with_reducible apply EndQ_normal); (conv => lhs; simp -implicitDefEqProofs [*]) <;> exact rfl)
    | (intro h h'; try simp [*, -h] at h'))
  refine ⟨nofun, _, _, rfl, rfl, ⟨go, ?_, ?_, ?_⟩, ?_, fun y hy y0 y5 y6 yz => ?_⟩
  · simp [*]
  · simp [*]
  · simp [*, List.map_set]
  · simp [*, List.map_set]
  · have yk := kept_far hy
    simp [*]
set_option maxHeartbeats 4000000 in
theorem o6b (k dd : Nat) (c : RC) (xd xi g gw go zd zi gr : Nat) (s : RS) (r : List Int) (hp1 : Hp) (hxk : xd ≤ k) (hzk : zd ≤ k) (hxz : ¬ xd = zd) (hx : hp1 ⟨xd, xi, 0⟩ = .box g (rcells c xd xi gw go s) false) (ho : hp1 ⟨xd, xi, 6⟩ = .arr go 1 5 (rowB s.out) false) (hw : hp1 ⟨xd, xi, 5⟩ = .arr gw 1 38 (rowU s.words) false) (hz : hp1 ⟨zd, zi, 0⟩ = .arr gr 1 38 (rowU r) false) (d a b kk base size n : Int) (hd0 : 0 ≤ d) (hd1 : d < r.length) (ha0 : 0 ≤ a) (ha1 : a < r.length) (hs0 : 1 ≤ size) (hs1 : size ≤ 4096) (hu : U (rg r a)) (hb0 : 0 ≤ base) (hb1 : base + size ≤ s.words.length) (hwl : s.words.length ≤ 1048576) (hge : ¬ size ≤ rg r a) : ∃ v hp', (lim Try.prog E31 X31).hpc k dd 38 [.ptr ⟨xd, xi, 0⟩ g 0, .agg [iv 6, iv d, iv a, iv b, iv kk, iv base, iv size, uv n], .own ⟨zd, zi, 0⟩ gr r.length] hp1 = some (v, hp') ∧ (v = .tup [] ∧ After c k xd xi g gw zd zi gr hp1 hp' s (r.set d.toNat (rg s.words (base + rg r a)))) := by
  refine lim_hpcW (R := fun v hp' => v = .tup [] ∧ After c k xd xi g gw zd zi gr hp1 hp' s (r.set d.toNat (rg s.words (base + rg r a)))) Try.func38 rfl rfl bodyOk_38 rfl rfl ?_
  have n1 : ¬ xd = k + 1 := by omega
  have n2 : ¬ zd = k + 1 := by omega
  have n3 : ¬ k + 1 = xd := by omega
  have n4 : ¬ k + 1 = zd := by omega
  have n5 : ¬ zd = xd := fun e => hxz e.symm
  have hdl : d.toNat < r.length := by omega
  have hal : a.toNat < r.length := by omega
  have hra := rg_get ha0 ha1
  have hre := rg_el (r := r) (a := a)
  have q1 := q_wrap hu
  have q2 : IntKind.u64.wrap size = size := q_wrap (by unfold U; omega)
  unfold U at hu
  have q3 : IntKind.i64.wrap (rg r a) = rg r a := wrap64 (by omega) (by omega)
  have q4 : IntKind.i64.wrap (base + rg r a) = base + rg r a := wrap64 (by omega) (by omega)
  have x0 : 0 ≤ base + rg r a := by omega
  have x1 : base + rg r a < s.words.length := by omega
  have xl : (base + rg r a).toNat < s.words.length := by omega
  have hwa := rg_get x0 x1
  have hwe := rg_el (r := s.words) (a := base + rg r a)
  repeat' (first
    | ((with_reducible apply Wo_u); (conv => lhs; simp -implicitDefEqProofs [*]) <;> exact rfl)
    | ((with_reducible apply Wo_n); (conv => lhs; simp -implicitDefEqProofs [*]) <;> exact rfl)
    | (with_reducible apply Wo_nil)
    | ((with_reducible apply Wo_gt); (exact rfl); ((conv => lhs; simp -implicitDefEqProofs [*]) <;> exact rfl); (conv => lhs; simp -implicitDefEqProofs [*]) <;> exact rfl)
    | ((with_reducible apply Wo_gf); (exact rfl); ((conv => lhs; simp -implicitDefEqProofs [*]) <;> exact rfl); (exact rfl))
    | ((with_reducible apply Wo_gx); (exact rfl); ((conv => lhs; simp -implicitDefEqProofs [*]) <;> exact rfl))
    | ((with_reducible apply Wo_gsT); (exact rfl); ((conv => lhs; simp -implicitDefEqProofs [*]) <;> exact rfl))
    | ((with_reducible apply Wo_gsF); (exact rfl); ((conv => lhs; simp -implicitDefEqProofs [*]) <;> exact rfl))
    | ((with_reducible apply ex2); (conv => lhs; simp -implicitDefEqProofs [*]) <;> exact rfl)
    | (with_reducible apply W_ss) | (with_reducible apply W_srl) | (with_reducible apply W_rl)
    | ((with_reducible apply W_sc); (conv => lhs; simp -implicitDefEqProofs [*]) <;> exact rfl)
    | ((with_reducible apply W_c); (conv => lhs; simp -implicitDefEqProofs [*]) <;> exact rfl)
    | ((with_reducible apply W_srdl); kernel_rfl) | ((with_reducible apply W_rdl); kernel_rfl)
    | ((with_reducible apply Wd_u); (conv => lhs; simp -implicitDefEqProofs [*]) <;> exact rfl)
    | ((with_reducible apply Wd_n); (conv => lhs; simp -implicitDefEqProofs [*]) <;> exact rfl)
    | ((with_reducible apply Wd_nil); exact rfl)
    | ((with_reducible apply Wd_gsT); (exact rfl); ((conv => lhs; simp -implicitDefEqProofs [*]) <;> exact rfl))
    | ((with_reducible apply Wd_gsF); (exact rfl); ((conv => lhs; simp -implicitDefEqProofs [*]) <;> exact rfl))
    | ((with_reducible apply ex4); (conv => lhs; simp -implicitDefEqProofs [*]) <;> exact rfl)
    | (with_reducible apply W_sblock) | (with_reducible apply W_block) | (with_reducible apply W_sskip) | (with_reducible apply W_skip) | (with_reducible apply W_sret) | (with_reducible apply W_ret) | (with_reducible apply W_sexit) | (with_reducible apply W_exit)
    | (with_reducible apply thenW_n) | (with_reducible apply thenW_r) | (with_reducible apply thenW_e) | (with_reducible apply inB_n) | (with_reducible apply inB_r) | (with_reducible apply inB_e) | ((with_reducible apply inB_o); rotate_left; exact rfl)
    | ((with_reducible apply EndQ_ret); (conv => lhs; simp -implicitDefEqProofs [*]) <;> exact rfl) | ((with_reducible apply EndQ_normal); (conv => lhs; simp -implicitDefEqProofs [*]) <;> exact rfl)
    | (intro h h'; try simp [*, -h] at h'))
  refine ⟨nofun, _, _, rfl, rfl, ⟨go, ?_, ?_, ?_⟩, ?_, fun y hy y0 y5 y6 yz => ?_⟩
  · simp [*]
  · simp [*]
  · simp [*, List.map_set]
  · simp [*, List.map_set]
  · have yk := kept_far hy
    simp [*]
set_option maxHeartbeats 4000000 in
theorem o7a (k dd : Nat) (c : RC) (xd xi g gw go zd zi gr : Nat) (s : RS) (r : List Int) (hp1 : Hp) (hxk : xd ≤ k) (hzk : zd ≤ k) (hxz : ¬ xd = zd) (hx : hp1 ⟨xd, xi, 0⟩ = .box g (rcells c xd xi gw go s) false) (ho : hp1 ⟨xd, xi, 6⟩ = .arr go 1 5 (rowB s.out) false) (hw : hp1 ⟨xd, xi, 5⟩ = .arr gw 1 38 (rowU s.words) false) (hz : hp1 ⟨zd, zi, 0⟩ = .arr gr 1 38 (rowU r) false) (d a b kk base size n : Int) (ha0 : 0 ≤ a) (ha1 : a < r.length) (hs0 : 1 ≤ size) (hs1 : size ≤ 4096) (hu : U (rg r a)) (hb0 : 0 ≤ base) (hb1 : base + size ≤ s.words.length) (hwl : s.words.length ≤ 1048576) (hge : size ≤ rg r a) : ∃ v hp', (lim Try.prog E31 X31).hpc k dd 38 [.ptr ⟨xd, xi, 0⟩ g 0, .agg [iv 7, iv d, iv a, iv b, iv kk, iv base, iv size, uv n], .own ⟨zd, zi, 0⟩ gr r.length] hp1 = some (v, hp') ∧ (v = .tup [] ∧ After c k xd xi g gw zd zi gr hp1 hp' { s with fin := 3 } (r)) := by
  refine lim_hpcW (R := fun v hp' => v = .tup [] ∧ After c k xd xi g gw zd zi gr hp1 hp' { s with fin := 3 } (r)) Try.func38 rfl rfl bodyOk_38 rfl rfl ?_
  have n1 : ¬ xd = k + 1 := by omega
  have n2 : ¬ zd = k + 1 := by omega
  have n3 : ¬ k + 1 = xd := by omega
  have n4 : ¬ k + 1 = zd := by omega
  have n5 : ¬ zd = xd := fun e => hxz e.symm
  have hal : a.toNat < r.length := by omega
  have hra := rg_get ha0 ha1
  have hre := rg_el (r := r) (a := a)
  have q1 := q_wrap hu
  have q2 : IntKind.u64.wrap size = size := q_wrap (by unfold U; omega)
  repeat' (first
    | ((with_reducible apply Wo_u); (conv => lhs; simp -implicitDefEqProofs [*]) <;> exact rfl)
    | ((with_reducible apply Wo_n); (conv => lhs; simp -implicitDefEqProofs [*]) <;> exact rfl)
    | (with_reducible apply Wo_nil)
    | ((with_reducible apply Wo_gt); (exact rfl); ((conv => lhs; simp -implicitDefEqProofs [*]) <;> exact rfl); (conv => lhs; simp -implicitDefEqProofs [*]) <;> exact rfl)
    | ((with_reducible apply Wo_gf); (exact rfl); ((conv => lhs; simp -implicitDefEqProofs [*]) <;> exact rfl); (exact rfl))
    | ((with_reducible apply Wo_gx); (exact rfl); ((conv => lhs; simp -implicitDefEqProofs [*]) <;> exact rfl))
    | ((with_reducible apply Wo_gsT); (exact rfl); ((conv => lhs; simp -implicitDefEqProofs [*]) <;> exact rfl))
    | ((with_reducible apply Wo_gsF); (exact rfl); ((conv => lhs; simp -implicitDefEqProofs [*]) <;> exact rfl))
    | ((with_reducible apply ex2); (conv => lhs; simp -implicitDefEqProofs [*]) <;> exact rfl)
    | (with_reducible apply W_ss) | (with_reducible apply W_srl) | (with_reducible apply W_rl)
    | ((with_reducible apply W_sc); (conv => lhs; simp -implicitDefEqProofs [*]) <;> exact rfl)
    | ((with_reducible apply W_c); (conv => lhs; simp -implicitDefEqProofs [*]) <;> exact rfl)
    | ((with_reducible apply W_srdl); kernel_rfl) | ((with_reducible apply W_rdl); kernel_rfl)
    | ((with_reducible apply Wd_u); (conv => lhs; simp -implicitDefEqProofs [*]) <;> exact rfl)
    | ((with_reducible apply Wd_n); (conv => lhs; simp -implicitDefEqProofs [*]) <;> exact rfl)
    | ((with_reducible apply Wd_nil); exact rfl)
    | ((with_reducible apply Wd_gsT); (exact rfl); ((conv => lhs; simp -implicitDefEqProofs [*]) <;> exact rfl))
    | ((with_reducible apply Wd_gsF); (exact rfl); ((conv => lhs; simp -implicitDefEqProofs [*]) <;> exact rfl))
    | ((with_reducible apply ex4); (conv => lhs; simp -implicitDefEqProofs [*]) <;> exact rfl)
    | (with_reducible apply W_sblock) | (with_reducible apply W_block) | (with_reducible apply W_sskip) | (with_reducible apply W_skip) | (with_reducible apply W_sret) | (with_reducible apply W_ret) | (with_reducible apply W_sexit) | (with_reducible apply W_exit)
    | (with_reducible apply thenW_n) | (with_reducible apply thenW_r) | (with_reducible apply thenW_e) | (with_reducible apply inB_n) | (with_reducible apply inB_r) | (with_reducible apply inB_e) | ((with_reducible apply inB_o); rotate_left; exact rfl)
    | ((with_reducible apply EndQ_ret); (conv => lhs; simp -implicitDefEqProofs [*]) <;> exact rfl) | ((with_reducible apply EndQ_normal); (conv => lhs; simp -implicitDefEqProofs [*]) <;> exact rfl)
    | (intro h h'; try simp [*, -h] at h'))
  refine ⟨nofun, _, _, rfl, rfl, ⟨go, ?_, ?_, ?_⟩, ?_, fun y hy y0 y5 y6 yz => ?_⟩
  · simp [*]
  · simp [*]
  · simp [*, List.map_set]
  · simp [*, List.map_set]
  · have yk := kept_far hy
    simp [*]
set_option maxHeartbeats 4000000 in
theorem o7b (k dd : Nat) (c : RC) (xd xi g gw go zd zi gr : Nat) (s : RS) (r : List Int) (hp1 : Hp) (hxk : xd ≤ k) (hzk : zd ≤ k) (hxz : ¬ xd = zd) (hx : hp1 ⟨xd, xi, 0⟩ = .box g (rcells c xd xi gw go s) false) (ho : hp1 ⟨xd, xi, 6⟩ = .arr go 1 5 (rowB s.out) false) (hw : hp1 ⟨xd, xi, 5⟩ = .arr gw 1 38 (rowU s.words) false) (hz : hp1 ⟨zd, zi, 0⟩ = .arr gr 1 38 (rowU r) false) (d a b kk base size n : Int) (ha0 : 0 ≤ a) (ha1 : a < r.length) (hbb0 : 0 ≤ b) (hbb1 : b < r.length) (hs0 : 1 ≤ size) (hs1 : size ≤ 4096) (hu : U (rg r a)) (hb0 : 0 ≤ base) (hb1 : base + size ≤ s.words.length) (hwl : s.words.length ≤ 1048576) (hge : ¬ size ≤ rg r a) : ∃ v hp', (lim Try.prog E31 X31).hpc k dd 38 [.ptr ⟨xd, xi, 0⟩ g 0, .agg [iv 7, iv d, iv a, iv b, iv kk, iv base, iv size, uv n], .own ⟨zd, zi, 0⟩ gr r.length] hp1 = some (v, hp') ∧ (v = .tup [] ∧ After c k xd xi g gw zd zi gr hp1 hp' { s with words := s.words.set (base + rg r a).toNat (rg r b) } (r)) := by
  refine lim_hpcW (R := fun v hp' => v = .tup [] ∧ After c k xd xi g gw zd zi gr hp1 hp' { s with words := s.words.set (base + rg r a).toNat (rg r b) } (r)) Try.func38 rfl rfl bodyOk_38 rfl rfl ?_
  have n1 : ¬ xd = k + 1 := by omega
  have n2 : ¬ zd = k + 1 := by omega
  have n3 : ¬ k + 1 = xd := by omega
  have n4 : ¬ k + 1 = zd := by omega
  have n5 : ¬ zd = xd := fun e => hxz e.symm
  have hal : a.toNat < r.length := by omega
  have hra := rg_get ha0 ha1
  have hre := rg_el (r := r) (a := a)
  have hbl : b.toNat < r.length := by omega
  have hrb := rg_get hbb0 hbb1
  have hrf := rg_el (r := r) (a := b)
  have q1 := q_wrap hu
  have q2 : IntKind.u64.wrap size = size := q_wrap (by unfold U; omega)
  unfold U at hu
  have q3 : IntKind.i64.wrap (rg r a) = rg r a := wrap64 (by omega) (by omega)
  have q4 : IntKind.i64.wrap (base + rg r a) = base + rg r a := wrap64 (by omega) (by omega)
  have x0 : 0 ≤ base + rg r a := by omega
  have x1 : base + rg r a < s.words.length := by omega
  have xl : (base + rg r a).toNat < s.words.length := by omega
  have hwa := rg_get x0 x1
  have hwe := rg_el (r := s.words) (a := base + rg r a)
  repeat' (first
    | ((with_reducible apply Wo_u); (conv => lhs; simp -implicitDefEqProofs [*]) <;> exact rfl)
    | ((with_reducible apply Wo_n); (conv => lhs; simp -implicitDefEqProofs [*]) <;> exact rfl)
    | (with_reducible apply Wo_nil)
    | ((with_reducible apply Wo_gt); (exact rfl); ((conv => lhs; simp -implicitDefEqProofs [*]) <;> exact rfl); (conv => lhs; simp -implicitDefEqProofs [*]) <;> exact rfl)
    | ((with_reducible apply Wo_gf); (exact rfl); ((conv => lhs; simp -implicitDefEqProofs [*]) <;> exact rfl); (exact rfl))
    | ((with_reducible apply Wo_gx); (exact rfl); ((conv => lhs; simp -implicitDefEqProofs [*]) <;> exact rfl))
    | ((with_reducible apply Wo_gsT); (exact rfl); ((conv => lhs; simp -implicitDefEqProofs [*]) <;> exact rfl))
    | ((with_reducible apply Wo_gsF); (exact rfl); ((conv => lhs; simp -implicitDefEqProofs [*]) <;> exact rfl))
    | ((with_reducible apply ex2); (conv => lhs; simp -implicitDefEqProofs [*]) <;> exact rfl)
    | (with_reducible apply W_ss) | (with_reducible apply W_srl) | (with_reducible apply W_rl)
    | ((with_reducible apply W_sc); (conv => lhs; simp -implicitDefEqProofs [*]) <;> exact rfl)
    | ((with_reducible apply W_c); (conv => lhs; simp -implicitDefEqProofs [*]) <;> exact rfl)
    | ((with_reducible apply W_srdl); kernel_rfl) | ((with_reducible apply W_rdl); kernel_rfl)
    | ((with_reducible apply Wd_u); (conv => lhs; simp -implicitDefEqProofs [*]) <;> exact rfl)
    | ((with_reducible apply Wd_n); (conv => lhs; simp -implicitDefEqProofs [*]) <;> exact rfl)
    | ((with_reducible apply Wd_nil); exact rfl)
    | ((with_reducible apply Wd_gsT); (exact rfl); ((conv => lhs; simp -implicitDefEqProofs [*]) <;> exact rfl))
    | ((with_reducible apply Wd_gsF); (exact rfl); ((conv => lhs; simp -implicitDefEqProofs [*]) <;> exact rfl))
    | ((with_reducible apply ex4); (conv => lhs; simp -implicitDefEqProofs [*]) <;> exact rfl)
    | (with_reducible apply W_sblock) | (with_reducible apply W_block) | (with_reducible apply W_sskip) | (with_reducible apply W_skip) | (with_reducible apply W_sret) | (with_reducible apply W_ret) | (with_reducible apply W_sexit) | (with_reducible apply W_exit)
    | (with_reducible apply thenW_n) | (with_reducible apply thenW_r) | (with_reducible apply thenW_e) | (with_reducible apply inB_n) | (with_reducible apply inB_r) | (with_reducible apply inB_e) | ((with_reducible apply inB_o); rotate_left; exact rfl)
    | ((with_reducible apply EndQ_ret); (conv => lhs; simp -implicitDefEqProofs [*]) <;> exact rfl) | ((with_reducible apply EndQ_normal); (conv => lhs; simp -implicitDefEqProofs [*]) <;> exact rfl)
    | (intro h h'; try simp [*, -h] at h'))
  refine ⟨nofun, _, _, rfl, rfl, ⟨go, ?_, ?_, ?_⟩, ?_, fun y hy y0 y5 y6 yz => ?_⟩
  · simp [*]
  · simp [*]
  · simp [*, List.map_set]
  · simp [*, List.map_set]
  · have yk := kept_far hy
    simp [*]
end Go.Proofs.Ytmfhdhiaokejdaa

namespace Go.Proofs.Ytmfhdhiaokejdaa
open Go Go.Ab
set_option linter.unusedSimpArgs false
set_option linter.unusedVariables false
set_option maxHeartbeats 4000000 in
theorem o8a (k dd : Nat) (c : RC) (xd xi g gw go zd zi gr : Nat) (s : RS) (r : List Int) (hp1 : Hp) (hxk : xd ≤ k) (hzk : zd ≤ k) (hxz : ¬ xd = zd) (hx : hp1 ⟨xd, xi, 0⟩ = .box g (rcells c xd xi gw go s) false) (ho : hp1 ⟨xd, xi, 6⟩ = .arr go 1 5 (rowB s.out) false) (hw : hp1 ⟨xd, xi, 5⟩ = .arr gw 1 38 (rowU s.words) false) (hz : hp1 ⟨zd, zi, 0⟩ = .arr gr 1 38 (rowU r) false) (d a b kk base size n : Int) (hd0 : 0 ≤ d) (hd1 : d < r.length) (hr0 : 0 ≤ s.read) (hr1 : s.read < c.inp.size) (hsz : c.inp.size ≤ 1048576) : ∃ v hp', (lim Try.prog E31 X31).hpc k dd 38 [.ptr ⟨xd, xi, 0⟩ g 0, .agg [iv 8, iv d, iv a, iv b, iv kk, iv base, iv size, uv n], .own ⟨zd, zi, 0⟩ gr r.length] hp1 = some (v, hp') ∧ (v = .tup [] ∧ After c k xd xi g gw zd zi gr hp1 hp' { s with read := s.read + 1 } (r.set d.toNat (c.inp.data.toList.getD s.read.toNat 0).toNat)) := by
  refine lim_hpcW (R := fun v hp' => v = .tup [] ∧ After c k xd xi g gw zd zi gr hp1 hp' { s with read := s.read + 1 } (r.set d.toNat (c.inp.data.toList.getD s.read.toNat 0).toNat)) Try.func38 rfl rfl bodyOk_38 rfl rfl ?_
  have n1 : ¬ xd = k + 1 := by omega
  have n2 : ¬ zd = k + 1 := by omega
  have n3 : ¬ k + 1 = xd := by omega
  have n4 : ¬ k + 1 = zd := by omega
  have n5 : ¬ zd = xd := fun e => hxz e.symm
  have hdl : d.toNat < r.length := by omega
  have hrl : s.read.toNat < c.inp.data.size := by have : c.inp.data.size = c.inp.size := rfl; omega
  have hr2 : IntKind.i64.wrap (s.read + 1) = s.read + 1 := wrap64 (by omega) (by omega)
  have hg : c.inp.data.toList.getD s.read.toNat 0 = c.inp.data[s.read.toNat] := by
    rw [List.getD_eq_getElem?_getD, List.getElem?_eq_getElem (by simpa using hrl)]; simp
  rw [hg]
  generalize hB : c.inp.data[s.read.toNat] = B
  have hg2 : c.inp.data[s.read.toNat]? = some B := by rw [Array.getElem?_eq_getElem hrl, hB]
  have hB2 : ∀ h, c.inp.data[s.read.toNat]'h = B := fun h => hB
  have hb : IntKind.u32.wrap (B.toNat : Int) = B.toNat := IntWalk.u32_in _ (by have := B.toNat_lt; omega)
  clear hg hB
  repeat' (first
    | ((with_reducible apply Wo_u); (conv => lhs; simp -implicitDefEqProofs [*]) <;> exact rfl)
    | ((with_reducible apply Wo_n); (conv => lhs; simp -implicitDefEqProofs [*]) <;> exact rfl)
    | (with_reducible apply Wo_nil)
    | ((with_reducible apply Wo_gt); (exact rfl); ((conv => lhs; simp -implicitDefEqProofs [*]) <;> exact rfl); (conv => lhs; simp -implicitDefEqProofs [*]) <;> exact rfl)
    | ((with_reducible apply Wo_gf); (exact rfl); ((conv => lhs; simp -implicitDefEqProofs [*]) <;> exact rfl); (exact rfl))
    | ((with_reducible apply Wo_gx); (exact rfl); ((conv => lhs; simp -implicitDefEqProofs [*]) <;> exact rfl))
    | ((with_reducible apply Wo_gsT); (exact rfl); ((conv => lhs; simp -implicitDefEqProofs [*]) <;> exact rfl))
    | ((with_reducible apply Wo_gsF); (exact rfl); ((conv => lhs; simp -implicitDefEqProofs [*]) <;> exact rfl))
    | ((with_reducible apply ex2); (conv => lhs; simp -implicitDefEqProofs [*]) <;> exact rfl)
    | (with_reducible apply W_ss) | (with_reducible apply W_srl) | (with_reducible apply W_rl)
    | ((with_reducible apply W_sc); (conv => lhs; simp -implicitDefEqProofs [*]) <;> exact rfl)
    | ((with_reducible apply W_c); (conv => lhs; simp -implicitDefEqProofs [*]) <;> exact rfl)
    | ((with_reducible apply W_srdl); kernel_rfl) | ((with_reducible apply W_rdl); kernel_rfl)
    | ((with_reducible apply Wd_u); (conv => lhs; simp -implicitDefEqProofs [*]) <;> exact rfl)
    | ((with_reducible apply Wd_n); (conv => lhs; simp -implicitDefEqProofs [*]) <;> exact rfl)
    | ((with_reducible apply Wd_nil); exact rfl)
    | ((with_reducible apply Wd_gsT); (exact rfl); ((conv => lhs; simp -implicitDefEqProofs [*]) <;> exact rfl))
    | ((with_reducible apply Wd_gsF); (exact rfl); ((conv => lhs; simp -implicitDefEqProofs [*]) <;> exact rfl))
    | ((with_reducible apply ex4); (conv => lhs; simp -implicitDefEqProofs [*]) <;> exact rfl)
    | (with_reducible apply W_sblock) | (with_reducible apply W_block) | (with_reducible apply W_sskip) | (with_reducible apply W_skip) | (with_reducible apply W_sret) | (with_reducible apply W_ret) | (with_reducible apply W_sexit) | (with_reducible apply W_exit)
    | (with_reducible apply thenW_n) | (with_reducible apply thenW_r) | (with_reducible apply thenW_e) | (with_reducible apply inB_n) | (with_reducible apply inB_r) | (with_reducible apply inB_e) | ((with_reducible apply inB_o); rotate_left; exact rfl)
    | ((with_reducible apply EndQ_ret); (conv => lhs; simp -implicitDefEqProofs [*]) <;> exact rfl) | ((with_reducible apply EndQ_normal); (conv => lhs; simp -implicitDefEqProofs [*]) <;> exact rfl)
    | (intro h h'; try simp [*, -h] at h'))
  refine ⟨nofun, _, _, rfl, rfl, ⟨go, ?_, ?_, ?_⟩, ?_, fun y hy y0 y5 y6 yz => ?_⟩
  · simp [*]
  · simp [*]
  · simp [*, List.map_set]
  · simp [*, List.map_set]
  · have yk := kept_far hy
    simp [*]
set_option maxHeartbeats 4000000 in
theorem o8b (k dd : Nat) (c : RC) (xd xi g gw go zd zi gr : Nat) (s : RS) (r : List Int) (hp1 : Hp) (hxk : xd ≤ k) (hzk : zd ≤ k) (hxz : ¬ xd = zd) (hx : hp1 ⟨xd, xi, 0⟩ = .box g (rcells c xd xi gw go s) false) (ho : hp1 ⟨xd, xi, 6⟩ = .arr go 1 5 (rowB s.out) false) (hw : hp1 ⟨xd, xi, 5⟩ = .arr gw 1 38 (rowU s.words) false) (hz : hp1 ⟨zd, zi, 0⟩ = .arr gr 1 38 (rowU r) false) (d a b kk base size n : Int) (hd0 : 0 ≤ d) (hd1 : d < r.length) (hr1 : ¬ s.read < c.inp.size) : ∃ v hp', (lim Try.prog E31 X31).hpc k dd 38 [.ptr ⟨xd, xi, 0⟩ g 0, .agg [iv 8, iv d, iv a, iv b, iv kk, iv base, iv size, uv n], .own ⟨zd, zi, 0⟩ gr r.length] hp1 = some (v, hp') ∧ (v = .tup [] ∧ After c k xd xi g gw zd zi gr hp1 hp' s (r.set d.toNat 256)) := by
  refine lim_hpcW (R := fun v hp' => v = .tup [] ∧ After c k xd xi g gw zd zi gr hp1 hp' s (r.set d.toNat 256)) Try.func38 rfl rfl bodyOk_38 rfl rfl ?_
  have n1 : ¬ xd = k + 1 := by omega
  have n2 : ¬ zd = k + 1 := by omega
  have n3 : ¬ k + 1 = xd := by omega
  have n4 : ¬ k + 1 = zd := by omega
  have n5 : ¬ zd = xd := fun e => hxz e.symm
  have hdl : d.toNat < r.length := by omega
  repeat' (first
    | ((with_reducible apply Wo_u); (conv => lhs; simp -implicitDefEqProofs [*]) <;> exact rfl)
    | ((with_reducible apply Wo_n); (conv => lhs; simp -implicitDefEqProofs [*]) <;> exact rfl)
    | (with_reducible apply Wo_nil)
    | ((with_reducible apply Wo_gt); (exact rfl); ((conv => lhs; simp -implicitDefEqProofs [*]) <;> exact rfl); (conv => lhs; simp -implicitDefEqProofs [*]) <;> exact rfl)
    | ((with_reducible apply Wo_gf); (exact rfl); ((conv => lhs; simp -implicitDefEqProofs [*]) <;> exact rfl); (exact rfl))
    | ((with_reducible apply Wo_gx); (exact rfl); ((conv => lhs; simp -implicitDefEqProofs [*]) <;> exact rfl))
    | ((with_reducible apply Wo_gsT); (exact rfl); ((conv => lhs; simp -implicitDefEqProofs [*]) <;> exact rfl))
    | ((with_reducible apply Wo_gsF); (exact rfl); ((conv => lhs; simp -implicitDefEqProofs [*]) <;> exact rfl))
    | ((with_reducible apply ex2); (conv => lhs; simp -implicitDefEqProofs [*]) <;> exact rfl)
    | (with_reducible apply W_ss) | (with_reducible apply W_srl) | (with_reducible apply W_rl)
    | ((with_reducible apply W_sc); (conv => lhs; simp -implicitDefEqProofs [*]) <;> exact rfl)
    | ((with_reducible apply W_c); (conv => lhs; simp -implicitDefEqProofs [*]) <;> exact rfl)
    | ((with_reducible apply W_srdl); kernel_rfl) | ((with_reducible apply W_rdl); kernel_rfl)
    | ((with_reducible apply Wd_u); (conv => lhs; simp -implicitDefEqProofs [*]) <;> exact rfl)
    | ((with_reducible apply Wd_n); (conv => lhs; simp -implicitDefEqProofs [*]) <;> exact rfl)
    | ((with_reducible apply Wd_nil); exact rfl)
    | ((with_reducible apply Wd_gsT); (exact rfl); ((conv => lhs; simp -implicitDefEqProofs [*]) <;> exact rfl))
    | ((with_reducible apply Wd_gsF); (exact rfl); ((conv => lhs; simp -implicitDefEqProofs [*]) <;> exact rfl))
    | ((with_reducible apply ex4); (conv => lhs; simp -implicitDefEqProofs [*]) <;> exact rfl)
    | (with_reducible apply W_sblock) | (with_reducible apply W_block) | (with_reducible apply W_sskip) | (with_reducible apply W_skip) | (with_reducible apply W_sret) | (with_reducible apply W_ret) | (with_reducible apply W_sexit) | (with_reducible apply W_exit)
    | (with_reducible apply thenW_n) | (with_reducible apply thenW_r) | (with_reducible apply thenW_e) | (with_reducible apply inB_n) | (with_reducible apply inB_r) | (with_reducible apply inB_e) | ((with_reducible apply inB_o); rotate_left; exact rfl)
    | ((with_reducible apply EndQ_ret); (conv => lhs; simp -implicitDefEqProofs [*]) <;> exact rfl) | ((with_reducible apply EndQ_normal); (conv => lhs; simp -implicitDefEqProofs [*]) <;> exact rfl)
    | (intro h h'; try simp [*, -h] at h'))
  refine ⟨nofun, _, _, rfl, rfl, ⟨go, ?_, ?_, ?_⟩, ?_, fun y hy y0 y5 y6 yz => ?_⟩
  · simp [*]
  · simp [*]
  · simp [*, List.map_set]
  · simp [*, List.map_set]
  · have yk := kept_far hy
    simp [*]
set_option maxHeartbeats 4000000 in
theorem o9a (k dd : Nat) (c : RC) (xd xi g gw go zd zi gr : Nat) (s : RS) (r : List Int) (hp1 : Hp) (hxk : xd ≤ k) (hzk : zd ≤ k) (hxz : ¬ xd = zd) (hx : hp1 ⟨xd, xi, 0⟩ = .box g (rcells c xd xi gw go s) false) (ho : hp1 ⟨xd, xi, 6⟩ = .arr go 1 5 (rowB s.out) false) (hw : hp1 ⟨xd, xi, 5⟩ = .arr gw 1 38 (rowU s.words) false) (hz : hp1 ⟨zd, zi, 0⟩ = .arr gr 1 38 (rowU r) false) (d a b kk base size n : Int) (ha0 : 0 ≤ a) (ha1 : a < r.length) (hge : 65536 ≤ (s.out.length : Int)) : ∃ v hp', (lim Try.prog E31 X31).hpc k dd 38 [.ptr ⟨xd, xi, 0⟩ g 0, .agg [iv 9, iv d, iv a, iv b, iv kk, iv base, iv size, uv n], .own ⟨zd, zi, 0⟩ gr r.length] hp1 = some (v, hp') ∧ (v = .tup [] ∧ After c k xd xi g gw zd zi gr hp1 hp' { s with fin := 4 } (r)) := by
  refine lim_hpcW (R := fun v hp' => v = .tup [] ∧ After c k xd xi g gw zd zi gr hp1 hp' { s with fin := 4 } (r)) Try.func38 rfl rfl bodyOk_38 rfl rfl ?_
  have n1 : ¬ xd = k + 1 := by omega
  have n2 : ¬ zd = k + 1 := by omega
  have n3 : ¬ k + 1 = xd := by omega
  have n4 : ¬ k + 1 = zd := by omega
  have n5 : ¬ zd = xd := fun e => hxz e.symm
  have hal : a.toNat < r.length := by omega
  have hra := rg_get ha0 ha1
  have hre := rg_el (r := r) (a := a)
  repeat' (first
    | ((with_reducible apply Wo_u); (conv => lhs; simp -implicitDefEqProofs [*]) <;> exact rfl)
    | ((with_reducible apply Wo_n); (conv => lhs; simp -implicitDefEqProofs [*]) <;> exact rfl)
    | (with_reducible apply Wo_nil)
    | ((with_reducible apply Wo_gt); (exact rfl); ((conv => lhs; simp -implicitDefEqProofs [*]) <;> exact rfl); (conv => lhs; simp -implicitDefEqProofs [*]) <;> exact rfl)
    | ((with_reducible apply Wo_gf); (exact rfl); ((conv => lhs; simp -implicitDefEqProofs [*]) <;> exact rfl); (exact rfl))
    | ((with_reducible apply Wo_gx); (exact rfl); ((conv => lhs; simp -implicitDefEqProofs [*]) <;> exact rfl))
    | ((with_reducible apply Wo_gsT); (exact rfl); ((conv => lhs; simp -implicitDefEqProofs [*]) <;> exact rfl))
    | ((with_reducible apply Wo_gsF); (exact rfl); ((conv => lhs; simp -implicitDefEqProofs [*]) <;> exact rfl))
    | ((with_reducible apply ex2); (conv => lhs; simp -implicitDefEqProofs [*]) <;> exact rfl)
    | (with_reducible apply W_ss) | (with_reducible apply W_srl) | (with_reducible apply W_rl)
    | ((with_reducible apply W_sc); (conv => lhs; simp -implicitDefEqProofs [*]) <;> exact rfl)
    | ((with_reducible apply W_c); (conv => lhs; simp -implicitDefEqProofs [*]) <;> exact rfl)
    | ((with_reducible apply W_srdl); kernel_rfl) | ((with_reducible apply W_rdl); kernel_rfl)
    | ((with_reducible apply Wd_u); (conv => lhs; simp -implicitDefEqProofs [*]) <;> exact rfl)
    | ((with_reducible apply Wd_n); (conv => lhs; simp -implicitDefEqProofs [*]) <;> exact rfl)
    | ((with_reducible apply Wd_nil); exact rfl)
    | ((with_reducible apply Wd_gsT); (exact rfl); ((conv => lhs; simp -implicitDefEqProofs [*]) <;> exact rfl))
    | ((with_reducible apply Wd_gsF); (exact rfl); ((conv => lhs; simp -implicitDefEqProofs [*]) <;> exact rfl))
    | ((with_reducible apply ex4); (conv => lhs; simp -implicitDefEqProofs [*]) <;> exact rfl)
    | (with_reducible apply W_sblock) | (with_reducible apply W_block) | (with_reducible apply W_sskip) | (with_reducible apply W_skip) | (with_reducible apply W_sret) | (with_reducible apply W_ret) | (with_reducible apply W_sexit) | (with_reducible apply W_exit)
    | (with_reducible apply thenW_n) | (with_reducible apply thenW_r) | (with_reducible apply thenW_e) | (with_reducible apply inB_n) | (with_reducible apply inB_r) | (with_reducible apply inB_e) | ((with_reducible apply inB_o); rotate_left; exact rfl)
    | ((with_reducible apply EndQ_ret); (conv => lhs; simp -implicitDefEqProofs [*]) <;> exact rfl) | ((with_reducible apply EndQ_normal); (conv => lhs; simp -implicitDefEqProofs [*]) <;> exact rfl)
    | (intro h h'; try simp [*, -h] at h'))
  refine ⟨nofun, _, _, rfl, rfl, ⟨go, ?_, ?_, ?_⟩, ?_, fun y hy y0 y5 y6 yz => ?_⟩
  · simp [*]
  · simp [*]
  · simp [*, List.map_set]
  · simp [*, List.map_set]
  · have yk := kept_far hy
    simp [*]
set_option maxHeartbeats 4000000 in
theorem o9b (k dd : Nat) (c : RC) (g gw go zd zi gr : Nat) (s : RS) (r : List Int) (hp1 : Hp) (hxk : 0 ≤ k) (hzk : zd ≤ k) (hxz : ¬ 0 = zd) (hx : hp1 ⟨0, 22, 0⟩ = .box g (rcells c 0 22 gw go s) false) (ho : hp1 ⟨0, 22, 6⟩ = .arr go 1 5 (rowB s.out) false) (hw : hp1 ⟨0, 22, 5⟩ = .arr gw 1 38 (rowU s.words) false) (hz : hp1 ⟨zd, zi, 0⟩ = .arr gr 1 38 (rowU r) false) (d a b kk base size n : Int) (ha0 : 0 ≤ a) (ha1 : a < r.length) (hge : ¬ 65536 ≤ (s.out.length : Int)) : ∃ v hp', (lim Try.prog E31 X31).hpc k dd 38 [.ptr ⟨0, 22, 0⟩ g 0, .agg [iv 9, iv d, iv a, iv b, iv kk, iv base, iv size, uv n], .own ⟨zd, zi, 0⟩ gr r.length] hp1 = some (v, hp') ∧ (v = .tup [] ∧ After c k 0 22 g gw zd zi gr hp1 hp' { s with out := s.out ++ [rg r a % 256] } (r)) := by
  refine lim_hpcW (R := fun v hp' => v = .tup [] ∧ After c k 0 22 g gw zd zi gr hp1 hp' { s with out := s.out ++ [rg r a % 256] } (r)) Try.func38 rfl rfl bodyOk_38 rfl rfl ?_
  have n1 : ¬ 0 = k + 1 := by omega
  have n2 : ¬ zd = k + 1 := by omega
  have n3 : ¬ k + 1 = 0 := by omega
  have n4 : ¬ k + 1 = zd := by omega
  have n5 : ¬ zd = 0 := fun e => hxz e.symm
  have hal : a.toNat < r.length := by omega
  have hra := rg_get ha0 ha1
  have hre := rg_el (r := r) (a := a)
  have h8 : IntKind.u8.wrap (rg r a) = rg r a % 256 := IntKind.wrap_u8 _
  have hby : s.out.length + 1 ≤ 140737488355328 := by omega
  have hby2 : s.out.length ≤ 9223372036854775806 := by omega
  have hby3 : s.out.length ≤ 140737488355327 := by omega
  repeat' (first
    | ((with_reducible apply Wo_u); (conv => lhs; simp -implicitDefEqProofs [*]) <;> exact rfl)
    | ((with_reducible apply Wo_n); (conv => lhs; simp -implicitDefEqProofs [*]) <;> exact rfl)
    | (with_reducible apply Wo_nil)
    | ((with_reducible apply Wo_gt); (exact rfl); ((conv => lhs; simp -implicitDefEqProofs [*]) <;> exact rfl); (conv => lhs; simp -implicitDefEqProofs [*]) <;> exact rfl)
    | ((with_reducible apply Wo_gf); (exact rfl); ((conv => lhs; simp -implicitDefEqProofs [*]) <;> exact rfl); (exact rfl))
    | ((with_reducible apply Wo_gx); (exact rfl); ((conv => lhs; simp -implicitDefEqProofs [*]) <;> exact rfl))
    | ((with_reducible apply Wo_gsT); (exact rfl); ((conv => lhs; simp -implicitDefEqProofs [*]) <;> exact rfl))
    | ((with_reducible apply Wo_gsF); (exact rfl); ((conv => lhs; simp -implicitDefEqProofs [*]) <;> exact rfl))
    | ((with_reducible apply ex2); (conv => lhs; simp -implicitDefEqProofs [*]) <;> exact rfl)
    | (with_reducible apply W_ss) | (with_reducible apply W_srl) | (with_reducible apply W_rl)
    | ((with_reducible apply W_sc); (conv => lhs; simp -implicitDefEqProofs [*]) <;> exact rfl)
    | ((with_reducible apply W_c); (conv => lhs; simp -implicitDefEqProofs [*]) <;> exact rfl)
    | ((with_reducible apply W_srdl); kernel_rfl) | ((with_reducible apply W_rdl); kernel_rfl)
    | ((with_reducible apply Wd_u); (conv => lhs; simp -implicitDefEqProofs [*]) <;> exact rfl)
    | ((with_reducible apply Wd_n); (conv => lhs; simp -implicitDefEqProofs [*]) <;> exact rfl)
    | ((with_reducible apply Wd_nil); exact rfl)
    | ((with_reducible apply Wd_gsT); (exact rfl); ((conv => lhs; simp -implicitDefEqProofs [*]) <;> exact rfl))
    | ((with_reducible apply Wd_gsF); (exact rfl); ((conv => lhs; simp -implicitDefEqProofs [*]) <;> exact rfl))
    | ((with_reducible apply ex4); (conv => lhs; simp -implicitDefEqProofs [*]) <;> exact rfl)
    | (with_reducible apply W_sblock) | (with_reducible apply W_block) | (with_reducible apply W_sskip) | (with_reducible apply W_skip) | (with_reducible apply W_sret) | (with_reducible apply W_ret) | (with_reducible apply W_sexit) | (with_reducible apply W_exit)
    | (with_reducible apply thenW_n) | (with_reducible apply thenW_r) | (with_reducible apply thenW_e) | (with_reducible apply inB_n) | (with_reducible apply inB_r) | (with_reducible apply inB_e) | ((with_reducible apply inB_o); rotate_left; exact rfl)
    | ((with_reducible apply EndQ_ret); (conv => lhs; simp -implicitDefEqProofs [*]) <;> exact rfl) | ((with_reducible apply EndQ_normal); (conv => lhs; simp -implicitDefEqProofs [*]) <;> exact rfl)
    | (intro h h'; try simp [*, -h] at h'))
  refine ⟨nofun, _, _, rfl, rfl, ⟨go + 1, ?_, ?_, ?_⟩, ?_, fun y hy y0 y5 y6 yz => ?_⟩
  · simp [*]
  · simp [*]
  · simp [*, List.map_set]
  · simp [*, List.map_set]
  · have yk := kept_far hy
    simp [*]
end Go.Proofs.Ytmfhdhiaokejdaa

namespace Go.Proofs.Ytmfhdhiaokejdaa
open Go Go.Ab
set_option linter.unusedSimpArgs false
set_option linter.unusedVariables false
/-- What a call of a function comes to, whatever the heap is beside the run. -/
structure CallF (c : RC) (k g gw i : Nat) (fi : Int) (hp1 : Hp) (s2 : RS) (F : Hp → Hp) (G : Hp → Nat) : Prop where
  call : ∀ hp2, hp2 ⟨0, 22, 0⟩ = hp1 ⟨0, 22, 0⟩ → hp2 ⟨0, 22, 5⟩ = hp1 ⟨0, 22, 5⟩ → hp2 ⟨0, 22, 6⟩ = hp1 ⟨0, 22, 6⟩ → (lim Try.prog E31 X31).hpc (k + 1) i 29 [.ptr ⟨0, 22, 0⟩ g 0, iv fi] hp2 = some (.tup [], F hp2)
  box : ∀ hp2, hp2 ⟨0, 22, 0⟩ = hp1 ⟨0, 22, 0⟩ → hp2 ⟨0, 22, 5⟩ = hp1 ⟨0, 22, 5⟩ → hp2 ⟨0, 22, 6⟩ = hp1 ⟨0, 22, 6⟩ → F hp2 ⟨0, 22, 0⟩ = .box g (rcells c 0 22 gw (G hp2) s2) false
  out : ∀ hp2, hp2 ⟨0, 22, 0⟩ = hp1 ⟨0, 22, 0⟩ → hp2 ⟨0, 22, 5⟩ = hp1 ⟨0, 22, 5⟩ → hp2 ⟨0, 22, 6⟩ = hp1 ⟨0, 22, 6⟩ → F hp2 ⟨0, 22, 6⟩ = .arr (G hp2) 1 5 (rowB s2.out) false
  words : ∀ hp2, hp2 ⟨0, 22, 0⟩ = hp1 ⟨0, 22, 0⟩ → hp2 ⟨0, 22, 5⟩ = hp1 ⟨0, 22, 5⟩ → hp2 ⟨0, 22, 6⟩ = hp1 ⟨0, 22, 6⟩ → F hp2 ⟨0, 22, 5⟩ = .arr gw 1 38 (rowU s2.words) false
  kept : ∀ hp2, hp2 ⟨0, 22, 0⟩ = hp1 ⟨0, 22, 0⟩ → hp2 ⟨0, 22, 5⟩ = hp1 ⟨0, 22, 5⟩ → hp2 ⟨0, 22, 6⟩ = hp1 ⟨0, 22, 6⟩ → ∀ y : Nm, y.d ≤ k + 1 → y ≠ ⟨0, 22, 0⟩ → y ≠ ⟨0, 22, 5⟩ → y ≠ ⟨0, 22, 6⟩ → F hp2 y = hp2 y
set_option maxHeartbeats 4000000 in
theorem o10 (k dd : Nat) (c : RC) (g gw go zd zi gr : Nat) (s : RS) (r : List Int) (hp1 : Hp) (hxk : 0 ≤ k) (hzk : zd ≤ k) (hxz : ¬ 0 = zd) (hx : hp1 ⟨0, 22, 0⟩ = .box g (rcells c 0 22 gw go s) false) (ho : hp1 ⟨0, 22, 6⟩ = .arr go 1 5 (rowB s.out) false) (hw : hp1 ⟨0, 22, 5⟩ = .arr gw 1 38 (rowU s.words) false) (hz : hp1 ⟨zd, zi, 0⟩ = .arr gr 1 38 (rowU r) false) (d a b kk base size n : Int) (s2 : RS) (F : Hp → Hp) (G : Hp → Nat) (hF : CallF c k g gw 210 base hp1 s2 F G) : ∃ v hp', (lim Try.prog E31 X31).hpc k dd 38 [.ptr ⟨0, 22, 0⟩ g 0, .agg [iv 10, iv d, iv a, iv b, iv kk, iv base, iv size, uv n], .own ⟨zd, zi, 0⟩ gr r.length] hp1 = some (v, hp') ∧ (v = .tup [] ∧ After c k 0 22 g gw zd zi gr hp1 hp' s2 (r)) := by
  refine lim_hpcW (R := fun v hp' => v = .tup [] ∧ After c k 0 22 g gw zd zi gr hp1 hp' s2 (r)) Try.func38 rfl rfl bodyOk_38 rfl rfl ?_
  have n1 : ¬ 0 = k + 1 := by omega
  have n2 : ¬ zd = k + 1 := by omega
  have n3 : ¬ k + 1 = 0 := by omega
  have n4 : ¬ k + 1 = zd := by omega
  have n5 : ¬ zd = 0 := fun e => hxz e.symm
  obtain ⟨f1, f2, f3, f4, f5⟩ := hF
  have f6 := Lib.hid f5
  have f7 : ∀ hp2, hp2 ⟨0, 22, 0⟩ = hp1 ⟨0, 22, 0⟩ → hp2 ⟨0, 22, 5⟩ = hp1 ⟨0, 22, 5⟩ → hp2 ⟨0, 22, 6⟩ = hp1 ⟨0, 22, 6⟩ → F hp2 ⟨zd, zi, 0⟩ = hp2 ⟨zd, zi, 0⟩ := fun hp2 a1 a2 a3 => f5 hp2 a1 a2 a3 _ (by show zd ≤ k + 1; omega) (by simp [n5]) (by simp [n5]) (by simp [n5])
  clear f5
  repeat' (first
    | ((with_reducible apply Wo_u); (conv => lhs; simp -implicitDefEqProofs [*]) <;> exact rfl)
    | ((with_reducible apply Wo_n); (conv => lhs; simp -implicitDefEqProofs [*]) <;> exact rfl)
    | (with_reducible apply Wo_nil)
    | ((with_reducible apply Wo_gt); (exact rfl); ((conv => lhs; simp -implicitDefEqProofs [*]) <;> exact rfl); (conv => lhs; simp -implicitDefEqProofs [*]) <;> exact rfl)
    | ((with_reducible apply Wo_gf); (exact rfl); ((conv => lhs; simp -implicitDefEqProofs [*]) <;> exact rfl); (exact rfl))
    | ((with_reducible apply Wo_gx); (exact rfl); ((conv => lhs; simp -implicitDefEqProofs [*]) <;> exact rfl))
    | ((with_reducible apply Wo_gsT); (exact rfl); ((conv => lhs; simp -implicitDefEqProofs [*]) <;> exact rfl))
    | ((with_reducible apply Wo_gsF); (exact rfl); ((conv => lhs; simp -implicitDefEqProofs [*]) <;> exact rfl))
    | ((with_reducible apply ex2); (conv => lhs; simp -implicitDefEqProofs [*]) <;> exact rfl)
    | (with_reducible apply W_ss) | (with_reducible apply W_srl) | (with_reducible apply W_rl)
    | ((with_reducible apply W_sc); (conv => lhs; simp -implicitDefEqProofs [*]) <;> exact rfl)
    | ((with_reducible apply W_c); (conv => lhs; simp -implicitDefEqProofs [*]) <;> exact rfl)
    | ((with_reducible apply W_srdl); kernel_rfl) | ((with_reducible apply W_rdl); kernel_rfl)
    | ((with_reducible apply Wd_u); (conv => lhs; simp -implicitDefEqProofs [*]) <;> exact rfl)
    | ((with_reducible apply Wd_n); (conv => lhs; simp -implicitDefEqProofs [*]) <;> exact rfl)
    | ((with_reducible apply Wd_nil); exact rfl)
    | ((with_reducible apply Wd_gsT); (exact rfl); ((conv => lhs; simp -implicitDefEqProofs [*]) <;> exact rfl))
    | ((with_reducible apply Wd_gsF); (exact rfl); ((conv => lhs; simp -implicitDefEqProofs [*]) <;> exact rfl))
    | ((with_reducible apply ex4); (conv => lhs; simp -implicitDefEqProofs [*]) <;> exact rfl)
    | (with_reducible apply W_sblock) | (with_reducible apply W_block) | (with_reducible apply W_sskip) | (with_reducible apply W_skip) | (with_reducible apply W_sret) | (with_reducible apply W_ret) | (with_reducible apply W_sexit) | (with_reducible apply W_exit)
    | (with_reducible apply thenW_n) | (with_reducible apply thenW_r) | (with_reducible apply thenW_e) | (with_reducible apply inB_n) | (with_reducible apply inB_r) | (with_reducible apply inB_e) | ((with_reducible apply inB_o); rotate_left; exact rfl)
    | ((with_reducible apply EndQ_ret); (conv => lhs; simp -implicitDefEqProofs [*]) <;> exact rfl) | ((with_reducible apply EndQ_normal); (conv => lhs; simp -implicitDefEqProofs [*]) <;> exact rfl)
    | (intro h h'; try simp [*, -h] at h'))
  have z0 : (0 : Nat) ≠ k + 1 := by omega
  refine ⟨nofun, _, _, rfl, rfl, ⟨_, f2 _ ?_ ?_ ?_, f3 _ ?_ ?_ ?_, f4 _ ?_ ?_ ?_⟩, (f7 _ ?_ ?_ ?_).trans ?_, fun y hy y0 y5 y6 yz => (f6.out _ ?_ ?_ ?_ y (by omega) y0 y5 y6).trans ?_⟩
  all_goals first
    | (simp [*]; done)
    | (have yk := kept_far hy; simp [*]; done)
end Go.Proofs.Ytmfhdhiaokejdaa

namespace Go.Proofs.Ytmfhdhiaokejdaa
open Go Go.Ab
set_option linter.unusedSimpArgs false
set_option linter.unusedVariables false
structure OkS (c : RC) (s : RS) : Prop where
  len : (s.words.length : Int) = c.nw
  wU : ∀ x ∈ s.words, U x
  out : s.out.length ≤ 65536
  read : 0 ≤ s.read
  steps : 0 ≤ s.steps
structure OkC (c : RC) : Prop where
  nw : c.nw ≤ 1048576
  inp : c.inp.size ≤ 1048576
  fuel : c.fuel ≤ 9223372036854775807
structure FitT (t : Tac) (number regs words : Int) : Prop where
  op : 1 ≤ t.op ∧ t.op ≤ 10
  d : setsB t.op = true → 0 ≤ t.d ∧ t.d < regs
  uses : ∀ x ∈ t.uses, 0 ≤ x ∧ x < regs
  word : t.op = 4 ∨ t.op = 5 → 0 ≤ t.base ∧ t.base < words
  arr : t.op = 6 ∨ t.op = 7 → 1 ≤ t.size ∧ t.size ≤ 4096 ∧ 0 ≤ t.base ∧ t.base ≤ words - t.size
  call : t.op = 10 → 0 ≤ t.base ∧ t.base < number
theorem fit_inv {t : Tac} {number regs words : Int} (h : t.fitsB number regs words = true) : FitT t number regs words := by
  unfold Tac.fitsB fitsB at h
  simp only [Bool.and_eq_true, Bool.or_eq_true, Bool.not_eq_true', decide_eq_true_eq] at h
  obtain ⟨⟨⟨⟨⟨⟨⟨⟨ho1, ho2⟩, hd⟩, hu⟩, _⟩, hw⟩, ha⟩, hc⟩, _⟩ := h
  refine ⟨⟨ho1, ho2⟩, fun hs => ?_, fun x hx => ?_, fun ho => ?_, fun ho => ?_, fun ho => ?_⟩
  · rcases hd with hd | hd
    · rw [hs] at hd; cases hd
    · unfold withinB at hd
      simpa using hd
  · unfold okUse at hu
    rw [List.all_eq_true] at hu
    have := hu x hx
    unfold withinB at this
    simpa using this
  · rcases hw with hw | hw
    · rcases ho with ho | ho <;> simp [ho] at hw
    · unfold withinB at hw
      simpa using hw
  · rcases ha with ha | ha
    · rcases ho with ho | ho <;> simp [ho] at ha
    · omega
  · rcases hc with hc | hc
    · simp [ho] at hc
    · unfold withinB at hc
      simpa using hc
/-- What Apply answers. -/
noncomputable def apD (k a b : Int) : Int × Int := match (lim Try.prog E31 X31).dat 40 [iv k, uv a, uv b] with
  | some [.sc (.int _ v), .sc (.int _ e)] => (v, e)
  | _ => (0, 0)
theorem apD_eq (k : Int) {a b : Int} (ha : U a) (hb : U b) : (lim Try.prog E31 X31).dat 40 [iv k, uv a, uv b] = some [uv (apD k a b).1, iv (apD k a b).2] ∧ U (apD k a b).1 := by
  obtain ⟨_, h, v, e, hv, rfl⟩ := d40 k a b ha hb
  have e1 : apD k a b = (v, e) := by unfold apD; rw [h]
  rw [e1]; exact ⟨h, hv⟩
theorem rg_U {r : List Int} (h : ∀ x ∈ r, U x) (a : Int) : U (rg r a) := by
  unfold rg
  rw [List.getD_eq_getElem?_getD]
  cases hg : r[a.toNat]? with
  | none => unfold U; simp
  | some x => exact h x (List.mem_of_getElem? hg)
theorem h38 (k dd : Nat) (c : RC) (g gw go zd zi gr : Nat) (s : RS) (r : List Int) (hp1 : Hp) (hzk : zd ≤ k) (hz0 : 0 ≠ zd) (hx : hp1 ⟨0, 22, 0⟩ = .box g (rcells c 0 22 gw go s) false) (ho : hp1 ⟨0, 22, 6⟩ = .arr go 1 5 (rowB s.out) false) (hw : hp1 ⟨0, 22, 5⟩ = .arr gw 1 38 (rowU s.words) false) (hz : hp1 ⟨zd, zi, 0⟩ = .arr gr 1 38 (rowU r) false)
    (t : Tac) (number : Int) (hf : FitT t number r.length c.nw) (hrU : ∀ x ∈ r, U x) (hs : OkS c s) (hc : OkC c) (call : Int → RS → RS) (hcall : t.op = 10 → ∃ F G, CallF c k g gw 210 t.base hp1 (call t.base s) F G) :
    ∃ hp', (lim Try.prog E31 X31).hpc k dd 38 [.ptr ⟨0, 22, 0⟩ g 0, .agg t.row, .own ⟨zd, zi, 0⟩ gr r.length] hp1 = some (.tup [], hp') ∧ After c k 0 22 g gw zd zi gr hp1 hp' (oneS c apD call t s r).1 (oneS c apD call t s r).2 := by
  obtain ⟨op, d, a, b, kk, base, size, n⟩ := t
  obtain ⟨f1, f2, f3, f4, f5, f6⟩ := hf
  have hlen := hs.len
  have hnw := hc.nw
  have ua := rg_U hrU a
  have ub := rg_U hrU b
  simp only [Tac.uses] at f1 f2 f3 f4 f5 f6 hcall
  have hop : op = 1 ∨ op = 2 ∨ op = 3 ∨ op = 4 ∨ op = 5 ∨ op = 6 ∨ op = 7 ∨ op = 8 ∨ op = 9 ∨ op = 10 := by omega
  rcases hop with h | h | h | h | h | h | h | h | h | h <;> subst h
  · have hd := f2 rfl
    obtain ⟨v, hp', h, rfl, hA⟩ := o1 k dd c 0 22 g gw go zd zi gr s r hp1 (by omega) hzk hz0 hx ho hw hz d a b kk base size n hd.1 hd.2
    exact ⟨hp', h, hA⟩
  · have hd := f2 rfl
    have ha := f3 a (by simp [usesL])
    obtain ⟨v, hp', h, rfl, hA⟩ := o2 k dd c 0 22 g gw go zd zi gr s r hp1 (by omega) hzk hz0 hx ho hw hz d a b kk base size n hd.1 hd.2 ha.1 ha.2
    exact ⟨hp', h, hA⟩
  · have hd := f2 rfl
    have ha := f3 a (by simp [usesL])
    have hb := f3 b (by simp [usesL])
    have hap := apD_eq kk ua ub
    by_cases he : (apD kk (rg r a) (rg r b)).2 = 0
    · have e : oneS c apD call ⟨3, d, a, b, kk, base, size, n⟩ s r = (s, r.set d.toNat (apD kk (rg r a) (rg r b)).1) := by simp [oneS, he]
      have h40 := hap.1
      rw [he] at h40
      obtain ⟨v, hp', h, rfl, hA⟩ := o3a k dd c 0 22 g gw go zd zi gr s r hp1 (by omega) hzk hz0 hx ho hw hz d a b kk base size n hd.1 hd.2 ha.1 ha.2 hb.1 hb.2 _ h40
      rw [e]; exact ⟨hp', h, hA⟩
    · have e : oneS c apD call ⟨3, d, a, b, kk, base, size, n⟩ s r = ({ s with fin := 2 }, r) := by simp [oneS, he]
      obtain ⟨v, hp', h, rfl, hA⟩ := o3b k dd c 0 22 g gw go zd zi gr s r hp1 (by omega) hzk hz0 hx ho hw hz d a b kk base size n ha.1 ha.2 hb.1 hb.2 _ _ hap.1 he
      rw [e]; exact ⟨hp', h, hA⟩
  · have hd := f2 rfl
    have hb := f4 (.inl rfl)
    obtain ⟨v, hp', h, rfl, hA⟩ := o4 k dd c 0 22 g gw go zd zi gr s r hp1 (by omega) hzk hz0 hx ho hw hz d a b kk base size n hd.1 hd.2 hb.1 (by omega)
    exact ⟨hp', h, hA⟩
  · have ha := f3 a (by simp [usesL])
    have hb := f4 (.inr rfl)
    obtain ⟨v, hp', h, rfl, hA⟩ := o5 k dd c 0 22 g gw go zd zi gr s r hp1 (by omega) hzk hz0 hx ho hw hz d a b kk base size n ha.1 ha.2 hb.1 (by omega)
    exact ⟨hp', h, hA⟩
  · have hd := f2 rfl
    have ha := f3 a (by simp [usesL])
    have hs6 := f5 (.inl rfl)
    by_cases hge : size ≤ rg r a
    · have e : oneS c apD call ⟨6, d, a, b, kk, base, size, n⟩ s r = ({ s with fin := 3 }, r) := by simp [oneS, hge]
      obtain ⟨v, hp', h, rfl, hA⟩ := o6a k dd c 0 22 g gw go zd zi gr s r hp1 (by omega) hzk hz0 hx ho hw hz d a b kk base size n ha.1 ha.2 hs6.1 hs6.2.1 ua hs6.2.2.1 (by omega) (by omega) hge
      rw [e]; exact ⟨hp', h, hA⟩
    · have e : oneS c apD call ⟨6, d, a, b, kk, base, size, n⟩ s r = (s, r.set d.toNat (rg s.words (base + rg r a))) := by simp [oneS, hge]
      obtain ⟨v, hp', h, rfl, hA⟩ := o6b k dd c 0 22 g gw go zd zi gr s r hp1 (by omega) hzk hz0 hx ho hw hz d a b kk base size n hd.1 hd.2 ha.1 ha.2 hs6.1 hs6.2.1 ua hs6.2.2.1 (by omega) (by omega) hge
      rw [e]; exact ⟨hp', h, hA⟩
  · have ha := f3 a (by simp [usesL])
    have hb := f3 b (by simp [usesL])
    have hs6 := f5 (.inr rfl)
    by_cases hge : size ≤ rg r a
    · have e : oneS c apD call ⟨7, d, a, b, kk, base, size, n⟩ s r = ({ s with fin := 3 }, r) := by simp [oneS, hge]
      obtain ⟨v, hp', h, rfl, hA⟩ := o7a k dd c 0 22 g gw go zd zi gr s r hp1 (by omega) hzk hz0 hx ho hw hz d a b kk base size n ha.1 ha.2 hs6.1 hs6.2.1 ua hs6.2.2.1 (by omega) (by omega) hge
      rw [e]; exact ⟨hp', h, hA⟩
    · have e : oneS c apD call ⟨7, d, a, b, kk, base, size, n⟩ s r = ({ s with words := s.words.set (base + rg r a).toNat (rg r b) }, r) := by simp [oneS, hge]
      obtain ⟨v, hp', h, rfl, hA⟩ := o7b k dd c 0 22 g gw go zd zi gr s r hp1 (by omega) hzk hz0 hx ho hw hz d a b kk base size n ha.1 ha.2 hb.1 hb.2 hs6.1 hs6.2.1 ua hs6.2.2.1 (by omega) (by omega) hge
      rw [e]; exact ⟨hp', h, hA⟩
  · have hd := f2 rfl
    by_cases hge : s.read < c.inp.size
    · have e : oneS c apD call ⟨8, d, a, b, kk, base, size, n⟩ s r = ({ s with read := s.read + 1 }, r.set d.toNat (c.inp.data.toList.getD s.read.toNat 0).toNat) := by simp [oneS, hge]
      obtain ⟨v, hp', h, rfl, hA⟩ := o8a k dd c 0 22 g gw go zd zi gr s r hp1 (by omega) hzk hz0 hx ho hw hz d a b kk base size n hd.1 hd.2 hs.read hge hc.inp
      rw [e]; exact ⟨hp', h, hA⟩
    · have e : oneS c apD call ⟨8, d, a, b, kk, base, size, n⟩ s r = (s, r.set d.toNat 256) := by simp [oneS, hge]
      obtain ⟨v, hp', h, rfl, hA⟩ := o8b k dd c 0 22 g gw go zd zi gr s r hp1 (by omega) hzk hz0 hx ho hw hz d a b kk base size n hd.1 hd.2 hge
      rw [e]; exact ⟨hp', h, hA⟩
  · have ha := f3 a (by simp [usesL])
    by_cases hge : 65536 ≤ (s.out.length : Int)
    · have e : oneS c apD call ⟨9, d, a, b, kk, base, size, n⟩ s r = ({ s with fin := 4 }, r) := by simp [oneS, hge]
      obtain ⟨v, hp', h, rfl, hA⟩ := o9a k dd c 0 22 g gw go zd zi gr s r hp1 (by omega) hzk hz0 hx ho hw hz d a b kk base size n ha.1 ha.2 hge
      rw [e]; exact ⟨hp', h, hA⟩
    · have e : oneS c apD call ⟨9, d, a, b, kk, base, size, n⟩ s r = ({ s with out := s.out ++ [rg r a % 256] }, r) := by simp [oneS, hge]
      obtain ⟨v, hp', h, rfl, hA⟩ := o9b k dd c g gw go zd zi gr s r hp1 (by omega) hzk hz0 hx ho hw hz d a b kk base size n ha.1 ha.2 hge
      rw [e]; exact ⟨hp', h, hA⟩
  · obtain ⟨F, G, hF⟩ := hcall rfl
    obtain ⟨v, hp', h, rfl, hA⟩ := o10 k dd c g gw go zd zi gr s r hp1 (by omega) hzk hz0 hx ho hw hz d a b kk base size n _ F G hF
    exact ⟨hp', h, hA⟩
end Go.Proofs.Ytmfhdhiaokejdaa

namespace Go.Proofs.Ytmfhdhiaokejdaa
open Go Go.Ab
set_option linter.unusedSimpArgs false
set_option linter.unusedVariables false
theorem U_set {r : List Int} (h : ∀ x ∈ r, U x) {d : Nat} {y : Int} (hy : U y) : ∀ x ∈ r.set d y, U x := fun x hx => by
  rcases List.mem_or_eq_of_mem_set hx with h' | h'
  · exact h x h'
  · rw [h']; exact hy
/-- What an instruction keeps. -/
structure Keeps (c : RC) (s s' : RS) (r r' : List Int) : Prop where
  ok : OkS c s'
  U : ∀ x ∈ r', U x
  len : r'.length = r.length
  steps : s.steps ≤ s'.steps
  top : s'.steps ≤ c.fuel
theorem one_keeps {c : RC} {call : Int → RS → RS} {t : Tac} {s : RS} {r : List Int} (hs : OkS c s) (hr : ∀ x ∈ r, U x) (hn : U t.n) (ht : s.steps ≤ c.fuel) (hcall : t.op = 10 → OkS c (call t.base s) ∧ s.steps ≤ (call t.base s).steps ∧ (call t.base s).steps ≤ c.fuel) : Keeps c s (oneS c apD call t s r).1 r (oneS c apD call t s r).2 := by
  have set : ∀ y, U y → Keeps c s s r (r.set t.d.toNat y) := fun y hy => ⟨hs, U_set hr hy, by simp, Int.le_refl _, ht⟩
  have fin : ∀ e, Keeps c s { s with fin := e } r r := fun e => ⟨⟨hs.len, hs.wU, hs.out, hs.read, hs.steps⟩, hr, rfl, Int.le_refl _, ht⟩
  have store : ∀ i y, U y → Keeps c s { s with words := s.words.set i y } r r := fun i y hy => ⟨⟨by simp [hs.len], U_set hs.wU hy, hs.out, hs.read, hs.steps⟩, hr, rfl, Int.le_refl _, ht⟩
  unfold oneS
  by_cases h1 : t.op = 1
  · rw [if_pos h1]; exact set _ hn
  rw [if_neg h1]
  by_cases h2 : t.op = 2
  · rw [if_pos h2]; exact set _ (rg_U hr _)
  rw [if_neg h2]
  by_cases h3 : t.op = 3
  · rw [if_pos h3]
    split
    · exact fin _
    · exact set _ (apD_eq _ (rg_U hr _) (rg_U hr _)).2
  rw [if_neg h3]
  by_cases h4 : t.op = 4
  · rw [if_pos h4]; exact set _ (rg_U hs.wU _)
  rw [if_neg h4]
  by_cases h5 : t.op = 5
  · rw [if_pos h5]; exact store _ _ (rg_U hr _)
  rw [if_neg h5]
  by_cases h6 : t.op = 6
  · rw [if_pos h6]
    split
    · exact fin _
    · exact set _ (rg_U hs.wU _)
  rw [if_neg h6]
  by_cases h7 : t.op = 7
  · rw [if_pos h7]
    split
    · exact fin _
    · exact store _ _ (rg_U hr _)
  rw [if_neg h7]
  by_cases h8 : t.op = 8
  · rw [if_pos h8]
    split
    · refine ⟨⟨hs.len, hs.wU, hs.out, by have := hs.read; show 0 ≤ s.read + 1; omega, hs.steps⟩, U_set hr ?_, by simp, Int.le_refl _, ht⟩
      have := (c.inp.data.toList.getD s.read.toNat 0).toNat_lt
      unfold U; omega
    · exact set _ (by unfold U; omega)
  rw [if_neg h8]
  by_cases h9 : t.op = 9
  · rw [if_pos h9]
    split
    · exact fin _
    · rename_i hlt
      exact ⟨⟨hs.len, hs.wU, by simp; omega, hs.read, hs.steps⟩, hr, rfl, Int.le_refl _, ht⟩
  rw [if_neg h9]
  by_cases h10 : t.op = 10
  · rw [if_pos h10]
    have := hcall h10
    exact ⟨this.1, hr, rfl, this.2.1, this.2.2⟩
  · rw [if_neg h10]; exact ⟨hs, hr, rfl, Int.le_refl _, ht⟩
/-- What a call of a function of the run comes to. -/
structure CallR (c : RC) (k g gw i : Nat) (fi : Int) (s2 : RS) (hp2 hp3 : Hp) (go : Nat) : Prop where
  call : (lim Try.prog E31 X31).hpc k i 29 [.ptr ⟨0, 22, 0⟩ g 0, iv fi] hp2 = some (.tup [], hp3)
  box : hp3 ⟨0, 22, 0⟩ = .box g (rcells c 0 22 gw go s2) false
  out : hp3 ⟨0, 22, 6⟩ = .arr go 1 5 (rowB s2.out) false
  words : hp3 ⟨0, 22, 5⟩ = .arr gw 1 38 (rowU s2.words) false
  kept : ∀ y : Nm, y.d ≤ k → y ≠ ⟨0, 22, 0⟩ → y ≠ ⟨0, 22, 5⟩ → y ≠ ⟨0, 22, 6⟩ → hp3 y = hp2 y
theorem callF_mk {c : RC} {k g gw i : Nat} {fi : Int} {hp1 : Hp} {s2 : RS} (h : ∀ hp2, hp2 ⟨0, 22, 0⟩ = hp1 ⟨0, 22, 0⟩ → hp2 ⟨0, 22, 5⟩ = hp1 ⟨0, 22, 5⟩ → hp2 ⟨0, 22, 6⟩ = hp1 ⟨0, 22, 6⟩ → ∃ hp3 go, CallR c (k + 1) g gw i fi s2 hp2 hp3 go) : ∃ F G, CallF c k g gw i fi hp1 s2 F G := by
  have h1 : ∀ hp2, ∃ hp3 go, hp2 ⟨0, 22, 0⟩ = hp1 ⟨0, 22, 0⟩ → hp2 ⟨0, 22, 5⟩ = hp1 ⟨0, 22, 5⟩ → hp2 ⟨0, 22, 6⟩ = hp1 ⟨0, 22, 6⟩ → CallR c (k + 1) g gw i fi s2 hp2 hp3 go := fun hp2 => by
    by_cases hc : hp2 ⟨0, 22, 0⟩ = hp1 ⟨0, 22, 0⟩ ∧ hp2 ⟨0, 22, 5⟩ = hp1 ⟨0, 22, 5⟩ ∧ hp2 ⟨0, 22, 6⟩ = hp1 ⟨0, 22, 6⟩
    · obtain ⟨hp3, go, hh⟩ := h hp2 hc.1 hc.2.1 hc.2.2
      exact ⟨hp3, go, fun _ _ _ => hh⟩
    · exact ⟨hp2, 0, fun a1 a2 a3 => (hc ⟨a1, a2, a3⟩).elim⟩
  obtain ⟨F, hF⟩ := Classical.skolem.1 h1
  obtain ⟨G, hG⟩ := Classical.skolem.1 hF
  exact ⟨F, G, fun hp2 a1 a2 a3 => (hG hp2 a1 a2 a3).call, fun hp2 a1 a2 a3 => (hG hp2 a1 a2 a3).box, fun hp2 a1 a2 a3 => (hG hp2 a1 a2 a3).out, fun hp2 a1 a2 a3 => (hG hp2 a1 a2 a3).words, fun hp2 a1 a2 a3 => (hG hp2 a1 a2 a3).kept⟩
/-- A call, as a function. -/
def callS (c : RC) (ap : Int → Int → Int → Int × Int) (n : Nat) (i : Int) (s : RS) : RS := match c.fs[i.toNat]? with
  | none => s
  | some f => loopS c ap n f 0 s (List.replicate f.regs.toNat 0)
end Go.Proofs.Ytmfhdhiaokejdaa

namespace Go.Proofs.Ytmfhdhiaokejdaa
open Go Go.Ab
set_option linter.unusedSimpArgs false
set_option linter.unusedVariables false
structure FnGood (f : Fn) (i nw : Int) : Prop where
  regs : 0 ≤ f.regs ∧ f.regs ≤ 4000
  pos : 0 < f.blocks.length ∧ f.blocks.length ≤ 1048576
  len : ∀ b ∈ f.blocks, b.ins.length ≤ 1048576
  fit : ∀ b ∈ f.blocks, ∀ t ∈ b.ins, FitT t i f.regs nw ∧ U t.n
  en : ∀ b ∈ f.blocks, b.en = 1 ∨ b.en = 2 ∨ b.en = 3
  to : ∀ b ∈ f.blocks, b.en ≠ 3 → 0 ≤ b.to ∧ b.to < f.blocks.length
  el : ∀ b ∈ f.blocks, b.en = 2 → (0 ≤ b.el ∧ b.el < f.blocks.length) ∧ 0 ≤ b.v ∧ b.v < f.regs
theorem good_mk {f : Fn} {i nw : Int} (h : oneB f i nw = true) (hl : f.blocks.length ≤ 1048576) (hil : ∀ b ∈ f.blocks, b.ins.length ≤ 1048576) (hU : ∀ b ∈ f.blocks, ∀ t ∈ b.ins, U t.n) : FnGood f i nw := by
  obtain ⟨r1, r2, r3, _⟩ := one_okR h
  unfold oneB at h
  simp only [Bool.and_eq_true, List.all_eq_true] at h
  have hb := h.2
  have ends : ∀ b ∈ f.blocks, endsB b.en b.v b.to b.el f.blocks.length f.regs = true := fun b hm => by
    have := hb b hm
    unfold okBlk at this
    simp only [Bool.and_eq_true] at this
    exact this.1
  have e1 : ∀ b ∈ f.blocks, (b.en = 1 ∧ 0 ≤ b.to ∧ b.to < f.blocks.length) ∨ (b.en = 2 ∧ (0 ≤ b.to ∧ b.to < f.blocks.length) ∧ (0 ≤ b.el ∧ b.el < f.blocks.length) ∧ 0 ≤ b.v ∧ b.v < f.regs) ∨ b.en = 3 := fun b hm => by
    have := ends b hm
    unfold endsB withinB at this
    split at this
    · rename_i h1
      simp only [Bool.and_eq_true, decide_eq_true_eq, beq_iff_eq] at this
      exact .inl ⟨h1, by omega, by omega⟩
    · split at this
      · rename_i h2
        simp only [Bool.and_eq_true, decide_eq_true_eq] at this
        exact .inr (.inl ⟨h2, by omega, by omega, by omega⟩)
      · simp only [Bool.and_eq_true, beq_iff_eq] at this
        exact .inr (.inr (by omega))
  refine ⟨⟨r1, r2⟩, ⟨r3, hl⟩, hil, fun b hm t ht => ⟨?_, hU b hm t ht⟩, fun b hm => ?_, fun b hm h3 => ?_, fun b hm h2 => ?_⟩
  · have := hb b hm
    unfold okBlk at this
    simp only [Bool.and_eq_true, List.all_eq_true] at this
    exact fit_inv (this.2 t ht)
  · rcases e1 b hm with h | h | h
    · exact .inl h.1
    · exact .inr (.inl h.1)
    · exact .inr (.inr h)
  · rcases e1 b hm with h | h | h
    · exact h.2
    · exact h.2.1
    · exact (h3 h).elim
  · rcases e1 b hm with h | h | h
    · omega
    · exact h.2.2
    · omega
theorem good_of {f : Fn} {i nw : Int} (h : oneB f i nw = true) (hw : f.wf 1048576) : FnGood f i nw :=
  good_mk h hw.blocks.1 (fun b hm => (hw.blocks.2 b hm).ins.1) fun b hm t ht => by
    have := ((hw.blocks.2 b hm).ins.2 t ht).n
    unfold U
    simp [Lit.wf] at this
    have e : IntKind.u32.min = 0 := rfl
    have e2 : IntKind.u32.max = 4294967295 := rfl
    first | omega | (simp [IntKind.inRange, e, e2] at this; omega)
end Go.Proofs.Ytmfhdhiaokejdaa
