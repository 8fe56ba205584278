/- Rules for evaluating code over symbolic data. No program of Go is named here. -/
import Derived.Test.YtmfhdhiaokejdaaAb21
import Derived.IntWalk
namespace Go.Ab
open Go
set_option linter.unusedSimpArgs false
set_option linter.unusedVariables false

/-- The code comes to an end that is as Q says. -/
def W (P : Program) (E : Cfg) (k : Nat) (call : Orc) (c : Code) (st : AS) (Q : Ex → AS → Prop) : Prop := ∃ n e st', evC P E k call n c st = some (e, st') ∧ Q e st'
/-- Operations in text order. -/
def Wo (P : Program) (E : Cfg) (k : Nat) (call : Orc) (all : Array Oper) (os : List Oper) (st : AS) (Q : AS → Prop) : Prop := ∃ st', evOps P E k call all os st = some st' ∧ Q st'
/-- A program over the abstract heap. -/
def Wp {α : Type} (p : Prog α) (hp : Hp) (Q : α → Hp → Prop) : Prop := ∃ v hp', p.run hp = some (v, hp') ∧ Q v hp'

section
variable {P : Program} {E : Cfg} {k : Nat} {call : Orc}

theorem W.mono {c : Code} {st : AS} {Q Q' : Ex → AS → Prop} (h : W P E k call c st Q) (hq : ∀ e s, Q e s → Q' e s) : W P E k call c st Q' := by
  obtain ⟨n, e, s, h1, h2⟩ := h
  exact ⟨n, e, s, h1, hq _ _ h2⟩
theorem W_skip {st : AS} {Q : Ex → AS → Prop} (h : Q .normal st) : W P E k call .skip st Q := ⟨1, _, _, rfl, h⟩
theorem W_label {l : Nat} {st : AS} {Q : Ex → AS → Prop} (h : Q .normal st) : W P E k call (.label l) st Q := ⟨1, _, _, rfl, h⟩
theorem W_exit {id : Nat} {st : AS} {Q : Ex → AS → Prop} (h : Q (.exit id) st) : W P E k call (.exit id) st Q := ⟨1, _, _, rfl, h⟩
theorem W_ret {st : AS} {Q : Ex → AS → Prop} (h : Q .ret st) : W P E k call .ret st Q := ⟨1, _, _, rfl, h⟩
theorem W_region {id : Nat} {ops : Array Oper} {st : AS} {Q : Ex → AS → Prop} (h : Wo P E k call ops ops.toList st (Q .normal)) : W P E k call (.region id ops false) st Q := by
  obtain ⟨st', h1, h2⟩ := h
  exact ⟨1, _, st', by simp [evC, evRegion, h1], h2⟩

def thenW (N : AS → Prop) (Q : Ex → AS → Prop) : Ex → AS → Prop
  | .normal, s => N s
  | e, s => Q e s
theorem W_seq {a b : Code} {st : AS} {Q : Ex → AS → Prop} (h : W P E k call a st (thenW (fun s => W P E k call b s Q) Q)) : W P E k call (.seq a b) st Q := by
  obtain ⟨n, e, s, h1, h2⟩ := h
  cases e with
  | normal =>
    obtain ⟨m, e', s', h3, h4⟩ := h2
    refine ⟨max n m + 1, e', s', ?_, h4⟩
    simp only [evC]
    rw [evC_mono (.refl call) n (max n m) (Nat.le_max_left ..) _ _ _ h1]
    exact evC_mono (.refl call) m (max n m) (Nat.le_max_right ..) _ _ _ h3
  | exit i => exact ⟨n + 1, .exit i, s, by simp only [evC]; rw [h1], h2⟩
  | ret => exact ⟨n + 1, .ret, s, by simp only [evC]; rw [h1], h2⟩
theorem W_cond {c : Operand} {a b : Code} {st : AS} {Q : Ex → AS → Prop} {t : Bool} (hc : opA st.fr c = .sc (.bool t)) (h : W P E k call (if t then a else b) st Q) : W P E k call (.cond c a b) st Q := by
  obtain ⟨n, e, s, h1, h2⟩ := h
  refine ⟨n + 1, e, s, ?_, h2⟩
  simp only [evC, hc]
  cases t <;> simpa using h1
def inBlockW (id : Nat) (Q : Ex → AS → Prop) : Ex → AS → Prop
  | .exit i, s => if i = id then Q .normal s else Q (.exit i) s
  | e, s => Q e s
theorem W_block {id : Nat} {c : Code} {st : AS} {Q : Ex → AS → Prop} (h : W P E k call c st (inBlockW id Q)) : W P E k call (.block id c) st Q := by
  obtain ⟨n, e, s, h1, h2⟩ := h
  cases e with
  | normal => exact ⟨n + 1, .normal, s, by simp only [evC]; rw [h1], h2⟩
  | ret => exact ⟨n + 1, .ret, s, by simp only [evC]; rw [h1], h2⟩
  | exit i =>
    by_cases hi : i = id
    · simp only [inBlockW, hi, if_true] at h2
      exact ⟨n + 1, .normal, s, by simp only [evC]; rw [h1]; simp [hi], h2⟩
    · simp only [inBlockW, hi, if_false] at h2
      exact ⟨n + 1, .exit i, s, by simp only [evC]; rw [h1]; simp [hi], h2⟩
theorem W_loop {c : Code} {st : AS} {Q : Ex → AS → Prop} (I : Nat → AS → Prop) {n : Nat} (h0 : I n st) (round : ∀ n s, I n s → W P E k call c s (thenW (fun s' => ∃ m, m < n ∧ I m s') Q)) : W P E k call (.loop c) st Q := by
  induction n using Nat.strongRecOn generalizing st with
  | _ n ih =>
    obtain ⟨f, e, s, h1, h2⟩ := round n st h0
    cases e with
    | normal =>
      obtain ⟨m, hm, hI⟩ := h2
      obtain ⟨g, e', s', h3, h4⟩ := ih m hm hI
      refine ⟨max f g + 1, e', s', ?_, h4⟩
      simp only [evC]
      rw [evC_mono (.refl call) f (max f g) (Nat.le_max_left ..) _ _ _ h1]
      exact evC_mono (.refl call) g (max f g) (Nat.le_max_right ..) _ _ _ h3
    | exit i => exact ⟨f + 1, .exit i, s, by simp only [evC]; rw [h1], h2⟩
    | ret => exact ⟨f + 1, .ret, s, by simp only [evC]; rw [h1], h2⟩

theorem Wo_nil {all : Array Oper} {st : AS} {Q : AS → Prop} (h : Q st) : Wo P E k call all [] st Q := ⟨st, rfl, h⟩
theorem Wo_cons {all : Array Oper} {o : Oper} {os : List Oper} {st : AS} {Q : AS → Prop} (hg : guardA all st.fr o = some true) (h : Wp (evOp P E k call st.fr o) st.hp fun v hp => Wo P E k call all os ⟨setd st.fr o.dst v, hp⟩ Q) : Wo P E k call all (o :: os) st Q := by
  obtain ⟨v, hp, h1, st', h2, h3⟩ := h
  exact ⟨st', by simp only [evOps, hg, h1, h2], h3⟩
theorem Wo_skip {all : Array Oper} {o : Oper} {os : List Oper} {st : AS} {Q : AS → Prop} (hg : guardA all st.fr o = some false) (h : Wo P E k call all os ⟨setd st.fr o.dst (.sc undef), st.hp⟩ Q) : Wo P E k call all (o :: os) st Q := by
  obtain ⟨st', h2, h3⟩ := h
  exact ⟨st', by simp only [evOps, hg, h2], h3⟩

section
variable {α β : Type} {hp : Hp}
theorem Wp_ret {a : α} {Q : α → Hp → Prop} : Wp (.ret a) hp Q ↔ Q a hp := ⟨fun ⟨v, hp', h, q⟩ => by cases h; exact q, fun q => ⟨a, hp, rfl, q⟩⟩
theorem Wp_bind {p : Prog α} {f : α → Prog β} {Q : β → Hp → Prop} : Wp (p.bind f) hp Q ↔ Wp p hp fun a hp' => Wp (f a) hp' Q := by
  constructor
  · rintro ⟨v, hp', h, hq⟩
    obtain ⟨a, hp1, h1, h2⟩ := run_bind_some h
    exact ⟨a, hp1, h1, v, hp', h2, hq⟩
  · rintro ⟨a, hp1, h1, v, hp', h2, hq⟩
    exact ⟨v, hp', by rw [run_bind, h1]; exact h2, hq⟩
theorem Wp_get {x : Nm} {f : AObj → Prog α} {Q : α → Hp → Prop} : Wp (.get x f) hp Q ↔ Wp (f (hp x)) hp Q := Iff.rfl
theorem Wp_put {x : Nm} {o : AObj} {p : Prog α} {Q : α → Hp → Prop} : Wp (.put x o p) hp Q ↔ Wp p (upd hp x o) Q := Iff.rfl
theorem Wp_hdr {x : Nm} {f : Head → Prog α} {Q : α → Hp → Prop} : Wp (.hdr x f) hp Q ↔ Wp (f (hp x).head) hp Q := Iff.rfl
theorem Wp_fail {Q : α → Hp → Prop} : Wp .fail hp Q ↔ False := by simp [Wp, Prog.run]
end

/-- A function of data, by its body. -/
theorem fn_of {X : Orc} {f : Nat} {fn : Func} {c : Code} {args rs : List AV} (hf : P.funcs[f]? = some fn) (hx : X.dat f args = none) (hb : fn.body = some c) (hok : bodyOk fn = true) (hl : args.length = fn.params.size)
    (h : W P E 0 (lim P E X) c ⟨frame0 args, hp0⟩ fun e st => (∀ i, e ≠ .exit i) ∧ Wp (resultsP P st.fr fn.resultTypes.toList fn.results.toList) st.hp fun v _ => v = rs) : (lim P E X).dat f args = some rs := by
  obtain ⟨n, e, st, h1, hne, v, hp', h2, rfl⟩ := h
  refine lim_fn (n := n) hf hx ?_
  unfold evFn
  rw [hb]
  simp only [hok, hl, beq_self_eq_true, Bool.and_self, if_true]
  rw [h1]
  cases e with
  | exit i => exact (hne i rfl).elim
  | normal => simp [h2]
  | ret => simp [h2]
/-- How a function of data ends. -/
def EndQ (P : Program) (ts : List TypeId) (rvs : List ResultVar) (R : List AV → Prop) : Ex → AS → Prop
  | .exit _, _ => False
  | _, st => ∃ rs hp', (resultsP P st.fr ts rvs).run st.hp = some (rs, hp') ∧ R rs
theorem EndQ_ret {ts : List TypeId} {rvs : List ResultVar} {R : List AV → Prop} {st : AS} {rs : List AV} {hp' : Hp} (h : (resultsP P st.fr ts rvs).run st.hp = some (rs, hp')) (hr : R rs) : EndQ P ts rvs R .ret st := ⟨rs, hp', h, hr⟩
theorem EndQ_normal {ts : List TypeId} {rvs : List ResultVar} {R : List AV → Prop} {st : AS} {rs : List AV} {hp' : Hp} (h : (resultsP P st.fr ts rvs).run st.hp = some (rs, hp')) (hr : R rs) : EndQ P ts rvs R .normal st := ⟨rs, hp', h, hr⟩
/-- A function of data, by its body. -/
theorem fnW {X : Orc} {f : Nat} {fn : Func} {c : Code} {args rs : List AV} {ts : List TypeId} {rvs : List ResultVar} (hf : P.funcs[f]? = some fn) (hx : X.dat f args = none) (hb : fn.body = some c) (hok : bodyOk fn = true) (hl : args.length = fn.params.size)
    (ht : rtys P f = ts) (hrv : fn.results.toList = rvs) (h : W P E 0 (lim P E X) c ⟨frame0 args, hp0⟩ (EndQ P ts rvs (· = rs))) : (lim P E X).dat f args = some rs := by
  refine fn_of hf hx hb hok hl (h.mono fun e st hq => ?_)
  have ht : fn.resultTypes.toList = ts := by rw [← ht]; simp [rtys, hf]
  subst ht hrv
  cases e with
  | exit i => exact hq.elim
  | normal => obtain ⟨rs', hp', h1, h2⟩ := hq; exact ⟨fun i => nofun, rs', hp', h1, h2⟩
  | ret => obtain ⟨rs', hp', h1, h2⟩ := hq; exact ⟨fun i => nofun, rs', hp', h1, h2⟩
end

/-! ### rules for code in sequence -/
section
variable {P : Program} {E : Cfg} {k : Nat} {call : Orc} {a b c d : Code} {st st' : AS} {Q : Ex → AS → Prop} {id : Nat} {ops : Array Oper} {fs : List Foot}
theorem W_r (h : evOps P E k call ops ops.toList st = some st') (hq : Q .normal st') : W P E k call (.region id ops false) st Q := W_region ⟨st', h, hq⟩
theorem W_rd (h : runDraw P E k call ops ops.toList st [] = some (st', fs)) (hs : drawS ops = true) (hf : drawF ops fs = true) (hq : Q .normal st') : W P E k call (.region id ops true) st Q :=
  ⟨1, _, st', by simp [evC, evRegion, h, hs, hf], hq⟩
theorem W_sr (h : evOps P E k call ops ops.toList st = some st') (hb : W P E k call b st' Q) : W P E k call (.seq (.region id ops false) b) st Q := W_seq (W_r h hb)
theorem W_srd (h : runDraw P E k call ops ops.toList st [] = some (st', fs)) (hs : drawS ops = true) (hf : drawF ops fs = true) (hb : W P E k call b st' Q) : W P E k call (.seq (.region id ops true) b) st Q := W_seq (W_rd h hs hf hb)
theorem thenW_thenW {N N' : AS → Prop} : thenW N (thenW N' Q) = thenW N Q := by funext e s; cases e <;> rfl
theorem W_seq_inv (h : W P E k call (.seq a b) st Q) : W P E k call a st (thenW (fun s => W P E k call b s Q) Q) := by
  obtain ⟨n, e, s, h1, h2⟩ := h
  cases n with
  | zero => simp [evC] at h1
  | succ n =>
    simp only [evC] at h1
    cases ha : evC P E k call n a st with
    | none => rw [ha] at h1; cases h1
    | some r =>
      obtain ⟨ea, sa⟩ := r
      rw [ha] at h1
      refine ⟨n, ea, sa, ha, ?_⟩
      cases ea with
      | normal => exact ⟨n, e, s, h1, h2⟩
      | exit i => cases h1; exact h2
      | ret => cases h1; exact h2
theorem W_ss (h : W P E k call (.seq a (.seq b c)) st Q) : W P E k call (.seq (.seq a b) c) st Q := by
  refine W_seq (W_seq ((W_seq_inv h).mono fun e s hs => ?_))
  cases e with
  | normal => exact (W_seq_inv hs).mono fun e s hs => by cases e <;> exact hs
  | exit i => exact hs
  | ret => exact hs
theorem W_sc {x : Operand} {t : Bool} (hc : opA st.fr x = .sc (.bool t)) (h1 : t = true → t = true → W P E k call (.seq a d) st Q) (h2 : t = false → t = false → W P E k call (.seq b d) st Q) : W P E k call (.seq (.cond x a b) d) st Q := by
  refine W_seq (W_cond hc ?_)
  cases t with
  | true => exact W_seq_inv (h1 rfl rfl)
  | false => exact W_seq_inv (h2 rfl rfl)
theorem W_c {x : Operand} {t : Bool} (hc : opA st.fr x = .sc (.bool t)) (h1 : t = true → t = true → W P E k call a st Q) (h2 : t = false → t = false → W P E k call b st Q) : W P E k call (.cond x a b) st Q := by
  refine W_cond hc ?_
  cases t with
  | true => exact h1 rfl rfl
  | false => exact h2 rfl rfl
theorem W_sskip (h : W P E k call b st Q) : W P E k call (.seq .skip b) st Q := W_seq (W_skip h)
theorem W_slabel {l : Nat} (h : W P E k call b st Q) : W P E k call (.seq (.label l) b) st Q := W_seq (W_label h)
theorem W_sret (h : Q .ret st) : W P E k call (.seq .ret b) st Q := W_seq (W_ret h)
theorem W_sexit (h : Q (.exit id) st) : W P E k call (.seq (.exit id) b) st Q := W_seq (W_exit h)
theorem W_sblock (h : W P E k call a st (inBlockW id (thenW (fun s => W P E k call b s Q) Q))) : W P E k call (.seq (.block id a) b) st Q := W_seq (W_block h)
theorem W_sloop (I : Nat → AS → Prop) {n : Nat} (h0 : I n st) (round : ∀ n s, I n s → W P E k call c s (thenW (fun s' => ∃ m, m < n ∧ I m s') (thenW (fun s => W P E k call b s Q) Q))) : W P E k call (.seq (.loop c) b) st Q := W_seq (W_loop I h0 round)
end
/-- The same rule, the invariant told of the state in which the loop begins. -/
theorem W_loopS {P : Program} {E : Cfg} {k : Nat} {call : Orc} {c : Code} {st : AS} {Q : Ex → AS → Prop} (I : AS → Nat → AS → Prop) {n : Nat} (h0 : I st n st) (round : ∀ n s, I st n s → W P E k call c s (thenW (fun s' => ∃ m, m < n ∧ I st m s') Q)) : W P E k call (.loop c) st Q :=
  W_loop (I st) h0 round
theorem W_sloopS {P : Program} {E : Cfg} {k : Nat} {call : Orc} {c b : Code} {st : AS} {Q : Ex → AS → Prop} (I : AS → Nat → AS → Prop) {n : Nat} (h0 : I st n st) (round : ∀ n s, I st n s → W P E k call c s (thenW (fun s' => ∃ m, m < n ∧ I st m s') (thenW (fun s => W P E k call b s Q) Q))) : W P E k call (.seq (.loop c) b) st Q :=
  W_seq (W_loop (I st) h0 round)
theorem W_unroll {P : Program} {E : Cfg} {k : Nat} {call : Orc} {c : Code} {st : AS} {Q : Ex → AS → Prop} (h : W P E k call c st (thenW (fun s => W P E k call (.loop c) s Q) Q)) : W P E k call (.loop c) st Q := by
  obtain ⟨n, e, s, h1, h2⟩ := h
  cases e with
  | normal =>
    obtain ⟨m, e', s', h3, h4⟩ := h2
    refine ⟨max n m + 1, e', s', ?_, h4⟩
    simp only [evC]
    rw [evC_mono (.refl call) n (max n m) (Nat.le_max_left ..) _ _ _ h1]
    exact evC_mono (.refl call) m (max n m) (Nat.le_max_right ..) _ _ _ h3
  | exit i => exact ⟨n + 1, .exit i, s, by simp only [evC]; rw [h1], h2⟩
  | ret => exact ⟨n + 1, .ret, s, by simp only [evC]; rw [h1], h2⟩
/-- A place where ways meet: R is what holds there. -/
theorem W_meet {P : Program} {E : Cfg} {k : Nat} {call : Orc} {a b : Code} {st : AS} {Q : Ex → AS → Prop} (R : AS → AS → Prop) (h1 : W P E k call a st (thenW (R st) Q)) (h2 : ∀ s, R st s → W P E k call b s Q) : W P E k call (.seq a b) st Q :=
  W_seq (h1.mono fun e s h => by cases e <;> first | exact h2 s h | exact h)
theorem lim_hpcW {P : Program} {E : Cfg} {X : Orc} {f k d : Nat} {fn : Func} {c : Code} {args : List AV} {hp : Hp} {rvs : List ResultVar} {R : AV → Hp → Prop} (hf : P.funcs[f]? = some fn) (hx : X.hpc k d f args hp = none) (hb : fn.body = some c) (hok : bodyOk fn = true) (hl : args.length = fn.params.size)
    (hrv : fn.results.toList = rvs) (h : W P E (k + 1) (lim P E X) c ⟨frame0 args, hp⟩ fun e st => (∀ i, e ≠ .exit i) ∧ ∃ v hp', (lowerRes P st.fr k d rvs).run st.hp = some (v, hp') ∧ R v hp') : ∃ v hp', (lim P E X).hpc k d f args hp = some (v, hp') ∧ R v hp' := by
  obtain ⟨n, e, st, h1, hne, v, hp', h2, h3⟩ := h
  refine ⟨v, hp', lim_fnH (n := n) hf hx ?_, h3⟩
  unfold evFnH
  rw [hb, hrv]
  simp only [hok, hl, beq_self_eq_true, Bool.and_self, if_true]
  rw [h1]
  cases e with
  | exit i => exact (hne i rfl).elim
  | normal => exact h2
  | ret => exact h2
theorem wrap64 {n : Int} (h1 : -9223372036854775808 ≤ n) (h2 : n ≤ 9223372036854775807) : IntKind.i64.wrap n = n := IntWalk.i64_in n ⟨h1, h2⟩
/-! ### one operation at a time -/
section
variable {P : Program} {E : Cfg} {k : Nat} {call : Orc} {all : Array Oper} {os l : List Oper} {fr : Nat → AV} {hp hp' : Hp} {Q : AS → Prop} {d d' j id : Nat} {op : Op} {ty : TypeId} {pos : String} {aft : Array Edge} {v : AV} {b c : Bool} {fs : List Foot} {R W' : List Facet} {st : AS} {B : Code} {QQ : Ex → AS → Prop}
theorem W_srl (h : Wo P E k call l.toArray l st (fun s => W P E k call B s QQ)) : W P E k call (.seq (.region id l.toArray false) B) st QQ := by
  obtain ⟨st', h1, h2⟩ := h
  exact W_sr (by simpa using h1) h2
theorem W_rl (h : Wo P E k call l.toArray l st (QQ .normal)) : W P E k call (.region id l.toArray false) st QQ := by
  obtain ⟨st', h1, h2⟩ := h
  exact W_r (by simpa using h1) h2
theorem Wo_u (h : (evOp P E k call fr ⟨some d, op, ty, pos, aft, none⟩).run hp = some (v, hp')) (r : Wo P E k call all os ⟨setd fr (some d) v, hp'⟩ Q) : Wo P E k call all (⟨some d, op, ty, pos, aft, none⟩ :: os) ⟨fr, hp⟩ Q := by
  obtain ⟨st', h1, h2⟩ := r
  exact ⟨st', by simp only [evOps, guardA, h]; exact h1, h2⟩
theorem Wo_n (h : (evOp P E k call fr ⟨none, op, ty, pos, aft, none⟩).run hp = some (v, hp')) (r : Wo P E k call all os ⟨fr, hp'⟩ Q) : Wo P E k call all (⟨none, op, ty, pos, aft, none⟩ :: os) ⟨fr, hp⟩ Q := by
  obtain ⟨st', h1, h2⟩ := r
  exact ⟨st', by simp only [evOps, guardA, h]; exact h1, h2⟩
theorem Wo_gsT (hd : (all[j]?).bind (·.dst) = some d') (hc : fr d' = .sc (.bool c)) (ht : c = true → c = true → ∃ v hp', (evOp P E k call fr ⟨some d, op, ty, pos, aft, some (j, true)⟩).run hp = some (v, hp') ∧ Wo P E k call all os ⟨setd fr (some d) v, hp'⟩ Q)
    (hf : c = false → c = false → Wo P E k call all os ⟨setd fr (some d) (.sc undef), hp⟩ Q) : Wo P E k call all (⟨some d, op, ty, pos, aft, some (j, true)⟩ :: os) ⟨fr, hp⟩ Q := by
  cases c with
  | true =>
    obtain ⟨v, hp', h, st', h1, h2⟩ := ht rfl rfl
    exact ⟨st', by simp only [evOps, guardA, hd, hc, h, beq_self_eq_true]; exact h1, h2⟩
  | false =>
    obtain ⟨st', h1, h2⟩ := hf rfl rfl
    exact ⟨st', by simp only [evOps, guardA, hd, hc]; exact h1, h2⟩
theorem Wo_gsF (hd : (all[j]?).bind (·.dst) = some d') (hc : fr d' = .sc (.bool c)) (ht : c = false → c = false → ∃ v hp', (evOp P E k call fr ⟨some d, op, ty, pos, aft, some (j, false)⟩).run hp = some (v, hp') ∧ Wo P E k call all os ⟨setd fr (some d) v, hp'⟩ Q)
    (hf : c = true → c = true → Wo P E k call all os ⟨setd fr (some d) (.sc undef), hp⟩ Q) : Wo P E k call all (⟨some d, op, ty, pos, aft, some (j, false)⟩ :: os) ⟨fr, hp⟩ Q := by
  cases c with
  | false =>
    obtain ⟨v, hp', h, st', h1, h2⟩ := ht rfl rfl
    exact ⟨st', by simp only [evOps, guardA, hd, hc, h, beq_self_eq_true]; exact h1, h2⟩
  | true =>
    obtain ⟨st', h1, h2⟩ := hf rfl rfl
    exact ⟨st', by simp only [evOps, guardA, hd, hc]; exact h1, h2⟩
theorem Wo_gt (hd : (all[j]?).bind (·.dst) = some d') (hc : fr d' = .sc (.bool b)) (h : (evOp P E k call fr ⟨some d, op, ty, pos, aft, some (j, b)⟩).run hp = some (v, hp')) (r : Wo P E k call all os ⟨setd fr (some d) v, hp'⟩ Q) : Wo P E k call all (⟨some d, op, ty, pos, aft, some (j, b)⟩ :: os) ⟨fr, hp⟩ Q := by
  obtain ⟨st', h1, h2⟩ := r
  exact ⟨st', by simp only [evOps, guardA, hd, hc, beq_self_eq_true, h]; exact h1, h2⟩
theorem Wo_gf (hd : (all[j]?).bind (·.dst) = some d') (hc : fr d' = .sc (.bool c)) (hcb : (c == b) = false) (r : Wo P E k call all os ⟨setd fr (some d) (.sc undef), hp⟩ Q) : Wo P E k call all (⟨some d, op, ty, pos, aft, some (j, b)⟩ :: os) ⟨fr, hp⟩ Q := by
  obtain ⟨st', h1, h2⟩ := r
  exact ⟨st', by simp only [evOps, guardA, hd, hc, hcb]; exact h1, h2⟩
theorem Wo_gx {us : List Value} (hd : (all[j]?).bind (·.dst) = some d') (hc : fr d' = .sc (.tuple ⟨us⟩)) (r : Wo P E k call all os ⟨setd fr (some d) (.sc undef), hp⟩ Q) : Wo P E k call all (⟨some d, op, ty, pos, aft, some (j, b)⟩ :: os) ⟨fr, hp⟩ Q := by
  obtain ⟨st', h1, h2⟩ := r
  exact ⟨st', by simp only [evOps, guardA, hd, hc]; exact h1, h2⟩
/-- A region that draws its order. -/
def Wd (P : Program) (E : Cfg) (k : Nat) (call : Orc) (all : Array Oper) (os : List Oper) (st : AS) (fs : List Foot) (Q : AS → Prop) : Prop := ∃ st' fs', runDraw P E k call all os st fs = some (st', fs') ∧ drawF all fs' = true ∧ Q st'
theorem W_srdl (hs : drawS l.toArray = true) (h : Wd P E k call l.toArray l st [] (fun s => W P E k call B s QQ)) : W P E k call (.seq (.region id l.toArray true) B) st QQ := by
  obtain ⟨st', fs', h1, h2, h3⟩ := h
  exact W_srd (by simpa using h1) hs h2 h3
theorem W_rdl (hs : drawS l.toArray = true) (h : Wd P E k call l.toArray l st [] (QQ .normal)) : W P E k call (.region id l.toArray true) st QQ := by
  obtain ⟨st', fs', h1, h2, h3⟩ := h
  exact W_rd (by simpa using h1) hs h2 h3
theorem Wd_nil (hf : drawF all fs.reverse = true) (q : Q st) : Wd P E k call all [] st fs Q := ⟨st, fs.reverse, rfl, hf, q⟩
theorem Wd_u (h : (evOp P E k call fr ⟨some d, op, ty, pos, aft, none⟩).runF hp [] [] = some (v, hp', R, W')) (r : Wd P E k call all os ⟨setd fr (some d) v, hp'⟩ (⟨R, W'⟩ :: fs) Q) : Wd P E k call all (⟨some d, op, ty, pos, aft, none⟩ :: os) ⟨fr, hp⟩ fs Q := by
  obtain ⟨st', fs', h1, h2⟩ := r
  exact ⟨st', fs', by simp only [runDraw, stepF, guardA, h]; exact h1, h2⟩
theorem Wd_n (h : (evOp P E k call fr ⟨none, op, ty, pos, aft, none⟩).runF hp [] [] = some (v, hp', R, W')) (r : Wd P E k call all os ⟨fr, hp'⟩ (⟨R, W'⟩ :: fs) Q) : Wd P E k call all (⟨none, op, ty, pos, aft, none⟩ :: os) ⟨fr, hp⟩ fs Q := by
  obtain ⟨st', fs', h1, h2⟩ := r
  exact ⟨st', fs', by simp only [runDraw, stepF, guardA, h]; exact h1, h2⟩
theorem Wd_gsT (hd : (all[j]?).bind (·.dst) = some d') (hc : fr d' = .sc (.bool c)) (ht : c = true → c = true → ∃ v hp' R W', (evOp P E k call fr ⟨some d, op, ty, pos, aft, some (j, true)⟩).runF hp [] [] = some (v, hp', R, W') ∧ Wd P E k call all os ⟨setd fr (some d) v, hp'⟩ (⟨R, W'⟩ :: fs) Q)
    (hf : c = false → c = false → Wd P E k call all os ⟨setd fr (some d) (.sc undef), hp⟩ (⟨[], []⟩ :: fs) Q) : Wd P E k call all (⟨some d, op, ty, pos, aft, some (j, true)⟩ :: os) ⟨fr, hp⟩ fs Q := by
  cases c with
  | true =>
    obtain ⟨v, hp', R, W', h, st', fs', h1, h2⟩ := ht rfl rfl
    exact ⟨st', fs', by simp only [runDraw, stepF, guardA, hd, hc, h, beq_self_eq_true]; exact h1, h2⟩
  | false =>
    obtain ⟨st', fs', h1, h2⟩ := hf rfl rfl
    exact ⟨st', fs', by simp only [runDraw, stepF, guardA, hd, hc]; exact h1, h2⟩
theorem Wd_gsF (hd : (all[j]?).bind (·.dst) = some d') (hc : fr d' = .sc (.bool c)) (ht : c = false → c = false → ∃ v hp' R W', (evOp P E k call fr ⟨some d, op, ty, pos, aft, some (j, false)⟩).runF hp [] [] = some (v, hp', R, W') ∧ Wd P E k call all os ⟨setd fr (some d) v, hp'⟩ (⟨R, W'⟩ :: fs) Q)
    (hf : c = true → c = true → Wd P E k call all os ⟨setd fr (some d) (.sc undef), hp⟩ (⟨[], []⟩ :: fs) Q) : Wd P E k call all (⟨some d, op, ty, pos, aft, some (j, false)⟩ :: os) ⟨fr, hp⟩ fs Q := by
  cases c with
  | false =>
    obtain ⟨v, hp', R, W', h, st', fs', h1, h2⟩ := ht rfl rfl
    exact ⟨st', fs', by simp only [runDraw, stepF, guardA, hd, hc, h, beq_self_eq_true]; exact h1, h2⟩
  | true =>
    obtain ⟨st', fs', h1, h2⟩ := hf rfl rfl
    exact ⟨st', fs', by simp only [runDraw, stepF, guardA, hd, hc]; exact h1, h2⟩
theorem ex2 {α β : Type} {p : Option (α × β)} {G : α → β → Prop} {v : α} {h : β} (e : p = some (v, h)) (g : G v h) : ∃ v h, p = some (v, h) ∧ G v h := ⟨v, h, e, g⟩
theorem ex4 {α β γ δ : Type} {p : Option (α × β × γ × δ)} {G : α → β → γ → δ → Prop} {v : α} {h : β} {r : γ} {w : δ} (e : p = some (v, h, r, w)) (g : G v h r w) : ∃ v h r w, p = some (v, h, r, w) ∧ G v h r w := ⟨v, h, r, w, e, g⟩
end
/-! ### rules for the symbolic end -/
theorem thenW_n {N : AS → Prop} {Q : Ex → AS → Prop} {s : AS} (h : N s) : thenW N Q .normal s := h
theorem thenW_r {N : AS → Prop} {Q : Ex → AS → Prop} {s : AS} (h : Q .ret s) : thenW N Q .ret s := h
theorem thenW_e {N : AS → Prop} {Q : Ex → AS → Prop} {s : AS} {i : Nat} (h : Q (.exit i) s) : thenW N Q (.exit i) s := h
theorem inB_n {Q : Ex → AS → Prop} {s : AS} {i : Nat} (h : Q .normal s) : inBlockW i Q .normal s := h
theorem inB_r {Q : Ex → AS → Prop} {s : AS} {i : Nat} (h : Q .ret s) : inBlockW i Q .ret s := h
theorem inB_e {Q : Ex → AS → Prop} {s : AS} {i : Nat} (h : Q .normal s) : inBlockW i Q (.exit i) s := by simp [inBlockW, h]
theorem inB_o {Q : Ex → AS → Prop} {s : AS} {i j : Nat} (h : Q (.exit i) s) (hne : (i == j) = false) : inBlockW j Q (.exit i) s := by
  have : i ≠ j := by simpa using hne
  simp [inBlockW, this, h]
@[simp] theorem setd_app (fr : Nat → AV) (d i : Nat) (v : AV) : setd fr (some d) v i = if i = d then v else fr i := rfl
@[simp] theorem setd_none (fr : Nat → AV) (v : AV) : setd fr none v = fr := rfl
@[simp] theorem run_ret {α : Type} (a : α) (hp : Hp) : (Prog.ret a).run hp = some (a, hp) := rfl
attribute [simp] run_bind
@[simp] theorem run_get {α : Type} (x : Nm) (f : AObj → Prog α) (hp : Hp) : (Prog.get x f).run hp = (f (hp x)).run hp := rfl
@[simp] theorem run_put {α : Type} (x : Nm) (o : AObj) (p : Prog α) (hp : Hp) : (Prog.put x o p).run hp = p.run (upd hp x o) := rfl
@[simp] theorem run_hdr {α : Type} (x : Nm) (f : Head → Prog α) (hp : Hp) : (Prog.hdr x f).run hp = (f (hp x).head).run hp := rfl
@[simp] theorem upd_app {α : Type} (hp : Nm → α) (x y : Nm) (o : α) : upd hp x o y = if y = x then o else hp y := rfl
@[simp] theorem upd_upd {α : Type} (hp : Nm → α) (x : Nm) (o o' : α) : upd (upd hp x o) x o' = upd hp x o' := by
  funext y
  simp only [upd]
  split <;> rfl
end Go.Ab
