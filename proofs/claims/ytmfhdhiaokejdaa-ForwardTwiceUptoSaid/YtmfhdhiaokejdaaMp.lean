/- Maps, and what is drawn: triples over the abstract state and the maps' blocks. No program of Go is named here. -/
import Derived.Test.YtmfhdhiaokejdaaAb23
import Derived.Maps.RangeRun
import Derived.Carry
namespace Go.Ab
open Go
set_option linter.unusedSimpArgs false
set_option linter.unusedVariables false
open Go.ChangeMaps (setBlock)

/-- Which blocks hold maps and iterators, and what. -/
abbrev MM := Nat → Option Obj
def mset (M : MM) (b : Nat) (o : Obj) : MM := fun c => if c = b then some o else M c
@[simp] theorem mset_same (M : MM) (b : Nat) (o : Obj) : mset M b o b = some o := by simp [mset]
theorem mset_other (M : MM) {b c : Nat} (o : Obj) (h : c ≠ b) : mset M b o c = M c := by simp [mset, h]
def KM (K : Nat → Prop) (M : MM) (b : Nat) : Prop := K b ∨ (M b).isSome = true

theorem Ext.weaken {I K K' : Nat → Prop} {m m' : Mp} {hp hp' : Hp} {w w' : World} {I' : Nat → Prop} (E : Ext I K m hp w I' m' hp' w') (h : ∀ b, K' b → K b) : Ext I K' m hp w I' m' hp' w' :=
  { isub := E.isub, keep := fun b hb => E.keep b (hb.imp id (h b)), size := E.size, os := E.os, tape := E.tape, output := E.output, gmono := E.gmono, stable := E.stable }

/-- The heap, the maps, and the world. -/
structure HM (K : Nat → Prop) (M : MM) (I : Nat → Prop) (m : Mp) (hp : Hp) (w : World) : Prop where
  gam : Gam I (KM K M) m hp w
  at' : ∀ b o, M b = some o → w.heap[b]? = some o
  nk : ∀ b, (M b).isSome = true → ¬ K b

/-- The abstract state of a frame, the maps, and the frame. -/
def StM (k N : Nat) (K : Nat → Prop) (B : Base) (st : AS) (M : MM) (a : Act) (w : World) : Prop :=
  ∃ I m, HM K M I m st.hp w ∧ Ext B.I K B.m B.hp B.w I m st.hp w ∧ (∀ t, Rep k I m st.hp w (st.fr t) (a.eval (.tmp t))) ∧ a.tmps.size = N ∧ a.defers = []

section
variable {P : Program} {K : Nat → Prop} {k N : Nat} {B : Base} {E : Cfg} {call : Orc}

/-- A triple. -/
def T (P : Program) (k N : Nat) (K : Nat → Prop) (B : Base) (c : Code) (st : AS) (M : MM) (Q : Ex → AS → MM → Prop) : Prop :=
  ∀ a w, StM k N K B st M a w → c.wp P (fun ex a' w' => ∃ e st' M', ex = exOf e ∧ StM k N K B st' M' a' w' ∧ Q e st' M') a w

theorem StM.back {st st' : AS} {M : MM} {I : Nat → Prop} {m : Mp} {a' : Act} {w w' : World} (H : HM K M I m st.hp w) (E0 : Ext B.I K B.m B.hp B.w I m st.hp w) (S : StR k N (KM K M) ⟨I, m, st.hp, w⟩ st' a' w') : StM k N K B st' M a' w' := by
  obtain ⟨I', m', G', E', hf, hs, hd⟩ := S
  exact ⟨I', m', ⟨G', fun b o hb => (E'.keep b (.inr (.inr (by rw [hb]; rfl)))).trans (H.at' b o hb), H.nk⟩, E0.trans (E'.weaken fun b => .inl), hf, hs, hd⟩

theorem T_ord (hm : P.follows .mixedOrders = true) (hE : EqLaw P E.eq) (hC : OrcOk P call) {c : Code} {st : AS} {M : MM} {Q : Ex → AS → MM → Prop} (hs : slotsIn N c = true) (h : W P E k call c st (fun e s => Q e s M)) : T P k N K B c st M Q := by
  obtain ⟨n, e, st', h1, h2⟩ := h
  rintro a w ⟨I, m, H, E0, hf, hsz, hdf⟩
  exact evC_ok hm hE hC n c hs (B := ⟨I, m, st.hp, w⟩) (K := KM K M) ⟨I, m, H.gam, .refl _ _ _ _ _, hf, hsz, hdf⟩ h1 fun a' w' S' => ⟨e, st', M, rfl, S'.elim fun _ _ => StM.back H E0 S', h2⟩

def thenT (Nx : AS → MM → Prop) (Q : Ex → AS → MM → Prop) : Ex → AS → MM → Prop
  | .normal, s, M => Nx s M
  | e, s, M => Q e s M
theorem T.mono {c : Code} {st : AS} {M : MM} {Q Q' : Ex → AS → MM → Prop} (h : T P k N K B c st M Q) (hq : ∀ e s M, Q e s M → Q' e s M) : T P k N K B c st M Q' :=
  fun a w S => Code.wp_mono (fun ex a' w' ⟨e, st', M', h1, h2, h3⟩ => ⟨e, st', M', h1, h2, hq _ _ _ h3⟩) (h a w S)
theorem T_seq {x y : Code} {st : AS} {M : MM} {Q : Ex → AS → MM → Prop} (h : T P k N K B x st M (thenT (fun s M => T P k N K B y s M Q) Q)) : T P k N K B (.seq x y) st M Q := by
  intro a w S
  refine wp_seq (Code.wp_mono (fun ex a' w' hh => ?_) (h a w S))
  obtain ⟨e, st', M', rfl, S', hq⟩ := hh
  cases e with
  | normal => exact hq a' w' S'
  | exit i => exact ⟨_, _, _, rfl, S', hq⟩
  | ret => exact ⟨_, _, _, rfl, S', hq⟩
theorem T_cond {c : Operand} {x y : Code} {st : AS} {M : MM} {Q : Ex → AS → MM → Prop} {t : Bool} (hc : opA st.fr c = .sc (.bool t)) (h : T P k N K B (if t then x else y) st M Q) : T P k N K B (.cond c x y) st M Q := by
  intro a w S
  have he : a.eval c = .bool t := by
    obtain ⟨I, m, H, E0, hf, hsz, hdf⟩ := S
    have := opA_ok hf c
    rw [hc] at this
    simpa only [Rep] using this
  exact wp_cond he (by cases t <;> exact h a w S)
def inBlockT (id : Nat) (Q : Ex → AS → MM → Prop) : Ex → AS → MM → Prop
  | .exit i, s, M => if i = id then Q .normal s M else Q (.exit i) s M
  | e, s, M => Q e s M
theorem T_block {id : Nat} {x : Code} {st : AS} {M : MM} {Q : Ex → AS → MM → Prop} (h : T P k N K B x st M (inBlockT id Q)) : T P k N K B (.block id x) st M Q := by
  intro a w S
  refine wp_block (Code.wp_mono (fun ex a' w' hh => ?_) (h a w S))
  obtain ⟨e, st', M', rfl, S', hq⟩ := hh
  cases e with
  | normal => exact ⟨.normal, _, _, rfl, S', hq⟩
  | ret => exact ⟨.ret, _, _, rfl, S', hq⟩
  | exit i =>
    simp only [exOf, Exit.inBlock]
    simp only [inBlockT] at hq
    split
    · rename_i hi
      rw [if_pos hi] at hq
      exact ⟨.normal, _, _, rfl, S', hq⟩
    · rename_i hi
      rw [if_neg hi] at hq
      exact ⟨.exit i, _, _, rfl, S', hq⟩
theorem T_loop {x : Code} {st : AS} {M : MM} {Q : Ex → AS → MM → Prop} (J : Nat → AS → MM → Prop) {n : Nat} (h0 : J n st M) (round : ∀ n s M, J n s M → T P k N K B x s M (thenT (fun s' M' => ∃ j, j < n ∧ J j s' M') Q)) : T P k N K B (.loop x) st M Q := by
  intro a w S
  refine wp_loop (I := fun a w => ∃ n s M, J n s M ∧ StM k N K B s M a w) (μ := fun a w => least fun n => ∃ s M, J n s M ∧ StM k N K B s M a w) ⟨n, st, M, h0, S⟩ ?_
  intro a w hI
  obtain ⟨⟨s, M1, hj, S1⟩, _⟩ := least_spec (p := fun n => ∃ s M, J n s M ∧ StM k N K B s M a w) hI
  refine Code.wp_mono (fun ex a' w' hh => ?_) (round _ s M1 hj a w S1)
  obtain ⟨e, st', M', rfl, S', hq⟩ := hh
  cases e with
  | normal =>
    obtain ⟨j, hlt, hj'⟩ := hq
    exact ⟨⟨j, st', M', hj', S'⟩, Nat.lt_of_le_of_lt ((least_spec (p := fun n => ∃ s M, J n s M ∧ StM k N K B s M a' w') ⟨j, st', M', hj', S'⟩).2 j ⟨st', M', hj', S'⟩) hlt⟩
  | exit i => exact ⟨_, _, _, rfl, S', hq⟩
  | ret => exact ⟨_, _, _, rfl, S', hq⟩
theorem T_skip {st : AS} {M : MM} {Q : Ex → AS → MM → Prop} (h : Q .normal st M) : T P k N K B .skip st M Q := fun a w S => wp_skip ⟨.normal, st, M, rfl, S, h⟩
theorem T_ret {st : AS} {M : MM} {Q : Ex → AS → MM → Prop} (h : Q .ret st M) : T P k N K B .ret st M Q := fun a w S => wp_ret ⟨.ret, st, M, rfl, S, h⟩
theorem T_exit {id : Nat} {st : AS} {M : MM} {Q : Ex → AS → MM → Prop} (h : Q (.exit id) st M) : T P k N K B (.exit id) st M Q := fun a w S => wp_exit ⟨.exit id, st, M, rfl, S, h⟩

/-! ### operations one by one -/
/-- Operations in text order, from the n-th of a region on. -/
def To (P : Program) (k N : Nat) (K : Nat → Prop) (B : Base) (all : Array Oper) (n : Nat) (os : List Oper) (st : AS) (M : MM) (Q : Ex → AS → MM → Prop) : Prop :=
  (∀ j, os[j]? = all[n + j]?) → ∀ a w, StM k N K B st M a w → wpOps P all (fun ex a' w' => ∃ e st' M', ex = exOf e ∧ StM k N K B st' M' a' w' ∧ Q e st' M') (List.range' n os.length) a w
theorem T_region {id : Nat} {l : List Oper} {st : AS} {M : MM} {Q : Ex → AS → MM → Prop} (h : To P k N K B l.toArray 0 l st M Q) : T P k N K B (.region id l.toArray false) st M Q := by
  intro a w S
  refine wp_region ?_
  have := h (by simp) a w S
  rwa [show List.range l.toArray.size = List.range' 0 l.length by rw [List.range_eq_range']; simp]
theorem To_nil {all : Array Oper} {n : Nat} {st : AS} {M : MM} {Q : Ex → AS → MM → Prop} (h : Q .normal st M) : To P k N K B all n [] st M Q := fun _ a w S => ⟨.normal, st, M, rfl, S, h⟩
/-- What an operation comes to, in the world. -/
theorem To_op {all : Array Oper} {n : Nat} {o : Oper} {os : List Oper} {st : AS} {M : MM} {Q : Ex → AS → MM → Prop} (hg : o.guard = none)
    (h : ∀ a w, StM k N K B st M a w → OpR P o a w (fun u w' => ∃ st' M', StM k N K B st' M' (a.put o.dst u) w' ∧ To P k N K B all (n + 1) os st' M' Q)) : To P k N K B all n (o :: os) st M Q := by
  intro hl a w S
  have h0 : all[n]? = some o := by simpa using (hl 0).symm
  have hl' : ∀ j, os[j]? = all[n + 1 + j]? := fun j => by have := hl (j + 1); simpa [Nat.add_assoc, Nat.add_comm 1 j] using this
  simp only [List.length_cons, List.range'_succ, wpOps, h0]
  rw [if_pos (by unfold Region.wanted; rw [hg])]
  refine .inl ((h a w S).wp fun u w' ⟨st', M', S', hT⟩ => hT hl' _ _ S')
theorem To_u (hE : EqLaw P E.eq) (hC : OrcOk P call) {all : Array Oper} {n d : Nat} {op : Op} {ty : TypeId} {pos : String} {aft : Array Edge} {os : List Oper} {fr : Nat → AV} {hp hp' : Hp} {v : AV} {M : MM} {Q : Ex → AS → MM → Prop}
    (h : (evOp P E k call fr ⟨some d, op, ty, pos, aft, none⟩).run hp = some (v, hp')) (hd : d < N) (r : To P k N K B all (n + 1) os ⟨setd fr (some d) v, hp'⟩ M Q) : To P k N K B all n (⟨some d, op, ty, pos, aft, none⟩ :: os) ⟨fr, hp⟩ M Q := by
  refine To_op rfl ?_
  rintro a w ⟨I, m, H, E0, hf, hsz, hdf⟩
  have S : StR k N (KM K M) ⟨I, m, hp, w⟩ ⟨fr, hp⟩ a w := ⟨I, m, H.gam, .refl _ _ _ _ _, hf, hsz, hdf⟩
  have := S.op hE hC (o := ⟨some d, op, ty, pos, aft, none⟩) (fun x hx => by cases hx; exact hd) h
  unfold OpR at this ⊢
  have key : ∀ u w', StR k N (KM K M) ⟨I, m, hp, w⟩ ⟨setd fr (some d) v, hp'⟩ (a.put (some d) u) w' → ∃ st' M', StM k N K B st' M' (a.put (some d) u) w' ∧ To P k N K B all (n + 1) os st' M' Q :=
    fun u w' S' => ⟨_, M, StM.back (st := ⟨fr, hp⟩) H E0 S', r⟩
  split at this
  · exact key _ _ this
  · exact key _ _ this
  · exact this.mono fun e w' he => by obtain ⟨u, e1, h2⟩ := he; exact ⟨u, e1, key _ _ h2⟩
  · exact this.elim
theorem To_n (hE : EqLaw P E.eq) (hC : OrcOk P call) {all : Array Oper} {n : Nat} {op : Op} {ty : TypeId} {pos : String} {aft : Array Edge} {os : List Oper} {fr : Nat → AV} {hp hp' : Hp} {v : AV} {M : MM} {Q : Ex → AS → MM → Prop}
    (h : (evOp P E k call fr ⟨none, op, ty, pos, aft, none⟩).run hp = some (v, hp')) (r : To P k N K B all (n + 1) os ⟨fr, hp'⟩ M Q) : To P k N K B all n (⟨none, op, ty, pos, aft, none⟩ :: os) ⟨fr, hp⟩ M Q := by
  refine To_op rfl ?_
  rintro a w ⟨I, m, H, E0, hf, hsz, hdf⟩
  have S : StR k N (KM K M) ⟨I, m, hp, w⟩ ⟨fr, hp⟩ a w := ⟨I, m, H.gam, .refl _ _ _ _ _, hf, hsz, hdf⟩
  have := S.op hE hC (o := ⟨none, op, ty, pos, aft, none⟩) (fun x hx => by cases hx) h
  unfold OpR at this ⊢
  have key : ∀ u w', StR k N (KM K M) ⟨I, m, hp, w⟩ ⟨fr, hp'⟩ (a.put none u) w' → ∃ st' M', StM k N K B st' M' (a.put none u) w' ∧ To P k N K B all (n + 1) os st' M' Q :=
    fun u w' S' => ⟨_, M, StM.back (st := ⟨fr, hp⟩) H E0 S', r⟩
  split at this
  · exact key _ _ this
  · exact key _ _ this
  · exact this.mono fun e w' he => by obtain ⟨u, e1, h2⟩ := he; exact ⟨u, e1, key _ _ h2⟩
  · exact this.elim
end
end Go.Ab
