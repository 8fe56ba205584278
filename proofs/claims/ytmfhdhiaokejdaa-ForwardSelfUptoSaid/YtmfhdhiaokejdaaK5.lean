/- Law 31: forwarding, walked. -/
import Derived.Test.YtmfhdhiaokejdaaK3
import Derived.Maps.RangeRun
import Derived.Carry
import Derived.MapFrom
import Derived.Test.YtmfhdhiaokejdaaK4
import Derived.Lib.Hide
import Derived.Laws.StructEq
namespace Go.Ab
open Go
set_option linter.unusedSimpArgs false
set_option linter.unusedVariables false
open Go.ChangeMaps (setBlock)

/-- Which blocks hold maps and iterators, and what. -/
abbrev MM := Nat → Option Obj
def mset (M : MM) (b : Nat) (o : Obj) : MM := fun c => if c = b then some o else M c
@[simp] theorem mset_same (M : MM) (b : Nat) (o : Obj) : mset M b o b = some o := by simp [mset]
theorem mset_other (M : MM) {b c : Nat} (o : Obj) (h : c ≠ b) : mset M b o c = M c := by simp [mset, h]
def KM (K : Nat → Prop) (M : MM) (b : Nat) : Prop := K b ∨ (M b).isSome = true

theorem Ext.weaken {I K K' : Nat → Prop} {m m' : Mp} {hp hp' : Hp} {w w' : World} {I' : Nat → Prop} (E : Ext I K m hp w I' m' hp' w') (h : ∀ b, K' b → K b) : Ext I K' m hp w I' m' hp' w' :=
  { isub := E.isub, keep := fun b hb => E.keep b (hb.imp id (h b)), size := E.size, os := E.os, tape := E.tape, output := E.output, gmono := E.gmono, stable := E.stable }

/-- The heap, the maps, and the world. -/
structure HM (K : Nat → Prop) (M : MM) (I : Nat → Prop) (m : Mp) (hp : Hp) (w : World) : Prop where
  gam : Gam I (KM K M) m hp w
  at' : ∀ b o, M b = some o → w.heap[b]? = some o
  nk : ∀ b, (M b).isSome = true → ¬ K b

/-- The abstract state of a frame, the maps, and the frame. -/
def StM (k N : Nat) (K : Nat → Prop) (B : Base) (st : AS) (M : MM) (a : Act) (w : World) : Prop :=
  ∃ I m, HM K M I m st.hp w ∧ Ext B.I K B.m B.hp B.w I m st.hp w ∧ (∀ t, Rep k I m st.hp w (st.fr t) (a.eval (.tmp t))) ∧ a.tmps.size = N ∧ a.defers = []

section
variable {P : Program} {K : Nat → Prop} {k N : Nat} {B : Base} {E : Cfg} {call : Orc}

/-- A triple. -/
def T (P : Program) (k N : Nat) (K : Nat → Prop) (B : Base) (c : Code) (st : AS) (M : MM) (Q : Ex → AS → MM → Prop) : Prop :=
  ∀ a w, StM k N K B st M a w → c.wp P (fun ex a' w' => ∃ e st' M', ex = exOf e ∧ StM k N K B st' M' a' w' ∧ Q e st' M') a w

theorem StM.back {st st' : AS} {M : MM} {I : Nat → Prop} {m : Mp} {a' : Act} {w w' : World} (H : HM K M I m st.hp w) (E0 : Ext B.I K B.m B.hp B.w I m st.hp w) (S : StR k N (KM K M) ⟨I, m, st.hp, w⟩ st' a' w') : StM k N K B st' M a' w' := by
  obtain ⟨I', m', G', E', hf, hs, hd⟩ := S
  exact ⟨I', m', ⟨G', fun b o hb => (E'.keep b (.inr (.inr (by rw [hb]; rfl)))).trans (H.at' b o hb), H.nk⟩, E0.trans (E'.weaken fun b => .inl), hf, hs, hd⟩

theorem T_ord (hm : P.follows .mixedOrders = true) (hE : EqLaw P E.eq) (hC : OrcOk P call) {c : Code} {st : AS} {M : MM} {Q : Ex → AS → MM → Prop} (hs : slotsIn N c = true) (h : W P E k call c st (fun e s => Q e s M)) : T P k N K B c st M Q := by
  obtain ⟨n, e, st', h1, h2⟩ := h
  rintro a w ⟨I, m, H, E0, hf, hsz, hdf⟩
  exact evC_ok hm hE hC n c hs (B := ⟨I, m, st.hp, w⟩) (K := KM K M) ⟨I, m, H.gam, .refl _ _ _ _ _, hf, hsz, hdf⟩ h1 fun a' w' S' => ⟨e, st', M, rfl, S'.elim fun _ _ => StM.back H E0 S', h2⟩

def thenT (Nx : AS → MM → Prop) (Q : Ex → AS → MM → Prop) : Ex → AS → MM → Prop
  | .normal, s, M => Nx s M
  | e, s, M => Q e s M
theorem T.mono {c : Code} {st : AS} {M : MM} {Q Q' : Ex → AS → MM → Prop} (h : T P k N K B c st M Q) (hq : ∀ e s M, Q e s M → Q' e s M) : T P k N K B c st M Q' :=
  fun a w S => Code.wp_mono (fun ex a' w' ⟨e, st', M', h1, h2, h3⟩ => ⟨e, st', M', h1, h2, hq _ _ _ h3⟩) (h a w S)
theorem T_seq {x y : Code} {st : AS} {M : MM} {Q : Ex → AS → MM → Prop} (h : T P k N K B x st M (thenT (fun s M => T P k N K B y s M Q) Q)) : T P k N K B (.seq x y) st M Q := by
  intro a w S
  refine wp_seq (Code.wp_mono (fun ex a' w' hh => ?_) (h a w S))
  obtain ⟨e, st', M', rfl, S', hq⟩ := hh
  cases e with
  | normal => exact hq a' w' S'
  | exit i => exact ⟨_, _, _, rfl, S', hq⟩
  | ret => exact ⟨_, _, _, rfl, S', hq⟩
theorem T_cond {c : Operand} {x y : Code} {st : AS} {M : MM} {Q : Ex → AS → MM → Prop} {t : Bool} (hc : opA st.fr c = .sc (.bool t)) (h : T P k N K B (if t then x else y) st M Q) : T P k N K B (.cond c x y) st M Q := by
  intro a w S
  have he : a.eval c = .bool t := by
    obtain ⟨I, m, H, E0, hf, hsz, hdf⟩ := S
    have := opA_ok hf c
    rw [hc] at this
    simpa only [Rep] using this
  exact wp_cond he (by cases t <;> exact h a w S)
def inBlockT (id : Nat) (Q : Ex → AS → MM → Prop) : Ex → AS → MM → Prop
  | .exit i, s, M => if i = id then Q .normal s M else Q (.exit i) s M
  | e, s, M => Q e s M
theorem T_block {id : Nat} {x : Code} {st : AS} {M : MM} {Q : Ex → AS → MM → Prop} (h : T P k N K B x st M (inBlockT id Q)) : T P k N K B (.block id x) st M Q := by
  intro a w S
  refine wp_block (Code.wp_mono (fun ex a' w' hh => ?_) (h a w S))
  obtain ⟨e, st', M', rfl, S', hq⟩ := hh
  cases e with
  | normal => exact ⟨.normal, _, _, rfl, S', hq⟩
  | ret => exact ⟨.ret, _, _, rfl, S', hq⟩
  | exit i =>
    simp only [exOf, Exit.inBlock]
    simp only [inBlockT] at hq
    split
    · rename_i hi
      rw [if_pos hi] at hq
      exact ⟨.normal, _, _, rfl, S', hq⟩
    · rename_i hi
      rw [if_neg hi] at hq
      exact ⟨.exit i, _, _, rfl, S', hq⟩
theorem T_loop {x : Code} {st : AS} {M : MM} {Q : Ex → AS → MM → Prop} (J : Nat → AS → MM → Prop) {n : Nat} (h0 : J n st M) (round : ∀ n s M, J n s M → T P k N K B x s M (thenT (fun s' M' => ∃ j, j < n ∧ J j s' M') Q)) : T P k N K B (.loop x) st M Q := by
  intro a w S
  refine wp_loop (I := fun a w => ∃ n s M, J n s M ∧ StM k N K B s M a w) (μ := fun a w => least fun n => ∃ s M, J n s M ∧ StM k N K B s M a w) ⟨n, st, M, h0, S⟩ ?_
  intro a w hI
  obtain ⟨⟨s, M1, hj, S1⟩, _⟩ := least_spec (p := fun n => ∃ s M, J n s M ∧ StM k N K B s M a w) hI
  refine Code.wp_mono (fun ex a' w' hh => ?_) (round _ s M1 hj a w S1)
  obtain ⟨e, st', M', rfl, S', hq⟩ := hh
  cases e with
  | normal =>
    obtain ⟨j, hlt, hj'⟩ := hq
    exact ⟨⟨j, st', M', hj', S'⟩, Nat.lt_of_le_of_lt ((least_spec (p := fun n => ∃ s M, J n s M ∧ StM k N K B s M a' w') ⟨j, st', M', hj', S'⟩).2 j ⟨st', M', hj', S'⟩) hlt⟩
  | exit i => exact ⟨_, _, _, rfl, S', hq⟩
  | ret => exact ⟨_, _, _, rfl, S', hq⟩
theorem T_skip {st : AS} {M : MM} {Q : Ex → AS → MM → Prop} (h : Q .normal st M) : T P k N K B .skip st M Q := fun a w S => wp_skip ⟨.normal, st, M, rfl, S, h⟩
theorem T_ret {st : AS} {M : MM} {Q : Ex → AS → MM → Prop} (h : Q .ret st M) : T P k N K B .ret st M Q := fun a w S => wp_ret ⟨.ret, st, M, rfl, S, h⟩
theorem T_exit {id : Nat} {st : AS} {M : MM} {Q : Ex → AS → MM → Prop} (h : Q (.exit id) st M) : T P k N K B (.exit id) st M Q := fun a w S => wp_exit ⟨.exit id, st, M, rfl, S, h⟩

/-! ### operations one by one -/
/-- Operations in text order, from the n-th of a region on. -/
def To (P : Program) (k N : Nat) (K : Nat → Prop) (B : Base) (all : Array Oper) (n : Nat) (os : List Oper) (st : AS) (M : MM) (Q : Ex → AS → MM → Prop) : Prop :=
  (∀ j, os[j]? = all[n + j]?) → ∀ a w, StM k N K B st M a w → wpOps P all (fun ex a' w' => ∃ e st' M', ex = exOf e ∧ StM k N K B st' M' a' w' ∧ Q e st' M') (List.range' n os.length) a w
theorem T_region {id : Nat} {l : List Oper} {st : AS} {M : MM} {Q : Ex → AS → MM → Prop} (h : To P k N K B l.toArray 0 l st M Q) : T P k N K B (.region id l.toArray false) st M Q := by
  intro a w S
  refine wp_region ?_
  have := h (by simp) a w S
  rwa [show List.range l.toArray.size = List.range' 0 l.length by rw [List.range_eq_range']; simp]
theorem To_nil {all : Array Oper} {n : Nat} {st : AS} {M : MM} {Q : Ex → AS → MM → Prop} (h : Q .normal st M) : To P k N K B all n [] st M Q := fun _ a w S => ⟨.normal, st, M, rfl, S, h⟩
/-- What an operation comes to, in the world. -/
theorem To_op {all : Array Oper} {n : Nat} {o : Oper} {os : List Oper} {st : AS} {M : MM} {Q : Ex → AS → MM → Prop} (hg : o.guard = none)
    (h : ∀ a w, StM k N K B st M a w → OpR P o a w (fun u w' => ∃ st' M', StM k N K B st' M' (a.put o.dst u) w' ∧ To P k N K B all (n + 1) os st' M' Q)) : To P k N K B all n (o :: os) st M Q := by
  intro hl a w S
  have h0 : all[n]? = some o := by simpa using (hl 0).symm
  have hl' : ∀ j, os[j]? = all[n + 1 + j]? := fun j => by have := hl (j + 1); simpa [Nat.add_assoc, Nat.add_comm 1 j] using this
  simp only [List.length_cons, List.range'_succ, wpOps, h0]
  rw [if_pos (by unfold Region.wanted; rw [hg])]
  refine .inl ((h a w S).wp fun u w' ⟨st', M', S', hT⟩ => hT hl' _ _ S')
theorem To_u (hE : EqLaw P E.eq) (hC : OrcOk P call) {all : Array Oper} {n d : Nat} {op : Op} {ty : TypeId} {pos : String} {aft : Array Edge} {os : List Oper} {fr : Nat → AV} {hp hp' : Hp} {v : AV} {M : MM} {Q : Ex → AS → MM → Prop}
    (h : (evOp P E k call fr ⟨some d, op, ty, pos, aft, none⟩).run hp = some (v, hp')) (hd : d < N) (r : To P k N K B all (n + 1) os ⟨setd fr (some d) v, hp'⟩ M Q) : To P k N K B all n (⟨some d, op, ty, pos, aft, none⟩ :: os) ⟨fr, hp⟩ M Q := by
  refine To_op rfl ?_
  rintro a w ⟨I, m, H, E0, hf, hsz, hdf⟩
  have S : StR k N (KM K M) ⟨I, m, hp, w⟩ ⟨fr, hp⟩ a w := ⟨I, m, H.gam, .refl _ _ _ _ _, hf, hsz, hdf⟩
  have := S.op hE hC (o := ⟨some d, op, ty, pos, aft, none⟩) (fun x hx => by cases hx; exact hd) h
  unfold OpR at this ⊢
  have key : ∀ u w', StR k N (KM K M) ⟨I, m, hp, w⟩ ⟨setd fr (some d) v, hp'⟩ (a.put (some d) u) w' → ∃ st' M', StM k N K B st' M' (a.put (some d) u) w' ∧ To P k N K B all (n + 1) os st' M' Q :=
    fun u w' S' => ⟨_, M, StM.back (st := ⟨fr, hp⟩) H E0 S', r⟩
  split at this
  · exact key _ _ this
  · exact key _ _ this
  · exact this.mono fun e w' he => by obtain ⟨u, e1, h2⟩ := he; exact ⟨u, e1, key _ _ h2⟩
  · exact this.elim
theorem To_n (hE : EqLaw P E.eq) (hC : OrcOk P call) {all : Array Oper} {n : Nat} {op : Op} {ty : TypeId} {pos : String} {aft : Array Edge} {os : List Oper} {fr : Nat → AV} {hp hp' : Hp} {v : AV} {M : MM} {Q : Ex → AS → MM → Prop}
    (h : (evOp P E k call fr ⟨none, op, ty, pos, aft, none⟩).run hp = some (v, hp')) (r : To P k N K B all (n + 1) os ⟨fr, hp'⟩ M Q) : To P k N K B all n (⟨none, op, ty, pos, aft, none⟩ :: os) ⟨fr, hp⟩ M Q := by
  refine To_op rfl ?_
  rintro a w ⟨I, m, H, E0, hf, hsz, hdf⟩
  have S : StR k N (KM K M) ⟨I, m, hp, w⟩ ⟨fr, hp⟩ a w := ⟨I, m, H.gam, .refl _ _ _ _ _, hf, hsz, hdf⟩
  have := S.op hE hC (o := ⟨none, op, ty, pos, aft, none⟩) (fun x hx => by cases hx) h
  unfold OpR at this ⊢
  have key : ∀ u w', StR k N (KM K M) ⟨I, m, hp, w⟩ ⟨fr, hp'⟩ (a.put none u) w' → ∃ st' M', StM k N K B st' M' (a.put none u) w' ∧ To P k N K B all (n + 1) os st' M' Q :=
    fun u w' S' => ⟨_, M, StM.back (st := ⟨fr, hp⟩) H E0 S', r⟩
  split at this
  · exact key _ _ this
  · exact key _ _ this
  · exact this.mono fun e w' he => by obtain ⟨u, e1, h2⟩ := he; exact ⟨u, e1, key _ _ h2⟩
  · exact this.elim
end
end Go.Ab

namespace Go.Ab
open Go
set_option linter.unusedSimpArgs false
set_option linter.unusedVariables false
open Go.ChangeMaps (setBlock)

section
variable {P : Program} {I K : Nat → Prop} {M : MM} {m : Mp} {hp : Hp} {w : World} {k : Nat}

theorem Gam.lessK {K' : Nat → Prop} (G : Gam I K m hp w) (h : ∀ b, K' b → K b) : Gam I K' m hp w where
  obj := fun x => by
    have := G.obj x
    cases ho : hp x with
    | no g => trivial
    | box g cells fz =>
      rw [ho] at this
      obtain ⟨b, c, us, T, mk, h1, h2, h3, h4, h5, h6⟩ := this
      exact ⟨b, c, us, T, mk, h1, h2, h3, h4, h5, fun hf => ⟨(h6 hf).1, fun hk => (h6 hf).2 (h _ hk)⟩⟩
    | arr g sz e rows fz =>
      rw [ho] at this
      rcases this with h1 | ⟨b, cap, us, mk, h1, h2, h3, h4, h5, h6, h7, h8, h9⟩
      · exact .inl h1
      · exact .inr ⟨b, cap, us, mk, h1, h2, h3, h4, h5, h6, h7, h8, fun hf => ⟨(h9 hf).1, fun hk => (h9 hf).2 (h _ hk)⟩⟩
  inj := G.inj
  ilt := G.ilt
  klt := fun b hb => G.klt b (h b hb)
  ik := fun b hb hk => G.ik b hb (h b hk)
/-- The block of a live object is not one that is kept. -/
theorem Gam.notK (G : Gam I K m hp w) {x : Nm} (hl : (hp x).live = true) {p : Nat × Nat} (hm : m x = some p) : ¬ K p.1 := by
  have h := G.obj x
  cases ho : hp x with
  | no g => rw [ho] at hl; simp [AObj.live] at hl
  | box g c f =>
    rw [ho] at h
    obtain ⟨b, c, us, T, mk, h1, h2, h3, h4, h5, h6⟩ := h
    rw [h1] at hm; cases hm
    cases f with
    | true => exact G.ik _ (h5 rfl).1
    | false => exact (h6 rfl).2
  | arr g sz e rows f =>
    rw [ho] at h
    rcases h with ⟨h1, _⟩ | ⟨b, cap, us, mk, h1, h2, h3, h4, h5, h6, h7, h8, h9⟩
    · rw [h1] at hm; cases hm
    · rw [h1] at hm; cases hm
      cases f with
      | true => exact G.ik _ (h8 rfl)
      | false => exact (h9 rfl).2
theorem Ext.world {w' : World} (W : WX I K w w') : Ext I K m hp w I m hp w' :=
  { isub := fun _ h => h, keep := W.keep, size := W.size, os := W.os, tape := W.tape, output := W.output, gmono := fun _ => Nat.le_refl _, stable := fun x _ => (by cases hp x <;> simp <;> exact ⟨_, _, ⟨rfl, rfl⟩, Nat.le_refl _⟩) }

/-- A map's block turns. -/
theorem HM.set (H : HM K M I m hp w) {b : Nat} {o o' : Obj} (hb : M b = some o) {w' : World} (ho : w'.heap[b]? = some o') (hoth : ∀ c, c ≠ b → w'.heap[c]? = w.heap[c]?) (hsz : w'.heap.size = w.heap.size)
    (hos : w'.os = w.os) (htp : w'.tape = w.tape) (hout : w'.output = w.output) : HM K (mset M b o') I m hp w' ∧ Ext I K m hp w I m hp w' := by
  have hKb : KM K M b := .inr (by rw [hb]; rfl)
  have hI : ∀ c, I c → c ≠ b := fun c hc e => H.gam.ik c hc (e ▸ hKb)
  have hKM : KM K (mset M b o') = KM K M := by
    funext c
    unfold KM mset
    by_cases e : c = b
    · subst e; rw [hb]; simp
    · simp [e]
  have hKne : ∀ c, K c → c ≠ b := fun c hc e => H.nk b (by rw [hb]; rfl) (e ▸ hc)
  have E : Ext I K m hp w I m hp w' := .world ⟨fun c hc => hoth c (hc.elim (hI c) (hKne c)), by omega, hos, htp, hout⟩
  have E2 : Ext I (fun c => KM K M c ∧ c ≠ b) m hp w I m hp w' := .world ⟨fun c hc => hoth c (hc.elim (hI c) (·.2)), by omega, hos, htp, hout⟩
  have G2 := (H.gam.lessK (K' := fun c => KM K M c ∧ c ≠ b) fun c h => h.1).step E2 (fun _ => False) (fun y _ => ⟨rfl, rfl⟩) (fun y h => h.elim)
    (fun y _ hl q hq => hoth _ fun e => H.gam.notK hl hq (e ▸ hKb)) (fun y _ hl _ q hq hn => hn) H.gam.inj (fun c hc => by rw [hsz]; exact H.gam.ilt c hc) (fun c hc hk => H.gam.ik c hc hk.1)
  refine ⟨⟨?_, fun c oc hc => ?_, fun c hc hk => ?_⟩, E⟩
  · rw [hKM]
    exact {
      obj := fun x => by
        have := G2.obj x
        cases hox : hp x with
        | no g => trivial
        | box g cells fz =>
          rw [hox] at this
          obtain ⟨b', c, us, T, mk, h1, h2, h3, h4, h5, h6⟩ := this
          have hnk := H.gam.notK (x := x) (by rw [hox]; rfl) h1
          exact ⟨b', c, us, T, mk, h1, h2, h3, h4, h5, fun hf => ⟨(h6 hf).1, hnk⟩⟩
        | arr g sz e rows fz =>
          rw [hox] at this
          rcases this with h1 | ⟨b', cap, us, mk, h1, h2, h3, h4, h5, h6, h7, h8, h9⟩
          · exact .inl h1
          · have hnk := H.gam.notK (x := x) (by rw [hox]; rfl) h1
            exact .inr ⟨b', cap, us, mk, h1, h2, h3, h4, h5, h6, h7, h8, fun hf => ⟨(h9 hf).1, hnk⟩⟩
      inj := G2.inj
      ilt := G2.ilt
      klt := fun c hc => by rw [hsz]; exact H.gam.klt c hc
      ik := H.gam.ik }
  · by_cases e : c = b
    · subst e; rw [mset_same] at hc; cases hc; exact ho
    · rw [mset_other M o' e] at hc; rw [hoth c e]; exact H.at' c oc hc
  · by_cases e : c = b
    · subst e; exact hKne c hk rfl
    · rw [mset_other M o' e] at hc; exact H.nk c hc hk
/-- A new block, for a map or an iterator. -/
theorem HM.new (H : HM K M I m hp w) (o : Obj) : M w.heap.size = none ∧ HM K (mset M w.heap.size o) I m hp (w.alloc o) ∧ Ext I K m hp w I m hp (w.alloc o) := by
  have hn : M w.heap.size = none := by
    cases h : M w.heap.size with
    | none => rfl
    | some ob => have := H.at' _ _ h; simp at this
  have hW : WX I (KM K M) w (w.alloc o) := .alloc o H.gam.ilt H.gam.klt
  have E : Ext I (KM K M) m hp w I m hp (w.alloc o) := .world hW
  have G2 := H.gam.step E (fun _ => False) (fun y _ => ⟨rfl, rfl⟩) (fun y h => h.elim) (fun y _ hl q hq => heap_old w o (H.gam.blk hl hq)) (fun y _ hl _ q hq hn => hn) H.gam.inj
    (fun c hc => Nat.lt_of_lt_of_le (H.gam.ilt c hc) hW.size) H.gam.ik
  refine ⟨hn, ⟨?_, fun c oc hc => ?_, fun c hc hk => ?_⟩, E.weaken fun b => .inl⟩
  · have key : ∀ c, KM K (mset M w.heap.size o) c → KM K M c ∨ c = w.heap.size := by
      intro c hc
      rcases hc with hc | hc
      · exact .inl (.inl hc)
      · by_cases e : c = w.heap.size
        · exact .inr e
        · rw [mset_other M o e] at hc; exact .inl (.inr hc)
    exact {
      obj := fun x => by
        have := G2.obj x
        cases hox : hp x with
        | no g => trivial
        | box g cells fz =>
          rw [hox] at this
          obtain ⟨b', c, us, T, mk, h1, h2, h3, h4, h5, h6⟩ := this
          have hlt := H.gam.blk (x := x) (by rw [hox]; rfl) h1
          exact ⟨b', c, us, T, mk, h1, h2, h3, h4, h5, fun hf => ⟨(h6 hf).1, fun hk => (key _ hk).elim (h6 hf).2 (fun e => by simp at hlt; omega)⟩⟩
        | arr g sz e rows fz =>
          rw [hox] at this
          rcases this with h1 | ⟨b', cap, us, mk, h1, h2, h3, h4, h5, h6, h7, h8, h9⟩
          · exact .inl h1
          · have hlt := H.gam.blk (x := x) (by rw [hox]; rfl) h1
            exact .inr ⟨b', cap, us, mk, h1, h2, h3, h4, h5, h6, h7, h8, fun hf => ⟨(h9 hf).1, fun hk => (key _ hk).elim (h9 hf).2 (fun e => by simp at hlt; omega)⟩⟩
      inj := G2.inj
      ilt := G2.ilt
      klt := fun c hc => by
        rw [size_new]
        rcases key c hc with h | h
        · have := H.gam.klt c h; omega
        · omega
      ik := fun c hc hk => (key c hk).elim (H.gam.ik c hc) (fun e => by have := H.gam.ilt c hc; omega) }
  · by_cases e : c = w.heap.size
    · subst e; rw [mset_same] at hc; cases hc; exact heap_new w o
    · rw [mset_other M o e] at hc
      have := H.at' c oc hc
      rw [heap_old w o (Array.getElem?_eq_some_iff.1 this).1]; exact this
  · by_cases e : c = w.heap.size
    · subst e; exact Nat.lt_irrefl _ (H.gam.klt _ (.inl hk))
    · rw [mset_other M o e] at hc; exact H.nk c hc hk
/-- A draw more. -/
theorem HM.drew (H : HM K M I m hp w) : HM K M I m hp w.drew ∧ Ext I K m hp w I m hp w.drew := by
  have hW : WX I (KM K M) w w.drew := ⟨fun _ _ => rfl, Nat.le_refl _, rfl, rfl, rfl⟩
  have E : Ext I (KM K M) m hp w I m hp w.drew := .world hW
  have G2 := H.gam.step E (fun _ => False) (fun y _ => ⟨rfl, rfl⟩) (fun y h => h.elim) (fun y _ hl q hq => rfl) (fun y _ hl _ q hq hn => hn) H.gam.inj H.gam.ilt H.gam.ik
  exact ⟨⟨G2, H.at', H.nk⟩, E.weaken fun b => .inl⟩
end
end Go.Ab

namespace Go.Ab
open Go
set_option linter.unusedSimpArgs false
set_option linter.unusedVariables false
open Go.ChangeMaps (setBlock)
open Go.MapKept (IsKey findNow_spec heap_set)

abbrev ik (n : Int) : Value := .int .i64 n
/-- A map's entries: the keys are just those of S, and each has its own stamp. -/
structure MapOk (es : Array MapEntry) (clock : Nat) (S : List Int) : Prop where
  keys : es.toList.map (·.key) = S.map ik
  born : ∀ x ∈ es.toList, x.born < clock
  nodup : (es.toList.map (·.born)).Nodup
theorem isKey_ik (n : Int) : IsKey (.int .i64) (ik n) := rfl
theorem MapOk.empty : MapOk #[] 0 [] := ⟨rfl, by simp, by simp⟩
theorem MapOk.isKey {es : Array MapEntry} {clock : Nat} {S : List Int} (h : MapOk es clock S) : ∀ x ∈ es.toList, IsKey (.int .i64) x.key := by
  intro x hx
  have : x.key ∈ es.toList.map (·.key) := List.mem_map.2 ⟨x, hx, rfl⟩
  rw [h.keys] at this
  obtain ⟨n, _, e⟩ := List.mem_map.1 this
  rw [← e]; rfl
theorem MapOk.mem {es : Array MapEntry} {clock : Nat} {S : List Int} (h : MapOk es clock S) {n : Int} : n ∈ S ↔ ∃ x ∈ es.toList, x.key = ik n := by
  constructor
  · intro hn
    have : ik n ∈ es.toList.map (·.key) := by rw [h.keys]; exact List.mem_map.2 ⟨n, hn, rfl⟩
    obtain ⟨x, hx, e⟩ := List.mem_map.1 this
    exact ⟨x, hx, e⟩
  · rintro ⟨x, hx, e⟩
    have : x.key ∈ es.toList.map (·.key) := List.mem_map.2 ⟨x, hx, rfl⟩
    rw [h.keys] at this
    obtain ⟨m, hm, e2⟩ := List.mem_map.1 this
    rw [e] at e2
    cases e2
    exact hm
theorem MapOk.push {es : Array MapEntry} {clock : Nat} {S : List Int} (h : MapOk es clock S) (n : Int) (v : Value) : MapOk (es.push { key := ik n, val := v, born := clock }) (clock + 1) (S ++ [n]) where
  keys := by simp [h.keys]
  born := by
    intro x hx
    simp only [Array.toList_push, List.mem_append, List.mem_singleton] at hx
    rcases hx with hx | rfl
    · have := h.born x hx; omega
    · exact Nat.lt_succ_self _
  nodup := by
    simp only [Array.toList_push, List.map_append, List.map_cons, List.map_nil]
    refine List.nodup_append.2 ⟨h.nodup, by simp, ?_⟩
    intro a ha b hb
    simp only [List.mem_singleton] at hb
    subst hb
    obtain ⟨x, hx, rfl⟩ := List.mem_map.1 ha
    exact Nat.ne_of_lt (h.born x hx)
theorem MapOk.erase {es : Array MapEntry} {clock : Nat} {S : List Int} (h : MapOk es clock S) (j : Nat) (hj : j < es.size) : MapOk (es.eraseIdxIfInBounds j) clock (S.eraseIdx j) where
  keys := by
    unfold Array.eraseIdxIfInBounds
    rw [dif_pos hj]
    simp only [Array.toList_eraseIdx]
    rw [ChangeMaps.map_eraseIdx, h.keys, ← ChangeMaps.map_eraseIdx]
  born := by
    intro x hx
    unfold Array.eraseIdxIfInBounds at hx
    rw [dif_pos hj] at hx
    simp only [Array.toList_eraseIdx] at hx
    exact h.born x ((List.eraseIdx_sublist _ _).subset hx)
  nodup := by
    unfold Array.eraseIdxIfInBounds
    rw [dif_pos hj]
    simp only [Array.toList_eraseIdx]
    exact h.nodup.sublist ((List.eraseIdx_sublist _ _).map _)

section
variable {P : Program} {K : Nat → Prop} {k N : Nat} {B : Base} {all : Array Oper} {n : Nat} {ty : TypeId} {pos : String} {aft : Array Edge} {os : List Oper} {fr : Nat → AV} {hp : Hp} {M : MM} {Q : Ex → AS → MM → Prop}

theorem StM.val {st : AS} {a : Act} {w : World} (S : StM k N K B st M a w) {x : Operand} {v : Value} (h : opA st.fr x = .sc v) : a.eval x = v := by
  obtain ⟨I, m, H, E0, hf, hsz, hdf⟩ := S
  have := opA_ok hf x
  rw [h] at this
  simpa only [Rep] using this
theorem StM.heap {st : AS} {a : Act} {w : World} (S : StM k N K B st M a w) {b : Nat} {o : Obj} (h : M b = some o) : w.heap[b]? = some o := by
  obtain ⟨I, m, H, _⟩ := S
  exact H.at' b o h
theorem StM.turn {st : AS} {a : Act} {w w' : World} (S : StM k N K B st M a w) {b : Nat} {o o' : Obj} (hb : M b = some o) (ho : w'.heap[b]? = some o') (hoth : ∀ c, c ≠ b → w'.heap[c]? = w.heap[c]?) (hsz : w'.heap.size = w.heap.size)
    (hos : w'.os = w.os) (htp : w'.tape = w.tape) (hout : w'.output = w.output) : StM k N K B st (mset M b o') a w' := by
  obtain ⟨I, m, H, E0, hf, hs, hdf⟩ := S
  obtain ⟨H', E'⟩ := H.set hb ho hoth hsz hos htp hout
  exact ⟨I, m, H', E0.trans E', fun t => Rep.mono E' _ _ _ (hf t), hs, hdf⟩
theorem StM.setBlock {st : AS} {a : Act} {w : World} (S : StM k N K B st M a w) {b : Nat} {o o' : Obj} (hb : M b = some o) : StM k N K B st (mset M b o') a (setBlock w b o') := by
  have hw := S.heap hb
  exact S.turn hb (heap_set hw).1 (heap_set hw).2 (by simp [ChangeMaps.setBlock]) rfl rfl rfl
theorem StM.drew {st : AS} {a : Act} {w : World} (S : StM k N K B st M a w) : StM k N K B st M a w.drew := by
  obtain ⟨I, m, H, E0, hf, hs, hdf⟩ := S
  obtain ⟨H', E'⟩ := H.drew
  exact ⟨I, m, H', E0.trans E', fun t => Rep.mono E' _ _ _ (hf t), hs, hdf⟩
theorem StM.alloc {st : AS} {a : Act} {w : World} (S : StM k N K B st M a w) (o : Obj) : M w.heap.size = none ∧ StM k N K B st (mset M w.heap.size o) a (w.alloc o) := by
  obtain ⟨I, m, H, E0, hf, hs, hdf⟩ := S
  obtain ⟨hn, H', E'⟩ := H.new o
  exact ⟨hn, I, m, H', E0.trans E', fun t => Rep.mono E' _ _ _ (hf t), hs, hdf⟩
theorem StM.put {st : AS} {a : Act} {w : World} (S : StM k N K B st M a w) {d : Nat} (hd : d < N) {v : AV} {u : Value} (hv : ∀ D I m hp w, Rep D I m hp w v u) : StM k N K B ⟨setd st.fr (some d) v, st.hp⟩ M (a.put (some d) u) w := by
  obtain ⟨I, m, H, E0, hf, hs, hdf⟩ := S
  exact ⟨I, m, H, E0, setd_ok (d := some d) hf (hv _ _ _ _ _) (fun x hx => by rw [hs]; exact Option.some.inj hx ▸ hd), by rw [put_size]; exact hs, by rw [put_defers]; exact hdf⟩
theorem rep_sc {v : Value} (D : Nat) (I : Nat → Prop) (m : Mp) (hp : Hp) (w : World) : Rep D I m hp w (.sc v) v := by simp only [Rep]
theorem rep_tup {vs : List Value} (D : Nat) (I : Nat → Prop) (m : Mp) (hp : Hp) (w : World) : Rep D I m hp w (.tup (vs.map .sc)) (.tuple ⟨vs⟩) := by
  simp only [Rep]
  refine ⟨vs, rfl, ?_⟩
  rw [RepL_iff]
  refine ⟨by simp, fun i a u ha hu => ?_⟩
  rw [List.getElem?_map, hu] at ha
  cases ha
  simp only [Rep]

/-- make(map). -/
theorem To_makeMap {d : Nat} {t : TypeId} (hd : d < N) (r : ∀ b, M b = none → To P k N K B all (n + 1) os ⟨setd fr (some d) (.sc (.map (some b))), hp⟩ (mset M b (.map #[] 0)) Q) :
    To P k N K B all n (⟨some d, .makeMap t none, ty, pos, aft, none⟩ :: os) ⟨fr, hp⟩ M Q := by
  refine To_op rfl fun a w S => ?_
  unfold OpR
  have hrun : (execOp a.eval ⟨some d, .makeMap t none, ty, pos, aft, none⟩).run P w = .ok (.value (.map (some w.heap.size))) (w.alloc (.map #[] 0)) := rfl
  rw [hrun]
  obtain ⟨hn, S'⟩ := S.alloc (.map #[] 0)
  exact ⟨_, _, S'.put hd (v := .sc _) rep_sc, r _ hn⟩
/-- m[key] = v: a new key. -/
theorem To_mapNew {t kt et : TypeId} {xm xk xv : Operand} {b : Nat} {es : Array MapEntry} {clock : Nat} {S : List Int} {key : Int} {v : Value} (ht : P.underlying t = some (.map kt et)) (hk : P.underlying kt = some (.int .i64))
    (h1 : opA fr xm = .sc (.map (some b))) (h2 : opA fr xk = .sc (ik key)) (h3 : opA fr xv = .sc v) (hM : M b = some (.map es clock)) (hok : MapOk es clock S) (hnew : key ∉ S)
    (r : To P k N K B all (n + 1) os ⟨fr, hp⟩ (mset M b (.map (es.push { key := ik key, val := v, born := clock }) (clock + 1))) Q) :
    To P k N K B all n (⟨none, .mapUpdate t xm xk xv, ty, pos, aft, none⟩ :: os) ⟨fr, hp⟩ M Q := by
  refine To_op rfl fun a w St => ?_
  have e1 := St.val h1
  have e2 := St.val h2
  have e3 := St.val h3
  have hb := St.heap hM
  unfold OpR
  have hrun : (execOp a.eval ⟨none, .mapUpdate t xm xk xv, ty, pos, aft, none⟩).run P w = .ok .skip (setBlock w b (.map (es.push { key := ik key, val := v, born := clock }) (clock + 1))) := by
    rcases findNow_spec (isKey_ik key) es.toList 0 hok.isKey with ⟨hf, _⟩ | ⟨j, e, hf, hj, he⟩
    · simp [execOp, e1, e2, e3, Instr.mapUpdate, run_underlying ht, MapKept.run_getObj_map hb, MapKept.run_checkKey hk (isKey_ik key), MapKept.run_findKey hk hf, MapKept.run_setObj_map _ hb, Result.andThen, ChangeMaps.setBlock]
    · exact (hnew (hok.mem.2 ⟨e, List.mem_of_getElem? hj, he⟩)).elim
  rw [hrun]
  exact ⟨_, _, St.setBlock hM, r⟩
/-- delete(m, key): one that is there. -/
theorem To_delete {t kt et kt' : TypeId} {xm xk : Operand} {b : Nat} {es : Array MapEntry} {clock : Nat} {S : List Int} {key : Int} (ht : P.underlying t = some (.map kt et)) (hk : P.underlying kt = some (.int .i64))
    (h1 : opA fr xm = .sc (.map (some b))) (h2 : opA fr xk = .sc (ik key)) (hM : M b = some (.map es clock)) (hok : MapOk es clock S) (hin : key ∈ S)
    (r : ∀ j es', S[j]? = some key → MapOk es' clock (S.eraseIdx j) → To P k N K B all (n + 1) os ⟨fr, hp⟩ (mset M b (.map es' clock)) Q) :
    To P k N K B all n (⟨none, .call { callee := .builtin .delete, args := #[xm, xk], argTypes := #[t, kt'] }, ty, pos, aft, none⟩ :: os) ⟨fr, hp⟩ M Q := by
  refine To_op rfl fun a w St => ?_
  have e1 := St.val h1
  have e2 := St.val h2
  have hb := St.heap hM
  unfold OpR
  rcases findNow_spec (isKey_ik key) es.toList 0 hok.isKey with ⟨_, hno⟩ | ⟨j, e, hf, hj, he⟩
  · obtain ⟨x, hx, e⟩ := hok.mem.1 hin
    exact (hno x hx e).elim
  · have hjs : j < es.size := by have := (List.getElem?_eq_some_iff.1 hj).1; simpa using this
    have hS : S[j]? = some key := by
      have h3 : (es.toList.map (·.key))[j]? = some (ik key) := by rw [List.getElem?_map, hj]; simp [he]
      rw [hok.keys, List.getElem?_map] at h3
      cases hs : S[j]? with
      | none => rw [hs] at h3; simp at h3
      | some z => rw [hs] at h3; simp at h3; rw [h3]
    have hrun : (execOp a.eval ⟨none, .call { callee := .builtin .delete, args := #[xm, xk], argTypes := #[t, kt'] }, ty, pos, aft, none⟩).run P w = .ok (.value (.tuple #[])) (setBlock w b (.map (es.eraseIdxIfInBounds j) clock)) := by
      have hf' : Instr.findNow (.int .i64) (ik key) es.toList 0 = some (some (j, e.val)) := by simpa using hf
      simp [execOp, resolve, invoke, builtin, e1, e2, Builtin.delete_, run_underlying ht, MapKept.run_getObj_map hb, MapKept.run_checkKey hk (isKey_ik key), MapKept.run_findKey hk hf', MapKept.run_setObj_map _ hb, Result.andThen, ChangeMaps.setBlock]
    rw [hrun]
    exact ⟨_, _, St.setBlock hM, r j _ hS (hok.erase j hjs)⟩
/-- range m: the iterator. -/
theorem To_rangeNil {d : Nat} {t kt et : TypeId} {xm : Operand} (hd : d < N) (ht : P.underlying t = some (.map kt et)) (h1 : opA fr xm = .sc (.map none))
    (r : ∀ b, M b = none → To P k N K B all (n + 1) os ⟨setd fr (some d) (.sc (.pointer (some ⟨b, 0, none⟩))), hp⟩ (mset M b (.mapIter none 0 #[] 0)) Q) :
    To P k N K B all n (⟨some d, .range t xm, ty, pos, aft, none⟩ :: os) ⟨fr, hp⟩ M Q := by
  refine To_op rfl fun a w S => ?_
  have e1 := S.val h1
  unfold OpR
  have hrun : (execOp a.eval ⟨some d, .range t xm, ty, pos, aft, none⟩).run P w = .ok (.value (.pointer (some ⟨w.heap.size, 0, none⟩))) (w.alloc (.mapIter none 0 #[] 0)) := by
    simp [execOp, e1, run_range_nilMap w t kt et ht]
  rw [hrun]
  obtain ⟨hn, S'⟩ := S.alloc (.mapIter none 0 #[] 0)
  exact ⟨_, _, S'.put hd (v := .sc _) rep_sc, r _ hn⟩
theorem To_range {d : Nat} {t kt et : TypeId} {xm : Operand} {c : Nat} {es : Array MapEntry} {clock : Nat} (hd : d < N) (ht : P.underlying t = some (.map kt et)) (h1 : opA fr xm = .sc (.map (some c))) (hM : M c = some (.map es clock))
    (r : ∀ b, M b = none → To P k N K B all (n + 1) os ⟨setd fr (some d) (.sc (.pointer (some ⟨b, 0, none⟩))), hp⟩ (mset M b (.mapIter (some c) clock #[] clock)) Q) :
    To P k N K B all n (⟨some d, .range t xm, ty, pos, aft, none⟩ :: os) ⟨fr, hp⟩ M Q := by
  refine To_op rfl fun a w S => ?_
  have e1 := S.val h1
  have hb := S.heap hM
  unfold OpR
  have hrun : (execOp a.eval ⟨some d, .range t xm, ty, pos, aft, none⟩).run P w = .ok (.value (.pointer (some ⟨w.heap.size, 0, none⟩))) (w.alloc (.mapIter (some c) clock #[] clock)) := by
    simp [execOp, e1, run_range_map w t kt et c es clock ht hb]
  rw [hrun]
  obtain ⟨hn, S'⟩ := S.alloc (.mapIter (some c) clock #[] clock)
  exact ⟨_, _, S'.put hd (v := .sc _) rep_sc, r _ hn⟩
/-- The next round, of none. -/
theorem To_nextNil {d : Nat} {xi : Operand} {b : Nat} {x y : Nat} {s : Array Nat} (hd : d < N) (h1 : opA fr xi = .sc (.pointer (some ⟨b, 0, none⟩))) (hM : M b = some (.mapIter none x s y))
    (r : To P k N K B all (n + 1) os ⟨setd fr (some d) (.tup [.sc (.bool false)]), hp⟩ M Q) :
    To P k N K B all n (⟨some d, .next xi false, ty, pos, aft, none⟩ :: os) ⟨fr, hp⟩ M Q := by
  refine To_op rfl fun a w S => ?_
  have e1 := S.val h1
  have hb := S.heap hM
  unfold OpR
  have hrun : (execOp a.eval ⟨some d, .next xi false, ty, pos, aft, none⟩).run P w = .ok (.value (.tuple #[.bool false])) w := by
    simp only [execOp, e1]
    simp [Instr.next, getObj, Sem.run_bind, Sem.run, hb, Result.andThen]
  rw [hrun]
  exact ⟨_, _, S.put hd (v := .tup [.sc (.bool false)]) (rep_tup (vs := [.bool false])), r⟩
/-- The next round: over, if none is left; else any one that is left. -/
theorem To_next {d : Nat} {xi : Operand} {b c since c0 : Nat} {seen : Array Nat} {es : Array MapEntry} {clock : Nat} (hd : d < N) (h1 : opA fr xi = .sc (.pointer (some ⟨b, 0, none⟩))) (hM : M b = some (.mapIter (some c) since seen c0))
    (hM2 : M c = some (.map es clock)) (hold : ∀ x ∈ es.toList, x.born < since) (hsc : since ≤ c0)
    (r0 : (leftOf es seen).size = 0 → To P k N K B all (n + 1) os ⟨setd fr (some d) (.tup [.sc (.bool false)]), hp⟩ M Q)
    (r1 : ∀ e ∈ (leftOf es seen).toList, To P k N K B all (n + 1) os ⟨setd fr (some d) (.tup [.sc (.bool true), .sc e.key, .sc e.val]), hp⟩ (mset M b (.mapIter (some c) since (seen.push e.born) clock)) Q) :
    To P k N K B all n (⟨some d, .next xi false, ty, pos, aft, none⟩ :: os) ⟨fr, hp⟩ M Q := by
  refine To_op rfl fun a w S => ?_
  have e1 := S.val h1
  have hb := S.heap hM
  have hb2 := S.heap hM2
  unfold OpR
  rcases run_next_at (P := P) w ty b c since c0 seen es clock hb hb2 hold hsc with ⟨h0, hrun⟩ | ⟨e, he, w1, hal, hrun⟩
  · have hr : (execOp a.eval ⟨some d, .next xi false, ty, pos, aft, none⟩).run P w = .ok (.value (.tuple #[.bool false])) w := by
      simp only [execOp, e1]
      simp [hrun]
    rw [hr]
    exact ⟨_, _, S.put hd (v := .tup [.sc (.bool false)]) (rep_tup (vs := [.bool false])), r0 h0⟩
  · have hr : (execOp a.eval ⟨some d, .next xi false, ty, pos, aft, none⟩).run P w = .ok (.value (.tuple #[.bool true, e.key, e.val])) (setBlock w1 b (.mapIter (some c) since (seen.push e.born) clock)) := by
      simp only [execOp, e1]
      simp [hrun]
    rw [hr]
    have S1 : StM k N K B ⟨fr, hp⟩ M a w1 := by
      rcases hal with rfl | rfl
      · exact S
      · exact S.drew
    exact ⟨_, _, (S1.setBlock hM).put hd (v := .tup [.sc (.bool true), .sc e.key, .sc e.val]) (rep_tup (vs := [.bool true, e.key, e.val])), r1 e he⟩
/-- The round's key and value. -/
theorem To_entry {d : Nat} {xi : Operand} {b c since : Nat} {seen : Array Nat} {es : Array MapEntry} {clock : Nat} {e : MapEntry} (hd : d < N) (h1 : opA fr xi = .sc (.pointer (some ⟨b, 0, none⟩))) (hM : M b = some (.mapIter (some c) since (seen.push e.born) clock))
    (hM2 : M c = some (.map es clock)) (he : e ∈ es.toList) (hn : (es.toList.map (·.born)).Nodup)
    (r : To P k N K B all (n + 1) os ⟨setd fr (some d) (.tup [.sc e.key, .sc e.val]), hp⟩ M Q) :
    To P k N K B all n (⟨some d, .entry xi, ty, pos, aft, none⟩ :: os) ⟨fr, hp⟩ M Q := by
  refine To_op rfl fun a w S => ?_
  have e1 := S.val h1
  have hb := S.heap hM
  have hb2 := S.heap hM2
  unfold OpR
  have hr : (execOp a.eval ⟨some d, .entry xi, ty, pos, aft, none⟩).run P w = .ok (.value (.tuple #[e.key, e.val])) w := by
    simp only [execOp, e1]
    simp [run_entry_at (P := P) w b c since seen es clock e hb hb2 he hn]
  rw [hr]
  exact ⟨_, _, S.put hd (v := .tup [.sc e.key, .sc e.val]) (rep_tup (vs := [e.key, e.val])), r⟩
/-- A call of a function without results, on the caller's heap and maps. -/
theorem To_call {d f : Nat} {args : Array Operand} {tys : Array TypeId} {fn : Func} {c : Code} {Qc : Hp → MM → Prop} (hd : d < N) (hok : okFn P f = true) (hfn : P.funcs[f]? = some fn) (hb : fn.body = some c) (hbo : bodyOk fn = true) (hl : args.size = fn.params.size) (hres : fn.results = #[])
    (body : ∀ N' B', N' = fn.ntmps → T P (k + 1) N' K B' c ⟨frame0 (args.toList.map (opA fr)), hp⟩ M (fun e st' M' => (∀ i, e ≠ .exit i) ∧ Qc st'.hp M'))
    (r : ∀ hp' M', Qc hp' M' → To P k N K B all (n + 1) os ⟨setd fr (some d) (.tup []), hp'⟩ M' Q) :
    To P k N K B all n (⟨some d, .call { callee := .value (.func f), args := args, argTypes := tys }, ty, pos, aft, none⟩ :: os) ⟨fr, hp⟩ M Q := by
  refine To_op rfl fun a w S => ?_
  obtain ⟨I, m, H, E0, hf, hsz, hdf⟩ := S
  unfold OpR
  have hrun : (execOp a.eval ⟨some d, .call { callee := .value (.func f), args := args, argTypes := tys }, ty, pos, aft, none⟩).run P w = .ok (.enter f (args.map a.eval)) w := by
    unfold okFn at hok
    rw [hfn] at hok
    simp only [Bool.and_eq_true, Bool.not_eq_true'] at hok
    have hb : fn.body ≠ none := fun hq => by simp [hq] at hok
    have hnm : fn.name ≠ "runtime.NumGoroutine" := by simpa using hok.2
    simp [execOp, resolve, Act.eval, Deferred.ofValue, invoke, callFunc, hfn, hnm, hb]
  rw [hrun]
  have hall : AllR (Rep k I m hp w) (args.toList.map (opA fr)) (args.toList.map a.eval) := by
    refine ⟨by simp, fun j x u h1 h2 => ?_⟩
    rw [List.getElem?_map] at h1 h2
    cases hj : args.toList[j]? with
    | none => rw [hj] at h1; cases h1
    | some z => rw [hj] at h1 h2; cases h1; cases h2; exact opA_ok hf z
  have harr : (⟨args.toList.map a.eval⟩ : Array Value) = args.map a.eval := by apply Array.ext'; simp
  simp only
  rw [← harr]
  unfold bodyOk at hbo
  rw [hb] at hbo
  simp only [Bool.and_eq_true, decide_eq_true_eq] at hbo
  obtain ⟨⟨⟨hs1, hs2⟩, hs3⟩, hs4⟩ := hbo
  refine calls_of_wp hfn hb ?_
  have S0 : StM (k + 1) fn.ntmps K ⟨I, m, hp, w⟩ ⟨frame0 (args.toList.map (opA fr)), hp⟩ M { tmps := (⟨args.toList.map a.eval⟩ : Array Value) ++ Array.replicate (fn.ntmps - (⟨args.toList.map a.eval⟩ : Array Value).size) undef, defers := [] } w := by
    refine ⟨I, m, H, .refl _ _ _ _ _, fun t => frame_ok (hall.imp fun a u h => Rep.depth (Nat.le_succ k) a u h) t, ?_, rfl⟩
    simp only [Array.size_append, List.size_toArray, Array.size_replicate, List.length_map, Array.length_toList]
    omega
  refine Code.wp_mono (fun ex a' w' hh => ?_) (body fn.ntmps ⟨I, m, hp, w⟩ rfl _ w S0)
  obtain ⟨e, st', M', rfl, S', hne, hq⟩ := hh
  have hfin : a'.defers = [] ∧ ∃ v, (results fn a'.tmps).run P w' = .ok v w' ∧ ∃ u, Ending.returned v = .returned u ∧ ∃ st' M', StM k N K B st' M' (a.put (some d) u) w' ∧ To P k N K B all (n + 1) os st' M' Q := by
    obtain ⟨I', m', H', E', _, _, hd'⟩ := S'
    refine ⟨hd', _, run_results fn a'.tmps [] (by rw [hres]; rfl), _, rfl, ⟨setd fr (some d) (.tup []), st'.hp⟩, M', ?_, r _ _ hq⟩
    refine ⟨I', m', H', E0.trans E', setd_ok (d := some d) (fun t => Rep.mono E' _ _ _ (hf t)) (rep_tup (vs := []) _ _ _ _ _) (fun x hx => by rw [hsz]; exact Option.some.inj hx ▸ hd), by rw [put_size]; exact hsz, by rw [put_defers]; exact hdf⟩
  cases e with
  | normal => exact hfin
  | exit i => exact (hne i rfl).elim
  | ret => exact hfin
end
end Go.Ab

namespace Go.Proofs.Ytmfhdhiaokejdaa
open Go Go.Ab
set_option linter.unusedSimpArgs false
set_option linter.unusedVariables false
def E0 : Cfg := ⟨fun _ => false, fun _ => false⟩
@[simp] theorem E0_hp (f : Nat) : E0.hp f = false := rfl
@[simp] theorem E0_eq (f : Nat) : E0.eq f = false := rfl
def X0 : Orc := ⟨fun _ _ => none, fun _ _ _ _ _ => none⟩
theorem X0_ok : OrcOk Try.prog X0 := ⟨fun f args rs h => by simp [X0] at h, fun k d f args hp v hp' h => by simp [X0] at h⟩
theorem E0_law : EqLaw Try.prog E0.eq := fun t h => by simp at h
theorem mixed0 : Try.prog.follows .mixedOrders = true := by kernel_rfl
theorem call0_ok : OrcOk Try.prog (lim Try.prog E0 X0) := lim_ok mixed0 E0_law X0_ok
theorem thenT_n {Nx : AS → MM → Prop} {Q : Ex → AS → MM → Prop} {s : AS} {M : MM} (h : Nx s M) : thenT Nx Q .normal s M := h
theorem thenT_r {Nx : AS → MM → Prop} {Q : Ex → AS → MM → Prop} {s : AS} {M : MM} (h : Q .ret s M) : thenT Nx Q .ret s M := h
theorem thenT_e {Nx : AS → MM → Prop} {Q : Ex → AS → MM → Prop} {s : AS} {M : MM} {i : Nat} (h : Q (.exit i) s M) : thenT Nx Q (.exit i) s M := h
theorem T_ct {P : Program} {k N : Nat} {K : Nat → Prop} {B : Base} {c : Operand} {x y : Code} {st : AS} {M : MM} {Q : Ex → AS → MM → Prop} (hc : opA st.fr c = .sc (.bool true)) (h : T P k N K B x st M Q) : T P k N K B (.cond c x y) st M Q := T_cond hc h
theorem T_cf {P : Program} {k N : Nat} {K : Nat → Prop} {B : Base} {c : Operand} {x y : Code} {st : AS} {M : MM} {Q : Ex → AS → MM → Prop} (hc : opA st.fr c = .sc (.bool false)) (h : T P k N K B y st M Q) : T P k N K B (.cond c x y) st M Q := T_cond hc h
theorem inT_n {Q : Ex → AS → MM → Prop} {s : AS} {M : MM} {i : Nat} (h : Q .normal s M) : inBlockT i Q .normal s M := h
theorem inT_e {Q : Ex → AS → MM → Prop} {s : AS} {M : MM} {i : Nat} (h : Q .normal s M) : inBlockT i Q (.exit i) s M := by simp [inBlockT, h]
theorem wrapN0 {k : Nat} (h : k < 9223372036854775807) : IntKind.i64.wrap ((k : Int) + 1) = (k : Int) + 1 := wrap64 (by omega) (by omega)

set_option maxHeartbeats 1000000 in
@[simp] theorem e39 (n : Int)  : (lim Try.prog E0 X0).dat 39 [iv n] = some [bv (setsB n)] := by
  refine fnW Try.func39 rfl rfl bodyOk_39 rfl rtys_39 rfl ?_
  repeat' (first
    | ((with_reducible apply Wo_u); (conv => lhs; simp -implicitDefEqProofs [*]) <;> exact rfl)
    | ((with_reducible apply Wo_n); (conv => lhs; simp -implicitDefEqProofs [*]) <;> exact rfl)
    | (with_reducible apply Wo_nil)
    | ((with_reducible apply Wo_gt); (exact rfl); ((conv => lhs; simp -implicitDefEqProofs [*]) <;> exact rfl); (conv => lhs; simp -implicitDefEqProofs [*]) <;> exact rfl)
    | ((with_reducible apply Wo_gf); (exact rfl); ((conv => lhs; simp -implicitDefEqProofs [*]) <;> exact rfl); (exact rfl))
    | ((with_reducible apply Wo_gx); (exact rfl); ((conv => lhs; simp -implicitDefEqProofs [*]) <;> exact rfl))
    | ((with_reducible apply Wo_gsT); (exact rfl); ((conv => lhs; simp -implicitDefEqProofs [*]) <;> exact rfl))
    | ((with_reducible apply Wo_gsF); (exact rfl); ((conv => lhs; simp -implicitDefEqProofs [*]) <;> exact rfl))
    | ((with_reducible apply ex2); (conv => lhs; simp -implicitDefEqProofs [*]) <;> exact rfl)
    | (with_reducible apply W_ss) | (with_reducible apply W_srl) | (with_reducible apply W_rl)
    | ((with_reducible apply W_sc); (conv => lhs; simp -implicitDefEqProofs [*]) <;> exact rfl)
    | ((with_reducible apply W_c); (conv => lhs; simp -implicitDefEqProofs [*]) <;> exact rfl)
    | ((with_reducible apply W_srdl); kernel_rfl) | ((with_reducible apply W_rdl); kernel_rfl)
    | ((with_reducible apply Wd_u); (conv => lhs; simp -implicitDefEqProofs [*]) <;> exact rfl)
    | ((with_reducible apply Wd_n); (conv => lhs; simp -implicitDefEqProofs [*]) <;> exact rfl)
    | ((with_reducible apply Wd_nil); exact rfl)
    | ((with_reducible apply Wd_gsT); (exact rfl); ((conv => lhs; simp -implicitDefEqProofs [*]) <;> exact rfl))
    | ((with_reducible apply Wd_gsF); (exact rfl); ((conv => lhs; simp -implicitDefEqProofs [*]) <;> exact rfl))
    | ((with_reducible apply ex4); (conv => lhs; simp -implicitDefEqProofs [*]) <;> exact rfl)
    | (with_reducible apply W_sblock) | (with_reducible apply W_block) | (with_reducible apply W_sskip) | (with_reducible apply W_skip) | (with_reducible apply W_sret) | (with_reducible apply W_ret) | (with_reducible apply W_sexit) | (with_reducible apply W_exit)
    | (with_reducible apply thenW_n) | (with_reducible apply thenW_r) | (with_reducible apply thenW_e) | (with_reducible apply inB_n) | (with_reducible apply inB_r) | (with_reducible apply inB_e) | ((with_reducible apply inB_o); rotate_left; exact rfl)
    | ((with_reducible apply EndQ_ret); (conv => lhs; simp -implicitDefEqProofs [*]) <;> exact rfl) | ((with_reducible apply EndQ_normal); (conv => lhs; simp -implicitDefEqProofs [*]) <;> exact rfl)
    | (intro h h'; try simp [*, -h] at h'))
  all_goals simp [setsB, *]
set_option maxHeartbeats 1000000 in
@[simp] theorem e30 (op d a b k base size n : Int)  : (lim Try.prog E0 X0).dat 30 [.agg [iv op, iv d, iv a, iv b, iv k, iv base, iv size, .sc (.int .u32 n)]] = some [iv (setsZ op d)] := by
  refine fnW Try.func30 rfl rfl bodyOk_30 rfl rtys_30 rfl ?_
  repeat' (first
    | ((with_reducible apply Wo_u); (conv => lhs; simp -implicitDefEqProofs [*]) <;> exact rfl)
    | ((with_reducible apply Wo_n); (conv => lhs; simp -implicitDefEqProofs [*]) <;> exact rfl)
    | (with_reducible apply Wo_nil)
    | ((with_reducible apply Wo_gt); (exact rfl); ((conv => lhs; simp -implicitDefEqProofs [*]) <;> exact rfl); (conv => lhs; simp -implicitDefEqProofs [*]) <;> exact rfl)
    | ((with_reducible apply Wo_gf); (exact rfl); ((conv => lhs; simp -implicitDefEqProofs [*]) <;> exact rfl); (exact rfl))
    | ((with_reducible apply Wo_gx); (exact rfl); ((conv => lhs; simp -implicitDefEqProofs [*]) <;> exact rfl))
    | ((with_reducible apply Wo_gsT); (exact rfl); ((conv => lhs; simp -implicitDefEqProofs [*]) <;> exact rfl))
    | ((with_reducible apply Wo_gsF); (exact rfl); ((conv => lhs; simp -implicitDefEqProofs [*]) <;> exact rfl))
    | ((with_reducible apply ex2); (conv => lhs; simp -implicitDefEqProofs [*]) <;> exact rfl)
    | (with_reducible apply W_ss) | (with_reducible apply W_srl) | (with_reducible apply W_rl)
    | ((with_reducible apply W_sc); (conv => lhs; simp -implicitDefEqProofs [*]) <;> exact rfl)
    | ((with_reducible apply W_c); (conv => lhs; simp -implicitDefEqProofs [*]) <;> exact rfl)
    | ((with_reducible apply W_srdl); kernel_rfl) | ((with_reducible apply W_rdl); kernel_rfl)
    | ((with_reducible apply Wd_u); (conv => lhs; simp -implicitDefEqProofs [*]) <;> exact rfl)
    | ((with_reducible apply Wd_n); (conv => lhs; simp -implicitDefEqProofs [*]) <;> exact rfl)
    | ((with_reducible apply Wd_nil); exact rfl)
    | ((with_reducible apply Wd_gsT); (exact rfl); ((conv => lhs; simp -implicitDefEqProofs [*]) <;> exact rfl))
    | ((with_reducible apply Wd_gsF); (exact rfl); ((conv => lhs; simp -implicitDefEqProofs [*]) <;> exact rfl))
    | ((with_reducible apply ex4); (conv => lhs; simp -implicitDefEqProofs [*]) <;> exact rfl)
    | (with_reducible apply W_sblock) | (with_reducible apply W_block) | (with_reducible apply W_sskip) | (with_reducible apply W_skip) | (with_reducible apply W_sret) | (with_reducible apply W_ret) | (with_reducible apply W_sexit) | (with_reducible apply W_exit)
    | (with_reducible apply thenW_n) | (with_reducible apply thenW_r) | (with_reducible apply thenW_e) | (with_reducible apply inB_n) | (with_reducible apply inB_r) | (with_reducible apply inB_e) | ((with_reducible apply inB_o); rotate_left; exact rfl)
    | ((with_reducible apply EndQ_ret); (conv => lhs; simp -implicitDefEqProofs [*]) <;> exact rfl) | ((with_reducible apply EndQ_normal); (conv => lhs; simp -implicitDefEqProofs [*]) <;> exact rfl)
    | (intro h h'; try simp [*, -h] at h'))
  all_goals simp [setsZ, *]

/-! ### copies -/
def rowsF (l : List Int) : List (List AV) := l.map fun v => [iv v]
def rowsT (l : List (Option Nat)) : List (List AV) := l.map fun m => [.sc (.map m)]
theorem rowsF_len (l : List Int) : (rowsF l).length = l.length := by simp [rowsF]
theorem rowsT_len (l : List (Option Nat)) : (rowsT l).length = l.length := by simp [rowsT]
theorem rowsF_get (l : List Int) (i : Nat) : (rowsF l)[i]? = (l[i]?).map fun v => [iv v] := by simp [rowsF]
theorem rowsT_get (l : List (Option Nat)) (i : Nat) : (rowsT l)[i]? = (l[i]?).map fun v => [.sc (.map v)] := by simp [rowsT]
theorem rowsF_set (l : List Int) (i : Nat) (x : Int) : (rowsF l).set i [iv x] = rowsF (l.set i x) := by simp [rowsF, List.map_set]
theorem rowsT_set (l : List (Option Nat)) (i : Nat) (x : Option Nat) : (rowsT l).set i [.sc (.map x)] = rowsT (l.set i x) := by simp [rowsT, List.map_set]
abbrev nC : Nm := ⟨0, 5, 0⟩
abbrev nF : Nm := ⟨0, 5, 1⟩
abbrev nT : Nm := ⟨0, 5, 2⟩
/-- The struct copies, in the heap. -/
structure CS (hp : Hp) (g gf gt : Nat) (l : List Int) (to : List (Option Nat)) : Prop where
  box : hp nC = .box g [.own nF gf l.length, .own nT gt to.length] false
  from' : hp nF = .arr gf 1 3 (rowsF l) false
  to' : hp nT = .arr gt 1 78 (rowsT to) false
/-- Of each register: those that are copies of it. -/
structure CpOk (M : MM) (l : List Int) (to : List (Option Nat)) : Prop where
  len : to.length = l.length
  rng : ∀ (v : Nat) x, l[v]? = some x → 0 ≤ x ∧ x < l.length
  nil : ∀ (s : Nat), to[s]? = some none → ∀ v : Nat, l[v]? = some (s : Int) → v = s
  map : ∀ (s : Nat) b, to[s]? = some (some b) → ∃ es clock S, M b = some (.map es clock) ∧ MapOk es clock S ∧ S.Nodup ∧ ∀ n : Int, n ∈ S ↔ ∃ v : Nat, n = v ∧ l[v]? = some (s : Int) ∧ v ≠ s
  inj : ∀ (s s' : Nat) b, to[s]? = some (some b) → to[s']? = some (some b) → s = s'
def fwdForget (l : List Int) (d : Nat) : List Int := (l.mapIdx fun v x => if x = (d : Int) then (v : Int) else x).set d d
end Go.Proofs.Ytmfhdhiaokejdaa

namespace Go.Proofs.Ytmfhdhiaokejdaa
open Go Go.Ab
set_option linter.unusedSimpArgs false
set_option linter.unusedVariables false
theorem forget_len (l : List Int) (d : Nat) : (fwdForget l d).length = l.length := by simp [fwdForget]
theorem forget_get (l : List Int) (d v : Nat) : (fwdForget l d)[v]? = if v = d ∧ d < l.length then some (d : Int) else (l[v]?).map fun x => if x = (d : Int) then (v : Int) else x := by
  unfold fwdForget
  rw [List.getElem?_set, List.length_mapIdx]
  by_cases h : d = v
  · subst h
    by_cases hd : d < l.length
    · simp [hd]
    · simp [hd, List.getElem?_eq_none (Nat.le_of_not_lt hd)]
  · have h' : v ≠ d := fun e => h e.symm
    simp [h, h', List.getElem?_mapIdx]
theorem forget_set (l : List Int) (d : Nat) : fwdForget (l.set d d) d = fwdForget l d := by
  apply List.ext_getElem?
  intro v
  rw [forget_get, forget_get, List.length_set, List.getElem?_set]
  by_cases h : v = d
  · subst h
    by_cases hd : v < l.length
    · simp [hd]
    · simp [hd, List.getElem?_eq_none (Nat.le_of_not_lt hd)]
  · have h' : d ≠ v := fun e => h e.symm
    simp [h, h']
theorem nodup_erase {S : List Int} (h : S.Nodup) {j : Nat} {x : Int} (hj : S[j]? = some x) (n : Int) : n ∈ S.eraseIdx j ↔ n ∈ S ∧ n ≠ x := by
  induction S generalizing j with
  | nil => simp at hj
  | cons a S ih =>
    rw [List.nodup_cons] at h
    cases j with
    | zero =>
      simp at hj
      subst hj
      simp only [List.eraseIdx_cons_zero, List.mem_cons]
      constructor
      · intro hn
        exact ⟨.inr hn, fun e => h.1 (e ▸ hn)⟩
      · rintro ⟨hn | hn, hne⟩
        · exact (hne hn).elim
        · exact hn
    | succ j =>
      have hj' : S[j]? = some x := by simpa using hj
      simp only [List.eraseIdx_cons_succ, List.mem_cons, ih h.2 hj']
      constructor
      · rintro (hn | ⟨hn, hne⟩)
        · subst hn
          exact ⟨.inl rfl, fun e => h.1 (by subst e; exact List.mem_of_getElem? hj')⟩
        · exact ⟨.inr hn, hne⟩
      · rintro ⟨hn | hn, hne⟩
        · exact .inl hn
        · exact .inr ⟨hn, hne⟩
theorem nodup_eraseIdx {S : List Int} (h : S.Nodup) (j : Nat) : (S.eraseIdx j).Nodup := h.sublist (List.eraseIdx_sublist _ _)
/-- A register that is its own: nothing changes. -/
theorem CpOk.same {M : MM} {l : List Int} {to : List (Option Nat)} (h : CpOk M l to) {d : Nat} (hd : l[d]? = some (d : Int)) : l.set d d = l := by
  apply List.ext_getElem?
  intro v
  rw [List.getElem?_set]
  split
  · rename_i e
    subst e
    split
    · exact hd.symm
    · rename_i hlt; rw [List.getElem?_eq_none (Nat.le_of_not_lt hlt)]
  · rfl
/-- The register d, a copy of s, is its own again. -/
theorem CpOk.own {M : MM} {l : List Int} {to : List (Option Nat)} (h : CpOk M l to) {d s b : Nat} (hd : l[d]? = some (s : Int)) (hsd : s ≠ d) (hb : to[s]? = some (some b)) {es' : Array MapEntry} {clock : Nat} {S : List Int} {j : Nat}
    {es : Array MapEntry} (hM : M b = some (.map es clock)) (hok : MapOk es clock S) (hS : S.Nodup) (hmem : ∀ n : Int, n ∈ S ↔ ∃ v : Nat, n = v ∧ l[v]? = some (s : Int) ∧ v ≠ s) (hj : S[j]? = some (d : Int)) (hok' : MapOk es' clock (S.eraseIdx j)) :
    CpOk (mset M b (.map es' clock)) (l.set d d) to := by
  have hdl : d < l.length := (List.getElem?_eq_some_iff.1 hd).1
  have hget : ∀ v : Nat, (l.set d d)[v]? = if v = d then some (d : Int) else l[v]? := by
    intro v
    rw [List.getElem?_set]
    by_cases e : d = v
    · subst e; simp [hdl]
    · have e' : v ≠ d := fun x => e x.symm
      simp [e, e']
  refine ⟨by rw [h.len, List.length_set], fun v x hx => ?_, fun t ht v hv => ?_, fun t b' ht => ?_, h.inj⟩
  · rw [List.length_set]
    rw [hget] at hx
    split at hx
    · cases hx; omega
    · exact h.rng v x hx
  · rw [hget] at hv
    split at hv
    · rename_i e
      have : (d : Int) = t := Option.some.inj hv
      omega
    · exact h.nil t ht v hv
  · obtain ⟨es1, c1, S1, h1, h2, h3, h4⟩ := h.map t b' ht
    by_cases e : b' = b
    · subst e
      have := h.inj _ _ _ ht hb
      subst this
      rw [hM] at h1
      cases h1
      refine ⟨es', clock, S.eraseIdx j, mset_same _ _ _, hok', nodup_eraseIdx hS j, fun n => ?_⟩
      rw [nodup_erase hS hj, hmem]
      constructor
      · rintro ⟨⟨v, rfl, hv, hne⟩, hnd⟩
        have : v ≠ d := fun e => hnd (by rw [e])
        exact ⟨v, rfl, by rw [hget, if_neg this]; exact hv, hne⟩
      · rintro ⟨v, rfl, hv, hne⟩
        rw [hget] at hv
        split at hv
        · have : (d : Int) = t := Option.some.inj hv
          omega
        · rename_i hvd
          exact ⟨⟨v, rfl, hv, hne⟩, fun e => hvd (by omega)⟩
    · refine ⟨es1, c1, S1, by rw [mset_other M _ e]; exact h1, h2, h3, fun n => ?_⟩
      have hts : t ≠ s := fun x => e (by rw [x, hb] at ht; cases ht; rfl)
      rw [h4]
      constructor
      · rintro ⟨v, rfl, hv, hne⟩
        have : v ≠ d := fun e2 => by rw [e2, hd] at hv; have := Option.some.inj hv; omega
        exact ⟨v, rfl, by rw [hget, if_neg this]; exact hv, hne⟩
      · rintro ⟨v, rfl, hv, hne⟩
        rw [hget] at hv
        split at hv
        · have : (d : Int) = t := Option.some.inj hv
          omega
        · exact ⟨v, rfl, hv, hne⟩
/-- Nothing is a copy of d any more. -/
theorem CpOk.forget {M M' : MM} {l : List Int} {to : List (Option Nat)} (h : CpOk M l to) {d : Nat} (hd : l[d]? = some (d : Int)) (hM : ∀ b o, M b = some o → M' b = some o) : CpOk M' (fwdForget l d) (to.set d none) := by
  have hdl : d < l.length := (List.getElem?_eq_some_iff.1 hd).1
  have hget : ∀ v : Nat, (fwdForget l d)[v]? = (l[v]?).map fun x => if x = (d : Int) then (v : Int) else x := by
    intro v
    rw [forget_get]
    split
    · rename_i e
      obtain ⟨rfl, _⟩ := e
      rw [hd]; simp
    · rfl
  refine ⟨by rw [List.length_set, h.len, forget_len], fun v x hx => ?_, fun t ht v hv => ?_, fun t b' ht => ?_, fun s s' b h1 h2 => ?_⟩
  · rw [forget_len]
    rw [hget] at hx
    cases hl : l[v]? with
    | none => rw [hl] at hx; cases hx
    | some y =>
      rw [hl] at hx
      have hlt := (List.getElem?_eq_some_iff.1 hl).1
      have hy := h.rng v y hl
      simp only [Option.map_some, Option.some.injEq] at hx
      split at hx
      · omega
      · omega
  · rw [hget] at hv
    cases hl : l[v]? with
    | none => rw [hl] at hv; cases hv
    | some y =>
      rw [hl] at hv
      simp only [Option.map_some, Option.some.injEq] at hv
      split at hv
      · omega
      · rename_i hyd
        rw [List.getElem?_set] at ht
        split at ht
        · rename_i e; subst e; omega
        · exact h.nil t ht v (by rw [hl, hv])
  · rw [List.getElem?_set] at ht
    split at ht
    · split at ht <;> cases ht
    · rename_i e
      obtain ⟨es1, c1, S1, h1, h2, h3, h4⟩ := h.map t b' ht
      refine ⟨es1, c1, S1, hM _ _ h1, h2, h3, fun n => ?_⟩
      rw [h4]
      constructor
      · rintro ⟨v, rfl, hv, hne⟩
        refine ⟨v, rfl, ?_, hne⟩
        rw [hget, hv]
        simp only [Option.map_some, Option.some.injEq]
        rw [if_neg (by omega)]
      · rintro ⟨v, rfl, hv, hne⟩
        refine ⟨v, rfl, ?_, hne⟩
        rw [hget] at hv
        cases hl : l[v]? with
        | none => rw [hl] at hv; cases hv
        | some y =>
          rw [hl] at hv
          simp only [Option.map_some, Option.some.injEq] at hv
          split at hv
          · omega
          · rw [hv]
  · rw [List.getElem?_set] at h1 h2
    split at h1
    · split at h1 <;> cases h1
    split at h2
    · split at h2 <;> cases h2
    exact h.inj s s' b h1 h2
end Go.Proofs.Ytmfhdhiaokejdaa

namespace Go.Proofs.Ytmfhdhiaokejdaa
open Go Go.Ab
set_option linter.unusedSimpArgs false
set_option linter.unusedVariables false
def SameBut (hp hp0 : Hp) : Prop := ∀ y, y ≠ nF → y ≠ nT → hp y = hp0 y
def Post31 (hp : Hp) (g gf gt : Nat) (l : List Int) (d : Nat) (e : Ex) (st' : AS) (M' : MM) : Prop := (∀ i, e ≠ .exit i) ∧ ∃ to', CS st'.hp g gf gt (fwdForget l d) to' ∧ CpOk M' (fwdForget l d) to' ∧ SameBut st'.hp hp
/-- How far the copies of d are their own again. -/
structure Own (es : Array MapEntry) (S : List Int) (seen : Array Nat) (l cur : List Int) : Prop where
  len : cur.length = l.length
  all : ∀ v : Nat, cur[v]? = l[v]? ∨ ((v : Int) ∈ S ∧ cur[v]? = some (v : Int))
  did : ∀ x ∈ es.toList, seen.contains x.born = true → ∀ v : Nat, x.key = ik v → cur[v]? = some (v : Int)
theorem Own.start (es : Array MapEntry) (S : List Int) (l : List Int) : Own es S #[] l l := ⟨rfl, fun v => .inl rfl, fun x _ h => by simp at h⟩
theorem Own.step {es : Array MapEntry} {S : List Int} {seen : Array Nat} {l cur : List Int} (h : Own es S seen l cur) {clock : Nat} (hok : MapOk es clock S) {e : MapEntry} (he : e ∈ es.toList) {v : Nat} (hv : e.key = ik v) (hlt : v < l.length) : Own es S (seen.push e.born) l (cur.set v v) := by
  have hin : (v : Int) ∈ S := hok.mem.2 ⟨e, he, hv⟩
  have hget : ∀ u : Nat, (cur.set v v)[u]? = if u = v then some (v : Int) else cur[u]? := by
    intro u
    rw [List.getElem?_set]
    by_cases e : v = u
    · subst e; simp [h.len, hlt]
    · have e' : u ≠ v := fun x => e x.symm
      simp [e, e']
  refine ⟨by rw [List.length_set, h.len], fun u => ?_, fun x hx hs u hu => ?_⟩
  · rw [hget]
    split
    · rename_i e; subst e; exact .inr ⟨hin, rfl⟩
    · exact h.all u
  · rw [hget]
    split
    · rename_i e; subst e; rfl
    · rename_i hne
      simp only [Array.contains_push, Bool.or_eq_true, beq_iff_eq] at hs
      rcases hs with hs | hs
      · exact h.did x hx hs u hu
      · exfalso
        have hxe : x = e := by
          have hn := hok.nodup
          obtain ⟨i, hi⟩ := List.getElem?_of_mem hx
          obtain ⟨j, hj⟩ := List.getElem?_of_mem he
          have h1 : (es.toList.map (·.born))[i]? = some x.born := by rw [List.getElem?_map, hi]; rfl
          have h2 : (es.toList.map (·.born))[j]? = some x.born := by rw [List.getElem?_map, hj]; simp [hs]
          have hil := (List.getElem?_eq_some_iff.1 h1).1
          have : i = j := (List.getElem?_inj hil hn).1 (h1.trans h2.symm)
          subst this
          rw [hi] at hj
          exact Option.some.inj hj
        rw [hxe, hv] at hu
        have : (v : Int) = u := by cases hu; rfl
        omega
theorem Own.done {es : Array MapEntry} {S : List Int} {seen : Array Nat} {l cur : List Int} (h : Own es S seen l cur) {clock : Nat} (hok : MapOk es clock S) (h0 : (leftOf es seen).size = 0) {d : Nat} (hd : l[d]? = some (d : Int))
    (hmem : ∀ n : Int, n ∈ S ↔ ∃ v : Nat, n = v ∧ l[v]? = some (d : Int) ∧ v ≠ d) : cur = fwdForget l d := by
  have hall : ∀ x ∈ es.toList, seen.contains x.born = true := by
    intro x hx
    have he : leftOf es seen = #[] := Array.eq_empty_of_size_eq_zero h0
    unfold leftOf at he
    rw [Array.filter_eq_empty_iff] at he
    have := he x (by simpa using hx)
    simpa using this
  apply List.ext_getElem?
  intro v
  rw [forget_get]
  by_cases hvd : v = d
  · subst hvd
    have hdl := (List.getElem?_eq_some_iff.1 hd).1
    rw [if_pos ⟨rfl, hdl⟩]
    rcases h.all v with h1 | ⟨_, h1⟩
    · rw [h1, hd]
    · exact h1
  · rw [if_neg (fun e => hvd e.1)]
    by_cases hin : (v : Int) ∈ S
    · obtain ⟨x, hx, hk⟩ := hok.mem.1 hin
      rw [h.did x hx (hall x hx) v hk]
      obtain ⟨u, hu, hl, _⟩ := (hmem v).1 hin
      have : u = v := by omega
      subst this
      rw [hl]; simp
    · rcases h.all v with h1 | ⟨h2, _⟩
      · rw [h1]
        cases hl : l[v]? with
        | none => rfl
        | some y =>
          simp only [Option.map_some, Option.some.injEq]
          rw [if_neg]
          intro hy
          subst hy
          exact hin ((hmem v).2 ⟨v, rfl, hl, hvd⟩)
      · exact (hin h2).elim
theorem left_less {es : Array MapEntry} {seen : Array Nat} {e : MapEntry} (he : e ∈ (leftOf es seen).toList) : (leftOf es (seen.push e.born)).size < (leftOf es seen).size := by
  have h1 : leftOf es (seen.push e.born) = (leftOf es seen).filter fun x => !(x.born == e.born) := by
    unfold leftOf
    rw [Array.filter_filter]
    congr 1
    funext x
    simp only [Array.contains_push, Bool.not_or, Bool.and_comm]
  rw [h1]
  exact Array.size_filter_lt_size_iff_exists.2 ⟨e, by simpa using he, by simp⟩
set_option maxHeartbeats 2000000 in
theorem t31b {c0 c : Code} (hcode : Try.f31.body = some (.seq c0 c)) (K : Nat → Prop) (B : Base) (fr : Nat → AV) (hp0 hp : Hp) (M : MM) (g gf gt : Nat) (l : List Int) (to : List (Option Nat)) (d : Nat) (hf0 : fr 0 = .ptr nC g 0) (hf1 : fr 1 = iv d) (hc : CS hp g gf gt l to) (hk : CpOk M l to) (hd : l[d]? = some (d : Int)) (hsame : SameBut hp hp0) :
    T Try.prog 1 Try.f31.ntmps K B c ⟨fr, hp⟩ M (Post31 hp0 g gf gt l d) := by
  obtain ⟨h1, h2, h3⟩ := hc
  have hdl : d < l.length := (List.getElem?_eq_some_iff.1 hd).1
  have hdt : d < to.length := by rw [hk.len]; exact hdl
  obtain ⟨md, hmd⟩ : ∃ s, to[d]? = some s := ⟨_, List.getElem?_eq_getElem hdt⟩
  have hg2 : (rowsT to)[d]? = some [.sc (.map md)] := by rw [rowsT_get, hmd]; rfl
  cases hcode
  refine T_seq (T_seq (T_region ?_))
  repeat' (first
    | ((with_reducible apply To_u E0_law call0_ok); ((conv => lhs; simp -implicitDefEqProofs [*]) <;> exact rfl); (decide))
    | ((with_reducible apply To_n E0_law call0_ok); ((conv => lhs; simp -implicitDefEqProofs [*]) <;> exact rfl))
    | (with_reducible apply To_nil) | (with_reducible apply thenT_n) | (with_reducible apply thenT_r) | (with_reducible apply thenT_e))
  cases md with
  | none =>
    have hl : fwdForget l d = l := by
      apply List.ext_getElem?
      intro v
      rw [forget_get]
      split
      · rename_i e; rw [e.1, hd]
      · cases hv : l[v]? with
        | none => rfl
        | some y =>
          simp only [Option.map_some, Option.some.injEq]
          split
          · rename_i hy; subst hy; have := hk.nil d hmd v hv; subst this; rfl
          · rfl
    refine To_rangeNil (by decide) Try.underlying78 (by simp) fun b hb => ?_
    refine To_nil (thenT_n (T_block ?_))
    refine T_loop (n := 0) (fun n s M' => s.fr 38 = .sc (.pointer (some ⟨b, 0, none⟩)) ∧ s.fr 0 = .ptr nC g 0 ∧ s.fr 1 = iv d ∧ s.hp = hp ∧ M' = mset M b (.mapIter none 0 #[] 0)) ⟨by simp, by simp [hf0], by simp [hf1], rfl, rfl⟩ ?_
    rintro n ⟨fr2, hp2⟩ M2 ⟨e38, e0, e1, e5, rfl⟩
    simp only at e38 e0 e1 e5
    subst e5
    refine T_seq (T_region ?_)
    refine To_nextNil (by decide) e38 (mset_same _ _ _) ?_
    repeat' (first
      | ((with_reducible apply To_u E0_law call0_ok); ((conv => lhs; simp -implicitDefEqProofs [*]) <;> exact rfl); (decide))
      | ((with_reducible apply To_n E0_law call0_ok); ((conv => lhs; simp -implicitDefEqProofs [*]) <;> exact rfl))
      | (with_reducible apply To_nil) | (with_reducible apply thenT_n) | (with_reducible apply thenT_r) | (with_reducible apply thenT_e))
    refine T_seq (T_cf (by simp) (T_exit ?_))
    repeat (first | (with_reducible apply thenT_e) | (with_reducible apply thenT_r) | (with_reducible apply inT_e) | (with_reducible apply inT_n) | (with_reducible apply thenT_n))
    refine T_region ?_
    repeat' (first
      | ((with_reducible apply To_u E0_law call0_ok); ((conv => lhs; simp -implicitDefEqProofs [*]) <;> exact rfl); (decide))
      | ((with_reducible apply To_n E0_law call0_ok); ((conv => lhs; simp -implicitDefEqProofs [*]) <;> exact rfl))
      | (with_reducible apply To_nil) | (with_reducible apply thenT_n) | (with_reducible apply thenT_r) | (with_reducible apply thenT_e))
    refine ⟨fun i => nofun, to.set d none, ⟨by simp [*, forget_len], by simp [*], by simp [rowsT_set]⟩, ?_, fun y hy1 hy2 => by simp [hy2, hsame y hy1 hy2]⟩
    exact hk.forget hd (fun b' o hbo => by rw [mset_other M _ (fun e => by rw [e, hb] at hbo; cases hbo)]; exact hbo)
  | some bm =>
    obtain ⟨es, clock, S, hMb, hok, hnd, hmem⟩ := hk.map d bm hmd
    refine To_range (by decide) Try.underlying78 (by simp) hMb fun b hb => ?_
    have hbb : bm ≠ b := fun e => by rw [e, hb] at hMb; cases hMb
    refine To_nil (thenT_n (T_block ?_))
    refine T_loop (n := (leftOf es #[]).size) (fun n s M' => ∃ seen c0 cur, n = (leftOf es seen).size ∧ s.fr 38 = .sc (.pointer (some ⟨b, 0, none⟩)) ∧ s.fr 0 = .ptr nC g 0 ∧ s.fr 1 = iv d ∧ M' b = some (.mapIter (some bm) clock seen c0) ∧ clock ≤ c0 ∧
      (∀ b' o, M b' = some o → M' b' = some o) ∧ Own es S seen l cur ∧ s.hp nC = .box g [.own nF gf l.length, .own nT gt to.length] false ∧ s.hp nF = .arr gf 1 3 (rowsF cur) false ∧ s.hp nT = .arr gt 1 78 (rowsT to) false ∧ SameBut s.hp hp0)
      ⟨#[], clock, l, rfl, by simp, by simp [hf0], by simp [hf1], mset_same _ _ _, Nat.le_refl _, fun b' o hbo => by rw [mset_other M _ (fun e => by rw [e, hb] at hbo; cases hbo)]; exact hbo, .start es S l, h1, h2, h3, hsame⟩ ?_
    rintro n ⟨fr2, hp2⟩ M2 ⟨seen, c0, cur, rfl, e38, e0, e1, hM2, hcc, hMM, hown, k1, k2, k3, hsame2⟩
    simp only at e38 e0 e1 k1 k2 k3 hsame2
    clear h1 h2 h3 hsame hf0 hf1
    refine T_seq (T_region ?_)
    refine To_next (by decide) e38 hM2 (hMM _ _ hMb) hok.born hcc (fun h0 => ?_) (fun e he => ?_)
    · have hfin := hown.done hok h0 hd hmem
      subst hfin
      repeat' (first
        | ((with_reducible apply To_u E0_law call0_ok); ((conv => lhs; simp -implicitDefEqProofs [*]) <;> exact rfl); (decide))
        | ((with_reducible apply To_n E0_law call0_ok); ((conv => lhs; simp -implicitDefEqProofs [*]) <;> exact rfl))
        | (with_reducible apply To_nil) | (with_reducible apply thenT_n) | (with_reducible apply thenT_r) | (with_reducible apply thenT_e))
      refine T_seq (T_cf (by simp) (T_exit ?_))
      repeat (first | (with_reducible apply thenT_e) | (with_reducible apply thenT_r) | (with_reducible apply inT_e) | (with_reducible apply inT_n) | (with_reducible apply thenT_n))
      refine T_region ?_
      repeat' (first
        | ((with_reducible apply To_u E0_law call0_ok); ((conv => lhs; simp -implicitDefEqProofs [*]) <;> exact rfl); (decide))
        | ((with_reducible apply To_n E0_law call0_ok); ((conv => lhs; simp -implicitDefEqProofs [*]) <;> exact rfl))
        | (with_reducible apply To_nil) | (with_reducible apply thenT_n) | (with_reducible apply thenT_r) | (with_reducible apply thenT_e))
      refine ⟨fun i => nofun, to.set d none, ⟨by simp [*, forget_len], by simp [*], by simp [rowsT_set]⟩, ?_, fun y hy1 hy2 => by simp [hy2, hsame2 y hy1 hy2]⟩
      exact hk.forget hd hMM
    · have hes : e ∈ es.toList := by unfold leftOf at he; simp at he ⊢; exact he.1
      obtain ⟨z, hz, hze⟩ : ∃ z, z ∈ S ∧ e.key = ik z := by
        have : e.key ∈ es.toList.map (·.key) := List.mem_map.2 ⟨e, hes, rfl⟩
        rw [hok.keys] at this
        obtain ⟨z, hz, e2⟩ := List.mem_map.1 this
        exact ⟨z, hz, e2.symm⟩
      obtain ⟨v, rfl, hlv, hvd⟩ := (hmem z).1 hz
      have hvl : v < l.length := (List.getElem?_eq_some_iff.1 hlv).1
      have hown2 := hown.step hok hes hze hvl
      have hless := left_less he
      have hcl := hown.len
      repeat' (first
        | ((with_reducible apply To_u E0_law call0_ok); ((conv => lhs; simp -implicitDefEqProofs [*]) <;> exact rfl); (decide))
        | ((with_reducible apply To_n E0_law call0_ok); ((conv => lhs; simp -implicitDefEqProofs [*]) <;> exact rfl))
        | (with_reducible apply To_nil) | (with_reducible apply thenT_n) | (with_reducible apply thenT_r) | (with_reducible apply thenT_e))
      refine T_seq (T_ct (by simp) (T_skip ?_))
      repeat (first | (with_reducible apply thenT_e) | (with_reducible apply thenT_r) | (with_reducible apply inT_e) | (with_reducible apply inT_n) | (with_reducible apply thenT_n))
      refine T_block (T_seq (T_region ?_))
      refine To_entry (by decide) (by simp [e38]) (mset_same _ _ _) (by rw [mset_other _ _ hbb]; exact hMM _ _ hMb) hes hok.nodup ?_
      have hgc : (rowsF cur)[v]? = (cur[v]?).map fun v => [iv v] := rowsF_get cur v
      obtain ⟨cv, hcv⟩ : ∃ cv, cur[v]? = some cv := ⟨_, List.getElem?_eq_getElem (by omega)⟩
      rw [hcv] at hgc
      simp only [Option.map_some] at hgc
      clear hcv
      have hvc : v < cur.length := by omega
      clear hown
      repeat' (first
        | ((with_reducible apply To_u E0_law call0_ok); ((conv => lhs; simp -implicitDefEqProofs [*]) <;> exact rfl); (decide))
        | ((with_reducible apply To_n E0_law call0_ok); ((conv => lhs; simp -implicitDefEqProofs [*]) <;> exact rfl))
        | (with_reducible apply To_nil) | (with_reducible apply thenT_n) | (with_reducible apply thenT_r) | (with_reducible apply thenT_e))
      refine T_region ?_
      repeat' (first
        | ((with_reducible apply To_u E0_law call0_ok); ((conv => lhs; simp -implicitDefEqProofs [*]) <;> exact rfl); (decide))
        | ((with_reducible apply To_n E0_law call0_ok); ((conv => lhs; simp -implicitDefEqProofs [*]) <;> exact rfl))
        | (with_reducible apply To_nil) | (with_reducible apply thenT_n) | (with_reducible apply thenT_r) | (with_reducible apply thenT_e))
      refine inT_n (thenT_n ⟨_, hless, seen.push e.born, clock, cur.set v v, rfl, by simp [e38], by simp [e0], by simp [e1], mset_same _ _ _, Nat.le_refl _, fun b' o hbo => ?_, hown2, by simp [*], by simp [rowsF_set], by simp [*], fun y hy1 hy2 => by simp [hy1, hsame2 y hy1 hy2]⟩)
      rw [mset_other _ _ (fun e => by rw [e, hb] at hbo; cases hbo)]
      exact hMM _ _ hbo
end Go.Proofs.Ytmfhdhiaokejdaa

namespace Go.Proofs.Ytmfhdhiaokejdaa
open Go Go.Ab
set_option linter.unusedSimpArgs false
set_option linter.unusedVariables false
set_option maxHeartbeats 2000000 in
theorem t31 {c : Code} (hcode : Try.f31.body = some c) (K : Nat → Prop) (B : Base) (fr : Nat → AV) (hp : Hp) (M : MM) (g gf gt : Nat) (l : List Int) (to : List (Option Nat)) (d : Nat) (hf0 : fr 0 = .ptr nC g 0) (hf1 : fr 1 = iv d) (hc : CS hp g gf gt l to) (hk : CpOk M l to) (hd : d < l.length) :
    T Try.prog 1 Try.f31.ntmps K B c ⟨fr, hp⟩ M (Post31 hp g gf gt l d) := by
  have hb := t31b (c0 := _) (c := _) rfl K B
  cases hcode
  obtain ⟨h1, h2, h3⟩ := hc
  obtain ⟨s, hs⟩ : ∃ s, l[d]? = some s := ⟨_, List.getElem?_eq_getElem hd⟩
  have hg1 : (rowsF l)[d]? = some [iv s] := by rw [rowsF_get, hs]; rfl
  refine T_seq (T_seq ?_)
  refine T_ord mixed0 E0_law call0_ok (by kernel_rfl) ?_
  repeat' (first
    | ((with_reducible apply Wo_u); (conv => lhs; simp -implicitDefEqProofs [*]) <;> exact rfl)
    | ((with_reducible apply Wo_n); (conv => lhs; simp -implicitDefEqProofs [*]) <;> exact rfl)
    | (with_reducible apply Wo_nil)
    | ((with_reducible apply Wo_gt); (exact rfl); ((conv => lhs; simp -implicitDefEqProofs [*]) <;> exact rfl); (conv => lhs; simp -implicitDefEqProofs [*]) <;> exact rfl)
    | ((with_reducible apply Wo_gf); (exact rfl); ((conv => lhs; simp -implicitDefEqProofs [*]) <;> exact rfl); (exact rfl))
    | ((with_reducible apply Wo_gx); (exact rfl); ((conv => lhs; simp -implicitDefEqProofs [*]) <;> exact rfl))
    | ((with_reducible apply Wo_gsT); (exact rfl); ((conv => lhs; simp -implicitDefEqProofs [*]) <;> exact rfl))
    | ((with_reducible apply Wo_gsF); (exact rfl); ((conv => lhs; simp -implicitDefEqProofs [*]) <;> exact rfl))
    | ((with_reducible apply ex2); (conv => lhs; simp -implicitDefEqProofs [*]) <;> exact rfl)
    | (with_reducible apply W_ss) | (with_reducible apply W_srl) | (with_reducible apply W_rl)
    | ((with_reducible apply W_srdl); kernel_rfl) | ((with_reducible apply W_rdl); kernel_rfl)
    | ((with_reducible apply Wd_u); (conv => lhs; simp -implicitDefEqProofs [*]) <;> exact rfl)
    | ((with_reducible apply Wd_n); (conv => lhs; simp -implicitDefEqProofs [*]) <;> exact rfl)
    | ((with_reducible apply Wd_nil); exact rfl)
    | ((with_reducible apply Wd_gsT); (exact rfl); ((conv => lhs; simp -implicitDefEqProofs [*]) <;> exact rfl))
    | ((with_reducible apply Wd_gsF); (exact rfl); ((conv => lhs; simp -implicitDefEqProofs [*]) <;> exact rfl))
    | ((with_reducible apply ex4); (conv => lhs; simp -implicitDefEqProofs [*]) <;> exact rfl)
    | (with_reducible apply W_sblock) | (with_reducible apply W_block) | (with_reducible apply W_sskip) | (with_reducible apply W_skip) | (with_reducible apply W_sret) | (with_reducible apply W_ret) | (with_reducible apply W_sexit) | (with_reducible apply W_exit)
    | (with_reducible apply thenW_n) | (with_reducible apply thenW_r) | (with_reducible apply thenW_e) | (with_reducible apply inB_n) | (with_reducible apply inB_r) | (with_reducible apply inB_e) | ((with_reducible apply inB_o); rotate_left; exact rfl)
    | ((with_reducible apply EndQ_ret); (conv => lhs; simp -implicitDefEqProofs [*]) <;> exact rfl) | ((with_reducible apply EndQ_normal); (conv => lhs; simp -implicitDefEqProofs [*]) <;> exact rfl)
    | (with_reducible apply thenT_n) | (with_reducible apply thenT_r) | (with_reducible apply thenT_e))
  refine T_seq ?_
  refine T_ord mixed0 E0_law call0_ok (by kernel_rfl) ?_
  repeat' (first
    | ((with_reducible apply Wo_u); (conv => lhs; simp -implicitDefEqProofs [*]) <;> exact rfl)
    | ((with_reducible apply Wo_n); (conv => lhs; simp -implicitDefEqProofs [*]) <;> exact rfl)
    | (with_reducible apply Wo_nil)
    | ((with_reducible apply Wo_gt); (exact rfl); ((conv => lhs; simp -implicitDefEqProofs [*]) <;> exact rfl); (conv => lhs; simp -implicitDefEqProofs [*]) <;> exact rfl)
    | ((with_reducible apply Wo_gf); (exact rfl); ((conv => lhs; simp -implicitDefEqProofs [*]) <;> exact rfl); (exact rfl))
    | ((with_reducible apply Wo_gx); (exact rfl); ((conv => lhs; simp -implicitDefEqProofs [*]) <;> exact rfl))
    | ((with_reducible apply Wo_gsT); (exact rfl); ((conv => lhs; simp -implicitDefEqProofs [*]) <;> exact rfl))
    | ((with_reducible apply Wo_gsF); (exact rfl); ((conv => lhs; simp -implicitDefEqProofs [*]) <;> exact rfl))
    | ((with_reducible apply ex2); (conv => lhs; simp -implicitDefEqProofs [*]) <;> exact rfl)
    | (with_reducible apply W_ss) | (with_reducible apply W_srl) | (with_reducible apply W_rl)
    | ((with_reducible apply W_srdl); kernel_rfl) | ((with_reducible apply W_rdl); kernel_rfl)
    | ((with_reducible apply Wd_u); (conv => lhs; simp -implicitDefEqProofs [*]) <;> exact rfl)
    | ((with_reducible apply Wd_n); (conv => lhs; simp -implicitDefEqProofs [*]) <;> exact rfl)
    | ((with_reducible apply Wd_nil); exact rfl)
    | ((with_reducible apply Wd_gsT); (exact rfl); ((conv => lhs; simp -implicitDefEqProofs [*]) <;> exact rfl))
    | ((with_reducible apply Wd_gsF); (exact rfl); ((conv => lhs; simp -implicitDefEqProofs [*]) <;> exact rfl))
    | ((with_reducible apply ex4); (conv => lhs; simp -implicitDefEqProofs [*]) <;> exact rfl)
    | (with_reducible apply W_sblock) | (with_reducible apply W_block) | (with_reducible apply W_sskip) | (with_reducible apply W_skip) | (with_reducible apply W_sret) | (with_reducible apply W_ret) | (with_reducible apply W_sexit) | (with_reducible apply W_exit)
    | (with_reducible apply thenW_n) | (with_reducible apply thenW_r) | (with_reducible apply thenW_e) | (with_reducible apply inB_n) | (with_reducible apply inB_r) | (with_reducible apply inB_e) | ((with_reducible apply inB_o); rotate_left; exact rfl)
    | ((with_reducible apply EndQ_ret); (conv => lhs; simp -implicitDefEqProofs [*]) <;> exact rfl) | ((with_reducible apply EndQ_normal); (conv => lhs; simp -implicitDefEqProofs [*]) <;> exact rfl)
    | (with_reducible apply thenT_n) | (with_reducible apply thenT_r) | (with_reducible apply thenT_e))
  by_cases hsd : s = (d : Int)
  · subst hsd
    refine T_cf (by simp) (T_skip ?_)
    repeat (first | (with_reducible apply thenT_e) | (with_reducible apply thenT_r) | (with_reducible apply inT_e) | (with_reducible apply inT_n) | (with_reducible apply thenT_n))
    exact hb _ hp hp M g gf gt l to d (by simp [hf0]) (by simp [hf1]) ⟨h1, h2, h3⟩ hk hs (fun y _ _ => rfl)
  · have hsr := hk.rng d s hs
    obtain ⟨sn, rfl⟩ : ∃ sn : Nat, s = sn := ⟨s.toNat, by omega⟩
    have hsn : sn < to.length := by rw [hk.len]; omega
    have hne : sn ≠ d := fun e => hsd (by rw [e])
    obtain ⟨ms, hms⟩ : ∃ m, to[sn]? = some m := ⟨_, List.getElem?_eq_getElem hsn⟩
    cases ms with
    | none => exact (hne (hk.nil sn hms d hs).symm).elim
    | some b =>
      obtain ⟨es, clock, S, hMb, hok, hnd, hmem⟩ := hk.map sn b hms
      have hin : (d : Int) ∈ S := (hmem d).2 ⟨d, rfl, hs, fun e => hne e.symm⟩
      have hg2 : (rowsT to)[sn]? = some [.sc (.map (some b))] := by rw [rowsT_get, hms]; rfl
      refine T_ct (by simp [hsd]) ?_
      refine T_seq (T_region ?_)
      repeat' (first
        | ((with_reducible apply To_u E0_law call0_ok); ((conv => lhs; simp -implicitDefEqProofs [*]) <;> exact rfl); (decide))
        | ((with_reducible apply To_n E0_law call0_ok); ((conv => lhs; simp -implicitDefEqProofs [*]) <;> exact rfl))
        | (with_reducible apply To_nil) | (with_reducible apply thenT_n) | (with_reducible apply thenT_r) | (with_reducible apply thenT_e))
      refine To_delete Try.underlying78 Try.underlying3 (by simp) (by simp) hMb hok hin fun j es' hj hok' => ?_
      refine To_nil (thenT_n ?_)
      have hown := hk.own hs hne hms hMb hok hnd hmem hj hok'
      refine T_ord mixed0 E0_law call0_ok (by kernel_rfl) ?_
      repeat' (first
        | ((with_reducible apply Wo_u); (conv => lhs; simp -implicitDefEqProofs [*]) <;> exact rfl)
        | ((with_reducible apply Wo_n); (conv => lhs; simp -implicitDefEqProofs [*]) <;> exact rfl)
        | (with_reducible apply Wo_nil)
        | ((with_reducible apply Wo_gt); (exact rfl); ((conv => lhs; simp -implicitDefEqProofs [*]) <;> exact rfl); (conv => lhs; simp -implicitDefEqProofs [*]) <;> exact rfl)
        | ((with_reducible apply Wo_gf); (exact rfl); ((conv => lhs; simp -implicitDefEqProofs [*]) <;> exact rfl); (exact rfl))
        | ((with_reducible apply Wo_gx); (exact rfl); ((conv => lhs; simp -implicitDefEqProofs [*]) <;> exact rfl))
        | ((with_reducible apply Wo_gsT); (exact rfl); ((conv => lhs; simp -implicitDefEqProofs [*]) <;> exact rfl))
        | ((with_reducible apply Wo_gsF); (exact rfl); ((conv => lhs; simp -implicitDefEqProofs [*]) <;> exact rfl))
        | ((with_reducible apply ex2); (conv => lhs; simp -implicitDefEqProofs [*]) <;> exact rfl)
        | (with_reducible apply W_ss) | (with_reducible apply W_srl) | (with_reducible apply W_rl)
        | ((with_reducible apply W_srdl); kernel_rfl) | ((with_reducible apply W_rdl); kernel_rfl)
        | ((with_reducible apply Wd_u); (conv => lhs; simp -implicitDefEqProofs [*]) <;> exact rfl)
        | ((with_reducible apply Wd_n); (conv => lhs; simp -implicitDefEqProofs [*]) <;> exact rfl)
        | ((with_reducible apply Wd_nil); exact rfl)
        | ((with_reducible apply Wd_gsT); (exact rfl); ((conv => lhs; simp -implicitDefEqProofs [*]) <;> exact rfl))
        | ((with_reducible apply Wd_gsF); (exact rfl); ((conv => lhs; simp -implicitDefEqProofs [*]) <;> exact rfl))
        | ((with_reducible apply ex4); (conv => lhs; simp -implicitDefEqProofs [*]) <;> exact rfl)
        | (with_reducible apply W_sblock) | (with_reducible apply W_block) | (with_reducible apply W_sskip) | (with_reducible apply W_skip) | (with_reducible apply W_sret) | (with_reducible apply W_ret) | (with_reducible apply W_sexit) | (with_reducible apply W_exit)
        | (with_reducible apply thenW_n) | (with_reducible apply thenW_r) | (with_reducible apply thenW_e) | (with_reducible apply inB_n) | (with_reducible apply inB_r) | (with_reducible apply inB_e) | ((with_reducible apply inB_o); rotate_left; exact rfl)
        | ((with_reducible apply EndQ_ret); (conv => lhs; simp -implicitDefEqProofs [*]) <;> exact rfl) | ((with_reducible apply EndQ_normal); (conv => lhs; simp -implicitDefEqProofs [*]) <;> exact rfl)
        | (with_reducible apply thenT_n) | (with_reducible apply thenT_r) | (with_reducible apply thenT_e))
      refine (hb _ hp _ _ g gf gt (l.set d d) to d (by simp [hf0]) (by simp [hf1]) ⟨by simp [*], by simp [rowsF_set], by simp [*]⟩ hown (by simp [hd]) (fun y hy1 hy2 => by simp [hy1])).mono fun e st' M' hpost => ?_
      unfold Post31 at hpost ⊢
      rw [forget_set] at hpost
      exact hpost
end Go.Proofs.Ytmfhdhiaokejdaa

namespace Go.Proofs.Ytmfhdhiaokejdaa
open Go Go.Ab
set_option linter.unusedSimpArgs false
set_option linter.unusedVariables false
theorem CpOk.fresh {M : MM} {l : List Int} {to : List (Option Nat)} (h : CpOk M l to) {a b : Nat} (ha : to[a]? = some none) (hb : M b = none) : CpOk (mset M b (.map #[] 0)) l (to.set a (some b)) := by
  have hal : a < to.length := (List.getElem?_eq_some_iff.1 ha).1
  have hold : ∀ (t b' : Nat), to[t]? = some (some b') → b' ≠ b := fun t b' ht e => by
    obtain ⟨es, clock, S, h1, _⟩ := h.map t b' ht
    rw [e, hb] at h1
    cases h1
  have hgt : ∀ t : Nat, (to.set a (some b))[t]? = if t = a then some (some b) else to[t]? := by
    intro t
    rw [List.getElem?_set]
    by_cases e : a = t
    · subst e; simp [hal]
    · have e' : t ≠ a := fun x => e x.symm
      simp [e, e']
  refine ⟨by rw [List.length_set, h.len], h.rng, fun t ht v hv => ?_, fun t b' ht => ?_, fun s s' b' h1 h2 => ?_⟩
  · rw [hgt] at ht
    split at ht
    · cases ht
    · exact h.nil t ht v hv
  · rw [hgt] at ht
    split at ht
    · rename_i e
      subst e
      cases ht
      refine ⟨#[], 0, [], mset_same _ _ _, .empty, List.nodup_nil, fun n => ?_⟩
      constructor
      · intro hn; cases hn
      · rintro ⟨v, rfl, hv, hne⟩
        exact (hne (h.nil t ha v hv)).elim
    · obtain ⟨es, clock, S, h1, h2⟩ := h.map t b' ht
      exact ⟨es, clock, S, by rw [mset_other M _ (hold t b' ht)]; exact h1, h2⟩
  · rw [hgt] at h1 h2
    split at h1
    · rename_i e1
      cases h1
      split at h2
      · rename_i e2; rw [e1, e2]
      · exact (hold s' b h2 rfl).elim
    · split at h2
      · cases h2; exact (hold s b h1 rfl).elim
      · exact h.inj s s' b' h1 h2
theorem CpOk.add {M : MM} {l : List Int} {to : List (Option Nat)} (h : CpOk M l to) {d a b : Nat} (hd : l[d]? = some (d : Int)) (had : a ≠ d) (hal : a < l.length) (hb : to[a]? = some (some b)) {es es' : Array MapEntry} {clock clock' : Nat} {S : List Int}
    (hM : M b = some (.map es clock)) (hS : S.Nodup) (hmem : ∀ n : Int, n ∈ S ↔ ∃ v : Nat, n = v ∧ l[v]? = some (a : Int) ∧ v ≠ a) (hok' : MapOk es' clock' (S ++ [(d : Int)])) : CpOk (mset M b (.map es' clock')) (l.set d a) to := by
  have hdl : d < l.length := (List.getElem?_eq_some_iff.1 hd).1
  have hget : ∀ v : Nat, (l.set d a)[v]? = if v = d then some (a : Int) else l[v]? := by
    intro v
    rw [List.getElem?_set]
    by_cases e : d = v
    · subst e; simp [hdl]
    · have e' : v ≠ d := fun x => e x.symm
      simp [e, e']
  refine ⟨by rw [h.len, List.length_set], fun v x hx => ?_, fun t ht v hv => ?_, fun t b' ht => ?_, h.inj⟩
  · rw [List.length_set]
    rw [hget] at hx
    split at hx
    · cases hx; omega
    · exact h.rng v x hx
  · rw [hget] at hv
    split at hv
    · have : (a : Int) = t := Option.some.inj hv
      have e : a = t := by omega
      subst e
      rw [hb] at ht
      cases ht
    · exact h.nil t ht v hv
  · obtain ⟨es1, c1, S1, h1, h2, h3, h4⟩ := h.map t b' ht
    by_cases e : b' = b
    · subst e
      have := h.inj _ _ _ ht hb
      subst this
      have hdS : (d : Int) ∉ S := by
        intro hin
        obtain ⟨v, hv, hl, _⟩ := (hmem d).1 hin
        have : v = d := by omega
        subst this
        rw [hd] at hl
        have := Option.some.inj hl
        omega
      refine ⟨es', clock', S ++ [(d : Int)], mset_same _ _ _, hok', ?_, fun n => ?_⟩
      · exact List.nodup_append.2 ⟨hS, by simp, fun x hx y hy => by simp only [List.mem_singleton] at hy; subst hy; intro e; subst e; exact hdS hx⟩
      · rw [List.mem_append, List.mem_singleton, hmem]
        constructor
        · rintro (⟨v, rfl, hv, hne⟩ | rfl)
          · have : v ≠ d := fun e => by rw [e, hd] at hv; have := Option.some.inj hv; omega
            exact ⟨v, rfl, by rw [hget, if_neg this]; exact hv, hne⟩
          · exact ⟨d, rfl, by rw [hget, if_pos rfl], fun e => had e.symm⟩
        · rintro ⟨v, rfl, hv, hne⟩
          rw [hget] at hv
          split at hv
          · rename_i e; exact .inr (by rw [e])
          · exact .inl ⟨v, rfl, hv, hne⟩
    · refine ⟨es1, c1, S1, by rw [mset_other M _ e]; exact h1, h2, h3, fun n => ?_⟩
      have hta : t ≠ a := fun x => e (by rw [x, hb] at ht; cases ht; rfl)
      rw [h4]
      constructor
      · rintro ⟨v, rfl, hv, hne⟩
        have : v ≠ d := fun e2 => by rw [e2, hd] at hv; have := Option.some.inj hv; omega
        exact ⟨v, rfl, by rw [hget, if_neg this]; exact hv, hne⟩
      · rintro ⟨v, rfl, hv, hne⟩
        rw [hget] at hv
        split at hv
        · have : (a : Int) = t := Option.some.inj hv
          omega
        · exact ⟨v, rfl, hv, hne⟩
def Post32 (hp : Hp) (g gf gt : Nat) (l : List Int) (d a : Nat) (e : Ex) (st' : AS) (M' : MM) : Prop := (∀ i, e ≠ .exit i) ∧ ∃ to', CS st'.hp g gf gt (l.set d a) to' ∧ CpOk M' (l.set d a) to' ∧ SameBut st'.hp hp
set_option maxHeartbeats 2000000 in
theorem t32 {c : Code} (hcode : Try.f32.body = some c) (K : Nat → Prop) (B : Base) (fr : Nat → AV) (hp : Hp) (M : MM) (g gf gt : Nat) (l : List Int) (to : List (Option Nat)) (d a : Nat) (hf0 : fr 0 = .ptr nC g 0) (hf1 : fr 1 = iv d) (hf2 : fr 2 = iv a) (hc : CS hp g gf gt l to) (hk : CpOk M l to) (hd : l[d]? = some (d : Int)) (had : a ≠ d) (hal : a < l.length) :
    T Try.prog 1 Try.f32.ntmps K B c ⟨fr, hp⟩ M (Post32 hp g gf gt l d a) := by
  cases hcode
  obtain ⟨h1, h2, h3⟩ := hc
  have hdl : d < l.length := (List.getElem?_eq_some_iff.1 hd).1
  have hg1 : (rowsF l)[d]? = some [iv d] := by rw [rowsF_get, hd]; rfl
  have hat : a < to.length := by rw [hk.len]; exact hal
  obtain ⟨ma, hma⟩ : ∃ m, to[a]? = some m := ⟨_, List.getElem?_eq_getElem hat⟩
  have hg2 : (rowsT to)[a]? = some [.sc (.map ma)] := by rw [rowsT_get, hma]; rfl
  refine T_seq ?_
  refine T_ord mixed0 E0_law call0_ok (by kernel_rfl) ?_
  repeat' (first
    | ((with_reducible apply Wo_u); (conv => lhs; simp -implicitDefEqProofs [*]) <;> exact rfl)
    | ((with_reducible apply Wo_n); (conv => lhs; simp -implicitDefEqProofs [*]) <;> exact rfl)
    | (with_reducible apply Wo_nil)
    | ((with_reducible apply Wo_gt); (exact rfl); ((conv => lhs; simp -implicitDefEqProofs [*]) <;> exact rfl); (conv => lhs; simp -implicitDefEqProofs [*]) <;> exact rfl)
    | ((with_reducible apply Wo_gf); (exact rfl); ((conv => lhs; simp -implicitDefEqProofs [*]) <;> exact rfl); (exact rfl))
    | ((with_reducible apply Wo_gx); (exact rfl); ((conv => lhs; simp -implicitDefEqProofs [*]) <;> exact rfl))
    | ((with_reducible apply Wo_gsT); (exact rfl); ((conv => lhs; simp -implicitDefEqProofs [*]) <;> exact rfl))
    | ((with_reducible apply Wo_gsF); (exact rfl); ((conv => lhs; simp -implicitDefEqProofs [*]) <;> exact rfl))
    | ((with_reducible apply ex2); (conv => lhs; simp -implicitDefEqProofs [*]) <;> exact rfl)
    | (with_reducible apply W_ss) | (with_reducible apply W_srl) | (with_reducible apply W_rl)
    | ((with_reducible apply W_srdl); kernel_rfl) | ((with_reducible apply W_rdl); kernel_rfl)
    | ((with_reducible apply Wd_u); (conv => lhs; simp -implicitDefEqProofs [*]) <;> exact rfl)
    | ((with_reducible apply Wd_n); (conv => lhs; simp -implicitDefEqProofs [*]) <;> exact rfl)
    | ((with_reducible apply Wd_nil); exact rfl)
    | ((with_reducible apply Wd_gsT); (exact rfl); ((conv => lhs; simp -implicitDefEqProofs [*]) <;> exact rfl))
    | ((with_reducible apply Wd_gsF); (exact rfl); ((conv => lhs; simp -implicitDefEqProofs [*]) <;> exact rfl))
    | ((with_reducible apply ex4); (conv => lhs; simp -implicitDefEqProofs [*]) <;> exact rfl)
    | (with_reducible apply W_sblock) | (with_reducible apply W_block) | (with_reducible apply W_sskip) | (with_reducible apply W_skip) | (with_reducible apply W_sret) | (with_reducible apply W_ret) | (with_reducible apply W_sexit) | (with_reducible apply W_exit)
    | (with_reducible apply thenW_n) | (with_reducible apply thenW_r) | (with_reducible apply thenW_e) | (with_reducible apply inB_n) | (with_reducible apply inB_r) | (with_reducible apply inB_e) | ((with_reducible apply inB_o); rotate_left; exact rfl)
    | ((with_reducible apply EndQ_ret); (conv => lhs; simp -implicitDefEqProofs [*]) <;> exact rfl) | ((with_reducible apply EndQ_normal); (conv => lhs; simp -implicitDefEqProofs [*]) <;> exact rfl)
    | (with_reducible apply thenT_n) | (with_reducible apply thenT_r) | (with_reducible apply thenT_e))
  refine T_seq (T_seq ?_)
  refine T_ord mixed0 E0_law call0_ok (by kernel_rfl) ?_
  repeat' (first
    | ((with_reducible apply Wo_u); (conv => lhs; simp -implicitDefEqProofs [*]) <;> exact rfl)
    | ((with_reducible apply Wo_n); (conv => lhs; simp -implicitDefEqProofs [*]) <;> exact rfl)
    | (with_reducible apply Wo_nil)
    | ((with_reducible apply Wo_gt); (exact rfl); ((conv => lhs; simp -implicitDefEqProofs [*]) <;> exact rfl); (conv => lhs; simp -implicitDefEqProofs [*]) <;> exact rfl)
    | ((with_reducible apply Wo_gf); (exact rfl); ((conv => lhs; simp -implicitDefEqProofs [*]) <;> exact rfl); (exact rfl))
    | ((with_reducible apply Wo_gx); (exact rfl); ((conv => lhs; simp -implicitDefEqProofs [*]) <;> exact rfl))
    | ((with_reducible apply Wo_gsT); (exact rfl); ((conv => lhs; simp -implicitDefEqProofs [*]) <;> exact rfl))
    | ((with_reducible apply Wo_gsF); (exact rfl); ((conv => lhs; simp -implicitDefEqProofs [*]) <;> exact rfl))
    | ((with_reducible apply ex2); (conv => lhs; simp -implicitDefEqProofs [*]) <;> exact rfl)
    | (with_reducible apply W_ss) | (with_reducible apply W_srl) | (with_reducible apply W_rl)
    | ((with_reducible apply W_srdl); kernel_rfl) | ((with_reducible apply W_rdl); kernel_rfl)
    | ((with_reducible apply Wd_u); (conv => lhs; simp -implicitDefEqProofs [*]) <;> exact rfl)
    | ((with_reducible apply Wd_n); (conv => lhs; simp -implicitDefEqProofs [*]) <;> exact rfl)
    | ((with_reducible apply Wd_nil); exact rfl)
    | ((with_reducible apply Wd_gsT); (exact rfl); ((conv => lhs; simp -implicitDefEqProofs [*]) <;> exact rfl))
    | ((with_reducible apply Wd_gsF); (exact rfl); ((conv => lhs; simp -implicitDefEqProofs [*]) <;> exact rfl))
    | ((with_reducible apply ex4); (conv => lhs; simp -implicitDefEqProofs [*]) <;> exact rfl)
    | (with_reducible apply W_sblock) | (with_reducible apply W_block) | (with_reducible apply W_sskip) | (with_reducible apply W_skip) | (with_reducible apply W_sret) | (with_reducible apply W_ret) | (with_reducible apply W_sexit) | (with_reducible apply W_exit)
    | (with_reducible apply thenW_n) | (with_reducible apply thenW_r) | (with_reducible apply thenW_e) | (with_reducible apply inB_n) | (with_reducible apply inB_r) | (with_reducible apply inB_e) | ((with_reducible apply inB_o); rotate_left; exact rfl)
    | ((with_reducible apply EndQ_ret); (conv => lhs; simp -implicitDefEqProofs [*]) <;> exact rfl) | ((with_reducible apply EndQ_normal); (conv => lhs; simp -implicitDefEqProofs [*]) <;> exact rfl)
    | (with_reducible apply thenT_n) | (with_reducible apply thenT_r) | (with_reducible apply thenT_e))
  cases ma with
  | none =>
    refine T_ct (by simp) ?_
    refine T_region ?_
    repeat' (first
      | ((with_reducible apply To_u E0_law call0_ok); ((conv => lhs; simp -implicitDefEqProofs [*]) <;> exact rfl); (decide))
      | ((with_reducible apply To_n E0_law call0_ok); ((conv => lhs; simp -implicitDefEqProofs [*]) <;> exact rfl))
      | (with_reducible apply To_nil) | (with_reducible apply thenT_n) | (with_reducible apply thenT_r) | (with_reducible apply thenT_e))
    refine To_makeMap (by decide) fun b hb => ?_
    have hfr := hk.fresh hma hb
    repeat' (first
      | ((with_reducible apply To_u E0_law call0_ok); ((conv => lhs; simp -implicitDefEqProofs [*]) <;> exact rfl); (decide))
      | ((with_reducible apply To_n E0_law call0_ok); ((conv => lhs; simp -implicitDefEqProofs [*]) <;> exact rfl))
      | (with_reducible apply To_nil) | (with_reducible apply thenT_n) | (with_reducible apply thenT_r) | (with_reducible apply thenT_e))
    have hadd := hfr.add hd had hal (b := b) (by simp [hat]) (mset_same _ _ _) List.nodup_nil (fun n => by
      constructor
      · intro h; cases h
      · rintro ⟨v, rfl, hv, hne⟩; exact (hne (hk.nil a hma v hv)).elim) (MapOk.empty.push d (.bool true))
    have hg3 : ((rowsT to).set a [.sc (.map (some b))])[a]? = some [.sc (.map (some b))] := by simp [rowsT, hat]
    refine T_region ?_
    repeat' (first
      | ((with_reducible apply To_u E0_law call0_ok); ((conv => lhs; simp -implicitDefEqProofs [*]) <;> exact rfl); (decide))
      | ((with_reducible apply To_n E0_law call0_ok); ((conv => lhs; simp -implicitDefEqProofs [*]) <;> exact rfl))
      | (with_reducible apply To_nil) | (with_reducible apply thenT_n) | (with_reducible apply thenT_r) | (with_reducible apply thenT_e))
    refine To_mapNew (key := (d : Int)) (v := .bool true) Try.underlying78 Try.underlying3 (by simp) (by simp) (by simp) (mset_same _ _ _) .empty (by simp) ?_
    refine To_nil ⟨fun i => nofun, to.set a (some b), ⟨by simp [*], by simp [rowsF_set, *], by simp [rowsT_set]⟩, hadd, fun y hy1 hy2 => by simp [hy1, hy2]⟩
  | some b =>
    obtain ⟨es, clock, S, hMb, hok, hnd, hmem⟩ := hk.map a b hma
    have hadd := hk.add hd had hal hma hMb hnd hmem (hok.push d (.bool true))
    refine T_cf (by simp) (T_skip ?_)
    repeat (first | (with_reducible apply thenT_e) | (with_reducible apply thenT_r) | (with_reducible apply inT_e) | (with_reducible apply inT_n) | (with_reducible apply thenT_n))
    refine T_region ?_
    repeat' (first
      | ((with_reducible apply To_u E0_law call0_ok); ((conv => lhs; simp -implicitDefEqProofs [*]) <;> exact rfl); (decide))
      | ((with_reducible apply To_n E0_law call0_ok); ((conv => lhs; simp -implicitDefEqProofs [*]) <;> exact rfl))
      | (with_reducible apply To_nil) | (with_reducible apply thenT_n) | (with_reducible apply thenT_r) | (with_reducible apply thenT_e))
    refine To_mapNew (key := (d : Int)) (v := .bool true) Try.underlying78 Try.underlying3 (by simp) (by simp) (by simp) hMb hok (fun hin => by
      obtain ⟨v, hv, hl, _⟩ := (hmem d).1 hin
      have : v = d := by omega
      subst this
      rw [hd] at hl
      have := Option.some.inj hl
      omega) ?_
    refine To_nil ⟨fun i => nofun, to, ⟨by simp [*], by simp [rowsF_set, *], by simp [*]⟩, hadd, fun y hy1 hy2 => by simp [hy1]⟩
end Go.Proofs.Ytmfhdhiaokejdaa

namespace Go.Proofs.Ytmfhdhiaokejdaa
open Go Go.Ab
set_option linter.unusedSimpArgs false
set_option linter.unusedVariables false
def atL (l : List Int) (x : Int) : Int := l.getD x.toNat 0
def fwdTac (l : List Int) (t : Tac) : Tac := if t.op = 2 ∨ t.op = 5 ∨ t.op = 6 ∨ t.op = 9 then { t with a := atL l t.a } else if t.op = 3 ∨ t.op = 7 then { t with a := atL l t.a, b := atL l t.b } else t
def fwdStep (l : List Int) (t : Tac) : List Int := if 0 ≤ t.sets then (if t.op = 2 ∧ atL l t.a ≠ t.sets then (fwdForget l t.sets.toNat).set t.sets.toNat (atL l t.a) else fwdForget l t.sets.toNat) else l
def stN (l0 : List Int) (ins : List Tac) (k : Nat) : List Int := (ins.take k).foldl fwdStep l0
def idL (n : Nat) : List Int := (List.range n).map fun v : Nat => (v : Int)
def outs (l0 : List Int) (ins : List Tac) : List Tac := ins.mapIdx fun j t => fwdTac (stN l0 ins j) t
def fwdBlk (regs : Int) (b : Blk) : Blk := { ins := outs (idL regs.toNat) b.ins, en := b.en, v := if b.en = 2 then atL (stN (idL regs.toNat) b.ins b.ins.length) b.v else b.v, to := b.to, el := b.el }
/-- May an instruction be, with so many registers? -/
def Tac.okR (t : Tac) (n : Nat) : Prop := (∀ x ∈ t.uses, 0 ≤ x ∧ x < n) ∧ (0 ≤ t.sets → t.sets < n)
structure Blk.okR (b : Blk) (n : Nat) : Prop where
  ins : ∀ t ∈ b.ins, t.okR n
  v : b.en = 2 → 0 ≤ b.v ∧ b.v < n
def Rng (l : List Int) (n : Nat) : Prop := l.length = n ∧ ∀ (v : Nat) x, l[v]? = some x → 0 ≤ x ∧ x < n
theorem idL_len (n : Nat) : (idL n).length = n := by simp [idL]
theorem idL_get (n v : Nat) : (idL n)[v]? = if v < n then some (v : Int) else none := by
  unfold idL
  rw [List.getElem?_map]
  split
  · rename_i h; rw [List.getElem?_eq_getElem (by simpa using h)]; simp
  · rename_i h; rw [List.getElem?_eq_none (by simp; omega)]; rfl
theorem idL_rng (n : Nat) : Rng (idL n) n := ⟨idL_len n, fun v x h => by
  rw [idL_get] at h
  split at h
  · cases h; omega
  · cases h⟩
theorem atL_get {l : List Int} {n : Nat} (h : Rng l n) {x : Int} (h0 : 0 ≤ x) (h1 : x < n) : l[x.toNat]? = some (atL l x) ∧ 0 ≤ atL l x ∧ atL l x < n := by
  have hl : x.toNat < l.length := by rw [h.1]; omega
  have e : l[x.toNat]? = some (atL l x) := by
    unfold atL
    rw [List.getD_eq_getElem?_getD, List.getElem?_eq_getElem hl]; rfl
  exact ⟨e, h.2 _ _ e⟩
theorem forget_rng {l : List Int} {n : Nat} (h : Rng l n) (d : Nat) : Rng (fwdForget l d) n := by
  refine ⟨by rw [forget_len, h.1], fun v x hx => ?_⟩
  rw [forget_get] at hx
  split at hx
  · rename_i e; cases hx; have := e.2; rw [h.1] at this; omega
  · cases hl : l[v]? with
    | none => rw [hl] at hx; cases hx
    | some y =>
      rw [hl] at hx
      have hlt := (List.getElem?_eq_some_iff.1 hl).1
      have hy := h.2 v y hl
      rw [h.1] at hlt
      simp only [Option.map_some, Option.some.injEq] at hx
      split at hx <;> omega
theorem set_rng {l : List Int} {n : Nat} (h : Rng l n) (d : Nat) {x : Int} (h0 : 0 ≤ x) (h1 : x < n) : Rng (l.set d x) n := by
  refine ⟨by rw [List.length_set, h.1], fun v y hy => ?_⟩
  rw [List.getElem?_set] at hy
  split at hy
  · split at hy
    · cases hy; exact ⟨h0, h1⟩
    · cases hy
  · exact h.2 v y hy
theorem uses_a {t : Tac} {n : Nat} (h : t.okR n) (ho : t.op = 2 ∨ t.op = 5 ∨ t.op = 6 ∨ t.op = 9 ∨ t.op = 3 ∨ t.op = 7) : 0 ≤ t.a ∧ t.a < n := by
  apply h.1
  unfold Tac.uses usesL
  by_cases h1 : t.op = 2 ∨ t.op = 5 ∨ t.op = 6 ∨ t.op = 9
  · rw [if_pos h1]; simp
  · rw [if_neg h1, if_pos (by omega)]; simp
theorem uses_b {t : Tac} {n : Nat} (h : t.okR n) (ho : t.op = 3 ∨ t.op = 7) : 0 ≤ t.b ∧ t.b < n := by
  apply h.1
  unfold Tac.uses usesL
  rw [if_neg (by omega), if_pos ho]; simp
theorem step_rng {l : List Int} {n : Nat} (h : Rng l n) {t : Tac} (ht : t.okR n) : Rng (fwdStep l t) n := by
  unfold fwdStep
  split
  · split
    · rename_i hop
      have ha := uses_a ht (.inl hop.1)
      have := atL_get h ha.1 ha.2
      exact set_rng (forget_rng h _) _ this.2.1 this.2.2
    · exact forget_rng h _
  · exact h
theorem stN_succ {l0 : List Int} {ins : List Tac} {k : Nat} {t : Tac} (h : ins[k]? = some t) : stN l0 ins (k + 1) = fwdStep (stN l0 ins k) t := by
  unfold stN
  rw [List.take_add_one, h]
  simp
theorem stN_zero {l0 : List Int} {ins : List Tac} : stN l0 ins 0 = l0 := by simp [stN]
theorem stN_rng {l0 : List Int} {n : Nat} (h : Rng l0 n) {ins : List Tac} (hi : ∀ t ∈ ins, t.okR n) : ∀ k, k ≤ ins.length → Rng (stN l0 ins k) n
  | 0, _ => by rw [stN_zero]; exact h
  | k + 1, hk => by
    have hg : ins[k]? = some ins[k] := List.getElem?_eq_getElem (by omega)
    rw [stN_succ hg]
    exact step_rng (stN_rng h hi k (by omega)) (hi _ (List.getElem_mem _))
theorem fwdTac_op (l : List Int) (t : Tac) : (fwdTac l t).op = t.op := by unfold fwdTac; split <;> (try split) <;> rfl
theorem fwdTac_d (l : List Int) (t : Tac) : (fwdTac l t).d = t.d := by unfold fwdTac; split <;> (try split) <;> rfl
theorem fwdTac_sets (l : List Int) (t : Tac) : (fwdTac l t).sets = t.sets := by unfold Tac.sets; rw [fwdTac_op, fwdTac_d]
theorem fwdTac_a {l : List Int} {t : Tac} (h : t.op = 2) : (fwdTac l t).a = atL l t.a := by unfold fwdTac; rw [if_pos (.inl h)]
/-- The instructions, as far as they are done. -/
def insAt (l0 : List Int) (ins : List Tac) (k : Nat) : List Tac := ins.mapIdx fun j t => if j < k then fwdTac (stN l0 ins j) t else ⟨0, 0, 0, 0, 0, 0, 0, 0⟩
theorem insAt_len (l0 : List Int) (ins : List Tac) (k : Nat) : (insAt l0 ins k).length = ins.length := by simp [insAt]
theorem insAt_zero (l0 : List Int) (ins : List Tac) : insAt l0 ins 0 = List.replicate ins.length ⟨0, 0, 0, 0, 0, 0, 0, 0⟩ := by
  apply List.ext_getElem?
  intro j
  simp only [insAt, List.getElem?_mapIdx, List.getElem?_replicate]
  by_cases h : j < ins.length
  · rw [List.getElem?_eq_getElem h]; simp [h]
  · rw [List.getElem?_eq_none (by omega)]; simp [h]
theorem insAt_succ {l0 : List Int} {ins : List Tac} {k : Nat} {t : Tac} (h : ins[k]? = some t) : (insAt l0 ins k).set k (fwdTac (stN l0 ins k) t) = insAt l0 ins (k + 1) := by
  have hk := (List.getElem?_eq_some_iff.1 h).1
  apply List.ext_getElem?
  intro j
  rw [List.getElem?_set]
  simp only [insAt, List.getElem?_mapIdx, List.length_mapIdx]
  by_cases e : k = j
  · subst e
    have ht := (List.getElem?_eq_some_iff.1 h).2
    simp [hk, ht]
  · rw [if_neg e]
    cases hj : ins[j]? with
    | none => rfl
    | some u =>
      simp only [Option.map_some, Option.some.injEq]
      by_cases hjk : j < k
      · rw [if_pos hjk, if_pos (by omega)]
      · rw [if_neg hjk, if_neg (by omega)]
theorem insAt_all (l0 : List Int) (ins : List Tac) : insAt l0 ins ins.length = outs l0 ins := by
  apply List.ext_getElem?
  intro j
  simp only [insAt, outs, List.getElem?_mapIdx]
  cases hj : ins[j]? with
  | none => rfl
  | some u => simp only [Option.map_some]; rw [if_pos (List.getElem?_eq_some_iff.1 hj).1]
def initF (n k : Nat) : List Int := (List.range n).map fun v : Nat => if v < k then (v : Int) else 0
theorem initF_zero (n : Nat) : rowsF (initF n 0) = List.replicate n [iv 0] := by
  apply List.ext_getElem?
  intro j
  simp only [rowsF, initF, List.map_map, List.getElem?_map, List.getElem?_replicate]
  by_cases h : j < n
  · rw [List.getElem?_eq_getElem (by simpa using h)]; simp [h]
  · rw [List.getElem?_eq_none (by simp; omega)]; simp [h]
theorem initF_len (n k : Nat) : (initF n k).length = n := by simp [initF]
theorem initF_succ {n k : Nat} (_ : k < n) : (initF n k).set k (k : Int) = initF n (k + 1) := by
  apply List.ext_getElem?
  intro j
  rw [List.getElem?_set]
  simp only [initF, List.getElem?_map, List.length_map, List.length_range]
  by_cases e : k = j
  · subst e
    rename_i h
    rw [List.getElem?_eq_getElem (by simpa using h)]
    simp [h]
  · rw [if_neg e]
    by_cases h : j < n
    · rw [List.getElem?_eq_getElem (by simpa using h)]
      simp only [List.getElem_range, Option.map_some, Option.some.injEq]
      by_cases hjk : j < k
      · rw [if_pos hjk, if_pos (by omega)]
      · rw [if_neg hjk, if_neg (by omega)]
    · rw [List.getElem?_eq_none (by simp; omega)]; rfl
theorem initF_all (n : Nat) : initF n n = idL n := by
  unfold initF idL
  apply List.map_congr_left
  intro v hv
  rw [if_pos (List.mem_range.1 hv)]
theorem rowsT_nil (n : Nat) : rowsT (List.replicate n none) = List.replicate n [.sc (.map none)] := by simp [rowsT]
theorem CpOk.start (M : MM) (n : Nat) : CpOk M (idL n) (List.replicate n none) := by
  refine ⟨by simp [idL_len], fun v x h => ?_, fun s _ v hv => ?_, fun s b hb => ?_, fun s s' b hb _ => ?_⟩
  · rw [idL_len]; exact (idL_rng n).2 v x h
  · rw [idL_get] at hv
    split at hv
    · have := Option.some.inj hv; omega
    · cases hv
  · rw [List.getElem?_replicate] at hb; split at hb <;> cases hb
  · rw [List.getElem?_replicate] at hb; split at hb <;> cases hb

/-- A function of data, by a triple of its body. -/
theorem callT {P : Program} {f : Nat} {fn : Func} {c : Code} {args rs : List AV} (hfn : P.funcs[f]? = some fn) (hb : fn.body = some c) (hbo : bodyOk fn = true) (hlen : args.length = fn.params.size)
    (h : ∀ K B, T P 0 fn.ntmps K B c ⟨frame0 args, hp0⟩ (fun _ => none) (fun e st' _ => (∀ i, e ≠ .exit i) ∧ ∃ hpf, (resultsP P st'.fr fn.resultTypes.toList fn.results.toList).run st'.hp = some (rs, hpf)))
    {I : Nat → Prop} {w : World} {us : List Value} (hI : ∀ b, I b → b < w.heap.size) (ha : AllR (RepA I w) args us) : Calls P f ⟨us⟩ w (fun e w' => ∃ u, e = .returned u ∧ CallPost P I w (rtys P f) rs u w') := by
  have hrt : rtys P f = fn.resultTypes.toList := by simp [rtys, hfn]
  unfold bodyOk at hbo
  rw [hb] at hbo
  simp only [Bool.and_eq_true, decide_eq_true_eq] at hbo
  obtain ⟨⟨⟨hs1, hs2⟩, hs3⟩, hs4⟩ := hbo
  have hus : us.length = fn.params.size := by rw [← ha.1]; exact hlen
  refine calls_of_wp hfn hb ?_
  have S0 : StM 0 fn.ntmps (fun b => b < w.heap.size ∧ ¬ I b) ⟨I, fun _ => none, hp0, w⟩ ⟨frame0 args, hp0⟩ (fun _ => none) { tmps := (⟨us⟩ : Array Value) ++ Array.replicate (fn.ntmps - (⟨us⟩ : Array Value).size) undef, defers := [] } w := by
    refine ⟨I, fun _ => none, ⟨⟨fun x => trivial, fun x y p q hl => (by simp [hp0, AObj.live] at hl), hI, fun b hb => ?_, fun b hb hk => ?_⟩, fun b o h => (by cases h), fun b h => (by cases h)⟩, .refl _ _ _ _ _, fun t => frame_ok (ha.imp fun a u h => repA_rep h) t, ?_, rfl⟩
    · rcases hb with hb | hb
      · exact hb.1
      · cases hb
    · rcases hk with hk | hk
      · exact hk.2 hb
      · cases hk
    · simp only [Array.size_append, List.size_toArray, Array.size_replicate]
      omega
  refine Code.wp_mono (fun ex a' w' hh => ?_) (h (fun b => b < w.heap.size ∧ ¬ I b) ⟨I, fun _ => none, hp0, w⟩ _ w S0)
  obtain ⟨e, st', M', rfl, S', hne, hpf, hr⟩ := hh
  obtain ⟨I1, m1, H1, E1, hf1, _, hd1⟩ := S'
  obtain ⟨I2, bs, us', hrun, G2, E2', d2, nb, i2, l2, m2, n2⟩ := results_ok H1.gam hf1 hr
  have E2 := E2'.weaken (K' := fun b => b < w.heap.size ∧ ¬ I b) fun b => .inl
  have hfin : a'.defers = [] ∧ ∃ v, (results fn a'.tmps).run P w' = .ok v w' ∧ ∃ u, Ending.returned v = .returned u ∧ CallPost P I w (rtys P f) rs u w' := by
    refine ⟨hd1, retV us', run_results fn _ us' hrun, retV us', rfl, ?_⟩
    have E12 := E1.trans E2
    exact {
      old := fun b hb => E12.keep b (by
        by_cases hi : I b
        · exact .inl hi
        · exact .inr ⟨hb, hi⟩)
      size := E12.size
      os := E12.os
      tape := E12.tape
      output := E12.output
      res := ⟨I2, us', bs, rfl, E12.isub, fun b hb => by
          by_cases hi : I b
          · exact .inl hi
          · exact .inr (Nat.le_of_not_lt fun hlt => G2.ik b hb (.inl ⟨hlt, hi⟩)), G2.ilt, fun b hb => by
          refine ⟨Nat.le_of_not_lt fun hlt => ?_, (nb b hb).1⟩
          by_cases hi : I b
          · exact (nb b hb).1 (E12.isub b hi)
          · exact (nb b hb).2 (.inl ⟨hlt, hi⟩), n2, by rw [hrt]; exact d2⟩ }
  cases e with
  | normal => exact hfin
  | exit i => exact (hne i rfl).elim
  | ret => exact hfin
end Go.Proofs.Ytmfhdhiaokejdaa

namespace Go.Proofs.Ytmfhdhiaokejdaa
open Go Go.Ab
set_option linter.unusedSimpArgs false
set_option linter.unusedVariables false
theorem zeroTac_row : Tac.row ⟨0, 0, 0, 0, 0, 0, 0, 0⟩ = [iv 0, iv 0, iv 0, iv 0, iv 0, iv 0, iv 0, .sc (.int .u32 0)] := rfl
theorem insRows_zero (l0 : List Int) (ins : List Tac) : List.replicate ins.length [iv 0, iv 0, iv 0, iv 0, iv 0, iv 0, iv 0, .sc (.int .u32 0)] = (insAt l0 ins 0).map Tac.row := by
  rw [insAt_zero, List.map_replicate, zeroTac_row]
abbrev nI : Nm := ⟨0, 31, 0⟩
abbrev nB : Nm := ⟨0, 2, 0⟩
abbrev nR : Nm := ⟨0, 4, 0⟩
abbrev n9 : Nm := ⟨0, 9, 0⟩
/-- The instruction's registers are gone round. -/
structure R2 (fr : Nat → AV) (hp : Hp) (g9 : Nat) (l : List Int) (t : Tac) (s : AS) : Prop where
  f2 : s.fr 2 = fr 2
  f4 : s.fr 4 = fr 4
  f5 : s.fr 5 = fr 5
  f7 : s.fr 7 = fr 7
  f8 : s.fr 8 = fr 8
  f9 : s.fr 9 = fr 9
  f33 : s.fr 33 = fr 33
  f34 : s.fr 34 = fr 34
  f35 : s.fr 35 = fr 35
  k9 : s.hp n9 = .box g9 (Tac.row (fwdTac l t)) false
  ks : ∀ y, y ≠ n9 → s.hp y = hp y
set_option maxHeartbeats 4000000 in
theorem p22 {a0 a1 a2 a3 a4 a5 a6 a7 a8 a9 a10 piece : Code} (hcode : Try.f22.body = some (.seq a0 (.seq a1 (.seq a2 (.seq a3 (.seq (.seq a4 (.block 2 (.loop (.seq a5 (.seq a6 (.seq (.block 3 (.seq a7 (.seq piece a8))) a9)))))) a10)))))) (fr : Nat → AV) (hp : Hp) (g9 n : Nat) (l : List Int) (to : List (Option Nat)) (t : Tac)
    (f5 : fr 5 = .ptr nC 1 0) (f9 : fr 9 = .ptr n9 g9 0) (hcs : CS hp 1 2 2 l to) (k9 : hp n9 = .box g9 (Tac.row t) false) (hr : Rng l n) (ht : t.okR n) : W Try.prog E0 0 (lim Try.prog E0 X0) piece ⟨fr, hp⟩ (fun e s => e = .normal ∧ R2 fr hp g9 l t s) := by
  cases hcode
  obtain ⟨h1, h2, h3⟩ := hcs
  rw [hr.1] at h1
  simp only [Tac.row] at k9
  by_cases c1 : t.op = 2 ∨ t.op = 5 ∨ t.op = 6 ∨ t.op = 9
  · have ha := uses_a ht (by omega)
    have hat := atL_get hr ha.1 ha.2
    have hfw : fwdTac l t = { t with a := atL l t.a } := by unfold fwdTac; rw [if_pos c1]
    have hga : (rowsF l)[t.a.toNat]? = some [iv (atL l t.a)] := by rw [rowsF_get, hat.1]; rfl
    have ha0 : 0 ≤ t.a := ha.1
    have han : t.a.toNat < n := by omega
    clear hat ha
    rcases c1 with c1 | c1 | c1 | c1
    all_goals skip
    repeat' (first
      | ((with_reducible apply Wo_u); (conv => lhs; simp -implicitDefEqProofs [*]) <;> exact rfl)
      | ((with_reducible apply Wo_n); (conv => lhs; simp -implicitDefEqProofs [*]) <;> exact rfl)
      | (with_reducible apply Wo_nil)
      | ((with_reducible apply Wo_gt); (exact rfl); ((conv => lhs; simp -implicitDefEqProofs [*]) <;> exact rfl); (conv => lhs; simp -implicitDefEqProofs [*]) <;> exact rfl)
      | ((with_reducible apply Wo_gf); (exact rfl); ((conv => lhs; simp -implicitDefEqProofs [*]) <;> exact rfl); (exact rfl))
      | ((with_reducible apply Wo_gx); (exact rfl); ((conv => lhs; simp -implicitDefEqProofs [*]) <;> exact rfl))
      | ((with_reducible apply Wo_gsT); (exact rfl); ((conv => lhs; simp -implicitDefEqProofs [*]) <;> exact rfl))
      | ((with_reducible apply Wo_gsF); (exact rfl); ((conv => lhs; simp -implicitDefEqProofs [*]) <;> exact rfl))
      | ((with_reducible apply ex2); (conv => lhs; simp -implicitDefEqProofs [*]) <;> exact rfl)
      | (with_reducible apply W_ss) | (with_reducible apply W_srl) | (with_reducible apply W_rl)
      | ((with_reducible apply W_sc); (conv => lhs; simp -implicitDefEqProofs [*]) <;> exact rfl)
      | ((with_reducible apply W_c); (conv => lhs; simp -implicitDefEqProofs [*]) <;> exact rfl)
      | ((with_reducible apply W_srdl); kernel_rfl) | ((with_reducible apply W_rdl); kernel_rfl)
      | ((with_reducible apply Wd_u); (conv => lhs; simp -implicitDefEqProofs [*]) <;> exact rfl)
      | ((with_reducible apply Wd_n); (conv => lhs; simp -implicitDefEqProofs [*]) <;> exact rfl)
      | ((with_reducible apply Wd_nil); exact rfl)
      | ((with_reducible apply Wd_gsT); (exact rfl); ((conv => lhs; simp -implicitDefEqProofs [*]) <;> exact rfl))
      | ((with_reducible apply Wd_gsF); (exact rfl); ((conv => lhs; simp -implicitDefEqProofs [*]) <;> exact rfl))
      | ((with_reducible apply ex4); (conv => lhs; simp -implicitDefEqProofs [*]) <;> exact rfl)
      | (with_reducible apply W_sblock) | (with_reducible apply W_block) | (with_reducible apply W_sskip) | (with_reducible apply W_skip) | (with_reducible apply W_sret) | (with_reducible apply W_ret) | (with_reducible apply W_sexit) | (with_reducible apply W_exit)
      | (with_reducible apply thenW_n) | (with_reducible apply thenW_r) | (with_reducible apply thenW_e) | (with_reducible apply inB_n) | (with_reducible apply inB_r) | (with_reducible apply inB_e) | ((with_reducible apply inB_o); rotate_left; exact rfl)
      | ((with_reducible apply EndQ_ret); (conv => lhs; simp -implicitDefEqProofs [*]) <;> exact rfl) | ((with_reducible apply EndQ_normal); (conv => lhs; simp -implicitDefEqProofs [*]) <;> exact rfl)
      | (intro h h'; try simp [*, -h] at h'))
    all_goals exact ⟨rfl, by simp, by simp, by simp, by simp, by simp, by simp, by simp, by simp, by simp, by simp [hfw, c1], fun y hy => by simp [hy]⟩
  by_cases c2 : t.op = 3 ∨ t.op = 7
  · have ha := uses_a ht (by omega)
    have hb := uses_b ht c2
    have hat := atL_get hr ha.1 ha.2
    have hbt := atL_get hr hb.1 hb.2
    have hfw : fwdTac l t = { t with a := atL l t.a, b := atL l t.b } := by unfold fwdTac; rw [if_neg c1, if_pos c2]
    have hga : (rowsF l)[t.a.toNat]? = some [iv (atL l t.a)] := by rw [rowsF_get, hat.1]; rfl
    have hgb : (rowsF l)[t.b.toNat]? = some [iv (atL l t.b)] := by rw [rowsF_get, hbt.1]; rfl
    have ha0 : 0 ≤ t.a := ha.1
    have hb0 : 0 ≤ t.b := hb.1
    have han : t.a.toNat < n := by omega
    have hbn : t.b.toNat < n := by omega
    clear hat ha hbt hb
    rcases c2 with c2 | c2
    all_goals skip
    repeat' (first
      | ((with_reducible apply Wo_u); (conv => lhs; simp -implicitDefEqProofs [*]) <;> exact rfl)
      | ((with_reducible apply Wo_n); (conv => lhs; simp -implicitDefEqProofs [*]) <;> exact rfl)
      | (with_reducible apply Wo_nil)
      | ((with_reducible apply Wo_gt); (exact rfl); ((conv => lhs; simp -implicitDefEqProofs [*]) <;> exact rfl); (conv => lhs; simp -implicitDefEqProofs [*]) <;> exact rfl)
      | ((with_reducible apply Wo_gf); (exact rfl); ((conv => lhs; simp -implicitDefEqProofs [*]) <;> exact rfl); (exact rfl))
      | ((with_reducible apply Wo_gx); (exact rfl); ((conv => lhs; simp -implicitDefEqProofs [*]) <;> exact rfl))
      | ((with_reducible apply Wo_gsT); (exact rfl); ((conv => lhs; simp -implicitDefEqProofs [*]) <;> exact rfl))
      | ((with_reducible apply Wo_gsF); (exact rfl); ((conv => lhs; simp -implicitDefEqProofs [*]) <;> exact rfl))
      | ((with_reducible apply ex2); (conv => lhs; simp -implicitDefEqProofs [*]) <;> exact rfl)
      | (with_reducible apply W_ss) | (with_reducible apply W_srl) | (with_reducible apply W_rl)
      | ((with_reducible apply W_sc); (conv => lhs; simp -implicitDefEqProofs [*]) <;> exact rfl)
      | ((with_reducible apply W_c); (conv => lhs; simp -implicitDefEqProofs [*]) <;> exact rfl)
      | ((with_reducible apply W_srdl); kernel_rfl) | ((with_reducible apply W_rdl); kernel_rfl)
      | ((with_reducible apply Wd_u); (conv => lhs; simp -implicitDefEqProofs [*]) <;> exact rfl)
      | ((with_reducible apply Wd_n); (conv => lhs; simp -implicitDefEqProofs [*]) <;> exact rfl)
      | ((with_reducible apply Wd_nil); exact rfl)
      | ((with_reducible apply Wd_gsT); (exact rfl); ((conv => lhs; simp -implicitDefEqProofs [*]) <;> exact rfl))
      | ((with_reducible apply Wd_gsF); (exact rfl); ((conv => lhs; simp -implicitDefEqProofs [*]) <;> exact rfl))
      | ((with_reducible apply ex4); (conv => lhs; simp -implicitDefEqProofs [*]) <;> exact rfl)
      | (with_reducible apply W_sblock) | (with_reducible apply W_block) | (with_reducible apply W_sskip) | (with_reducible apply W_skip) | (with_reducible apply W_sret) | (with_reducible apply W_ret) | (with_reducible apply W_sexit) | (with_reducible apply W_exit)
      | (with_reducible apply thenW_n) | (with_reducible apply thenW_r) | (with_reducible apply thenW_e) | (with_reducible apply inB_n) | (with_reducible apply inB_r) | (with_reducible apply inB_e) | ((with_reducible apply inB_o); rotate_left; exact rfl)
      | ((with_reducible apply EndQ_ret); (conv => lhs; simp -implicitDefEqProofs [*]) <;> exact rfl) | ((with_reducible apply EndQ_normal); (conv => lhs; simp -implicitDefEqProofs [*]) <;> exact rfl)
      | (intro h h'; try simp [*, -h] at h'))
    all_goals exact ⟨rfl, by simp, by simp, by simp, by simp, by simp, by simp, by simp, by simp, by simp, by simp [hfw, c2], fun y hy => by simp [hy]⟩
  have hfw : fwdTac l t = t := by unfold fwdTac; rw [if_neg c1, if_neg c2]
  have e2 : (t.op == 2) = false := by simp; omega
  have e5 : (t.op == 5) = false := by simp; omega
  have e6 : (t.op == 6) = false := by simp; omega
  have e9 : (t.op == 9) = false := by simp; omega
  have e3 : (t.op == 3) = false := by simp; omega
  have e7 : (t.op == 7) = false := by simp; omega
  clear c1 c2
  repeat' (first
    | ((with_reducible apply Wo_u); (conv => lhs; simp -implicitDefEqProofs [*]) <;> exact rfl)
    | ((with_reducible apply Wo_n); (conv => lhs; simp -implicitDefEqProofs [*]) <;> exact rfl)
    | (with_reducible apply Wo_nil)
    | ((with_reducible apply Wo_gt); (exact rfl); ((conv => lhs; simp -implicitDefEqProofs [*]) <;> exact rfl); (conv => lhs; simp -implicitDefEqProofs [*]) <;> exact rfl)
    | ((with_reducible apply Wo_gf); (exact rfl); ((conv => lhs; simp -implicitDefEqProofs [*]) <;> exact rfl); (exact rfl))
    | ((with_reducible apply Wo_gx); (exact rfl); ((conv => lhs; simp -implicitDefEqProofs [*]) <;> exact rfl))
    | ((with_reducible apply Wo_gsT); (exact rfl); ((conv => lhs; simp -implicitDefEqProofs [*]) <;> exact rfl))
    | ((with_reducible apply Wo_gsF); (exact rfl); ((conv => lhs; simp -implicitDefEqProofs [*]) <;> exact rfl))
    | ((with_reducible apply ex2); (conv => lhs; simp -implicitDefEqProofs [*]) <;> exact rfl)
    | (with_reducible apply W_ss) | (with_reducible apply W_srl) | (with_reducible apply W_rl)
    | ((with_reducible apply W_sc); (conv => lhs; simp -implicitDefEqProofs [*]) <;> exact rfl)
    | ((with_reducible apply W_c); (conv => lhs; simp -implicitDefEqProofs [*]) <;> exact rfl)
    | ((with_reducible apply W_srdl); kernel_rfl) | ((with_reducible apply W_rdl); kernel_rfl)
    | ((with_reducible apply Wd_u); (conv => lhs; simp -implicitDefEqProofs [*]) <;> exact rfl)
    | ((with_reducible apply Wd_n); (conv => lhs; simp -implicitDefEqProofs [*]) <;> exact rfl)
    | ((with_reducible apply Wd_nil); exact rfl)
    | ((with_reducible apply Wd_gsT); (exact rfl); ((conv => lhs; simp -implicitDefEqProofs [*]) <;> exact rfl))
    | ((with_reducible apply Wd_gsF); (exact rfl); ((conv => lhs; simp -implicitDefEqProofs [*]) <;> exact rfl))
    | ((with_reducible apply ex4); (conv => lhs; simp -implicitDefEqProofs [*]) <;> exact rfl)
    | (with_reducible apply W_sblock) | (with_reducible apply W_block) | (with_reducible apply W_sskip) | (with_reducible apply W_skip) | (with_reducible apply W_sret) | (with_reducible apply W_ret) | (with_reducible apply W_sexit) | (with_reducible apply W_exit)
    | (with_reducible apply thenW_n) | (with_reducible apply thenW_r) | (with_reducible apply thenW_e) | (with_reducible apply inB_n) | (with_reducible apply inB_r) | (with_reducible apply inB_e) | ((with_reducible apply inB_o); rotate_left; exact rfl)
    | ((with_reducible apply EndQ_ret); (conv => lhs; simp -implicitDefEqProofs [*]) <;> exact rfl) | ((with_reducible apply EndQ_normal); (conv => lhs; simp -implicitDefEqProofs [*]) <;> exact rfl)
    | (intro h h'; try simp [*, -h] at h'))
  all_goals exact ⟨rfl, by simp, by simp, by simp, by simp, by simp, by simp, by simp, by simp, by simp, by simp [hfw, k9], fun y hy => by simp⟩
end Go.Proofs.Ytmfhdhiaokejdaa

namespace Go.Proofs.Ytmfhdhiaokejdaa
open Go Go.Ab
set_option linter.unusedSimpArgs false
set_option linter.unusedVariables false
/-- Behind an instruction. -/
structure RR (b : Blk) (k : Nat) (l : List Int) (rows : List (List AV)) (to : List (Option Nat)) (s : AS) (M : MM) : Prop where
  f35 : s.fr 35 = iv k
  f34 : s.fr 34 = iv b.ins.length
  f33 : s.fr 33 = .sl false 8 (b.ins.map Tac.row)
  f7 : s.fr 7 = .own nI 1 b.ins.length
  f5 : s.fr 5 = .ptr nC 1 0
  f2 : s.fr 2 = .ptr nB 1 0
  f4 : s.fr 4 = .ptr nR 1 0
  cs : CS s.hp 1 2 2 l to
  cp : CpOk M l to
  kB : s.hp nB = .box 1 [.sl false 8 (b.ins.map Tac.row), iv b.en, iv b.v, iv b.to, iv b.el] false
  kR : s.hp nR = .box 1 [.own ⟨0, 4, 1⟩ 1 0, iv 0, iv 0, iv 0, iv 0] false
  kR1 : s.hp ⟨0, 4, 1⟩ = .arr 1 8 40 [] false
  kI : s.hp nI = .arr 1 8 40 rows false
/-- Behind the first loop. -/
structure R1 (b : Blk) (n : Nat) (s : AS) : Prop where
  f5 : s.fr 5 = .ptr nC 1 0
  f2 : s.fr 2 = .ptr nB 1 0
  f4 : s.fr 4 = .ptr nR 1 0
  cs : CS s.hp 1 2 2 (idL n) (List.replicate n none)
  kB : s.hp nB = .box 1 [.sl false 8 (b.ins.map Tac.row), iv b.en, iv b.v, iv b.to, iv b.el] false
  kR : s.hp nR = .box 1 [.own ⟨0, 4, 1⟩ 1 0, iv 0, iv 0, iv 0, iv 0] false
  kR1 : s.hp ⟨0, 4, 1⟩ = .arr 1 8 40 [] false
  kI : s.hp nI = .no 0
set_option maxHeartbeats 4000000 in
theorem t22 {c : Code} (hcode : Try.f22.body = some c) (K : Nat → Prop) (B : Base) (b : Blk) (n : Nat) (hn : n ≤ 4000) (hlen : b.ins.length ≤ 100000) (hok : b.okR n) :
    T Try.prog 0 Try.f22.ntmps K B c ⟨frame0 [.agg b.row, iv n], hp0⟩ (fun _ => none) (fun e st' _ => (∀ i, e ≠ .exit i) ∧ ∃ hpf, (resultsP Try.prog st'.fr Try.f22.resultTypes.toList Try.f22.results.toList).run st'.hp =
      some ([.agg [.vec 8 ((fwdBlk n b).ins.map Tac.row), iv b.en, iv (fwdBlk n b).v, iv b.to, iv b.el]], hpf)) := by
  cases hcode
  have hbn : (n : Int) * 8 ≤ 140737488355328 := by omega
  have hbl : (b.ins.length : Int) * 64 ≤ 140737488355328 := by omega
  have hn1 : (n : Int) ≤ 9223372036854775807 := by omega
  have hbl1 : (b.ins.length : Int) ≤ 9223372036854775807 := by omega
  refine T_seq ?_
  refine T_ord mixed0 E0_law call0_ok (by kernel_rfl) ?_
  repeat' (first
    | ((with_reducible apply Wo_u); (conv => lhs; simp -implicitDefEqProofs [*]) <;> exact rfl)
    | ((with_reducible apply Wo_n); (conv => lhs; simp -implicitDefEqProofs [*]) <;> exact rfl)
    | (with_reducible apply Wo_nil)
    | ((with_reducible apply Wo_gt); (exact rfl); ((conv => lhs; simp -implicitDefEqProofs [*]) <;> exact rfl); (conv => lhs; simp -implicitDefEqProofs [*]) <;> exact rfl)
    | ((with_reducible apply Wo_gf); (exact rfl); ((conv => lhs; simp -implicitDefEqProofs [*]) <;> exact rfl); (exact rfl))
    | ((with_reducible apply Wo_gx); (exact rfl); ((conv => lhs; simp -implicitDefEqProofs [*]) <;> exact rfl))
    | ((with_reducible apply Wo_gsT); (exact rfl); ((conv => lhs; simp -implicitDefEqProofs [*]) <;> exact rfl))
    | ((with_reducible apply Wo_gsF); (exact rfl); ((conv => lhs; simp -implicitDefEqProofs [*]) <;> exact rfl))
    | ((with_reducible apply ex2); (conv => lhs; simp -implicitDefEqProofs [*]) <;> exact rfl)
    | (with_reducible apply W_ss) | (with_reducible apply W_srl) | (with_reducible apply W_rl)
    | ((with_reducible apply W_srdl); kernel_rfl) | ((with_reducible apply W_rdl); kernel_rfl)
    | ((with_reducible apply Wd_u); (conv => lhs; simp -implicitDefEqProofs [*]) <;> exact rfl)
    | ((with_reducible apply Wd_n); (conv => lhs; simp -implicitDefEqProofs [*]) <;> exact rfl)
    | ((with_reducible apply Wd_nil); exact rfl)
    | ((with_reducible apply Wd_gsT); (exact rfl); ((conv => lhs; simp -implicitDefEqProofs [*]) <;> exact rfl))
    | ((with_reducible apply Wd_gsF); (exact rfl); ((conv => lhs; simp -implicitDefEqProofs [*]) <;> exact rfl))
    | ((with_reducible apply ex4); (conv => lhs; simp -implicitDefEqProofs [*]) <;> exact rfl)
    | (with_reducible apply W_sblock) | (with_reducible apply W_block) | (with_reducible apply W_sskip) | (with_reducible apply W_skip) | (with_reducible apply W_sret) | (with_reducible apply W_ret) | (with_reducible apply W_sexit) | (with_reducible apply W_exit)
    | (with_reducible apply thenW_n) | (with_reducible apply thenW_r) | (with_reducible apply thenW_e) | (with_reducible apply inB_n) | (with_reducible apply inB_r) | (with_reducible apply inB_e) | ((with_reducible apply inB_o); rotate_left; exact rfl)
    | ((with_reducible apply EndQ_ret); (conv => lhs; simp -implicitDefEqProofs [*]) <;> exact rfl) | ((with_reducible apply EndQ_normal); (conv => lhs; simp -implicitDefEqProofs [*]) <;> exact rfl)
    | (with_reducible apply thenT_n) | (with_reducible apply thenT_r) | (with_reducible apply thenT_e))
  refine T_seq ?_
  refine T_ord mixed0 E0_law call0_ok (by kernel_rfl) ?_
  repeat' (first
    | ((with_reducible apply Wo_u); (conv => lhs; simp -implicitDefEqProofs [*]) <;> exact rfl)
    | ((with_reducible apply Wo_n); (conv => lhs; simp -implicitDefEqProofs [*]) <;> exact rfl)
    | (with_reducible apply Wo_nil)
    | ((with_reducible apply Wo_gt); (exact rfl); ((conv => lhs; simp -implicitDefEqProofs [*]) <;> exact rfl); (conv => lhs; simp -implicitDefEqProofs [*]) <;> exact rfl)
    | ((with_reducible apply Wo_gf); (exact rfl); ((conv => lhs; simp -implicitDefEqProofs [*]) <;> exact rfl); (exact rfl))
    | ((with_reducible apply Wo_gx); (exact rfl); ((conv => lhs; simp -implicitDefEqProofs [*]) <;> exact rfl))
    | ((with_reducible apply Wo_gsT); (exact rfl); ((conv => lhs; simp -implicitDefEqProofs [*]) <;> exact rfl))
    | ((with_reducible apply Wo_gsF); (exact rfl); ((conv => lhs; simp -implicitDefEqProofs [*]) <;> exact rfl))
    | ((with_reducible apply ex2); (conv => lhs; simp -implicitDefEqProofs [*]) <;> exact rfl)
    | (with_reducible apply W_ss) | (with_reducible apply W_srl) | (with_reducible apply W_rl)
    | ((with_reducible apply W_srdl); kernel_rfl) | ((with_reducible apply W_rdl); kernel_rfl)
    | ((with_reducible apply Wd_u); (conv => lhs; simp -implicitDefEqProofs [*]) <;> exact rfl)
    | ((with_reducible apply Wd_n); (conv => lhs; simp -implicitDefEqProofs [*]) <;> exact rfl)
    | ((with_reducible apply Wd_nil); exact rfl)
    | ((with_reducible apply Wd_gsT); (exact rfl); ((conv => lhs; simp -implicitDefEqProofs [*]) <;> exact rfl))
    | ((with_reducible apply Wd_gsF); (exact rfl); ((conv => lhs; simp -implicitDefEqProofs [*]) <;> exact rfl))
    | ((with_reducible apply ex4); (conv => lhs; simp -implicitDefEqProofs [*]) <;> exact rfl)
    | (with_reducible apply W_sblock) | (with_reducible apply W_block) | (with_reducible apply W_sskip) | (with_reducible apply W_skip) | (with_reducible apply W_sret) | (with_reducible apply W_ret) | (with_reducible apply W_sexit) | (with_reducible apply W_exit)
    | (with_reducible apply thenW_n) | (with_reducible apply thenW_r) | (with_reducible apply thenW_e) | (with_reducible apply inB_n) | (with_reducible apply inB_r) | (with_reducible apply inB_e) | ((with_reducible apply inB_o); rotate_left; exact rfl)
    | ((with_reducible apply EndQ_ret); (conv => lhs; simp -implicitDefEqProofs [*]) <;> exact rfl) | ((with_reducible apply EndQ_normal); (conv => lhs; simp -implicitDefEqProofs [*]) <;> exact rfl)
    | (with_reducible apply thenT_n) | (with_reducible apply thenT_r) | (with_reducible apply thenT_e))
  refine T_seq ((T_ord mixed0 E0_law call0_ok (by kernel_rfl) (Q := fun e s M' => e = Ex.normal ∧ M' = (fun _ => none) ∧ R1 b n s) ?_).mono ?_)
  · skip
    repeat' (first
      | ((with_reducible apply Wo_u); (conv => lhs; simp -implicitDefEqProofs [*]) <;> exact rfl)
      | ((with_reducible apply Wo_n); (conv => lhs; simp -implicitDefEqProofs [*]) <;> exact rfl)
      | (with_reducible apply Wo_nil)
      | ((with_reducible apply Wo_gt); (exact rfl); ((conv => lhs; simp -implicitDefEqProofs [*]) <;> exact rfl); (conv => lhs; simp -implicitDefEqProofs [*]) <;> exact rfl)
      | ((with_reducible apply Wo_gf); (exact rfl); ((conv => lhs; simp -implicitDefEqProofs [*]) <;> exact rfl); (exact rfl))
      | ((with_reducible apply Wo_gx); (exact rfl); ((conv => lhs; simp -implicitDefEqProofs [*]) <;> exact rfl))
      | ((with_reducible apply Wo_gsT); (exact rfl); ((conv => lhs; simp -implicitDefEqProofs [*]) <;> exact rfl))
      | ((with_reducible apply Wo_gsF); (exact rfl); ((conv => lhs; simp -implicitDefEqProofs [*]) <;> exact rfl))
      | ((with_reducible apply ex2); (conv => lhs; simp -implicitDefEqProofs [*]) <;> exact rfl)
      | (with_reducible apply W_ss) | (with_reducible apply W_srl) | (with_reducible apply W_rl)
      | ((with_reducible apply W_sc); (conv => lhs; simp -implicitDefEqProofs [*]) <;> exact rfl)
      | ((with_reducible apply W_c); (conv => lhs; simp -implicitDefEqProofs [*]) <;> exact rfl)
      | ((with_reducible apply W_srdl); kernel_rfl) | ((with_reducible apply W_rdl); kernel_rfl)
      | ((with_reducible apply Wd_u); (conv => lhs; simp -implicitDefEqProofs [*]) <;> exact rfl)
      | ((with_reducible apply Wd_n); (conv => lhs; simp -implicitDefEqProofs [*]) <;> exact rfl)
      | ((with_reducible apply Wd_nil); exact rfl)
      | ((with_reducible apply Wd_gsT); (exact rfl); ((conv => lhs; simp -implicitDefEqProofs [*]) <;> exact rfl))
      | ((with_reducible apply Wd_gsF); (exact rfl); ((conv => lhs; simp -implicitDefEqProofs [*]) <;> exact rfl))
      | ((with_reducible apply ex4); (conv => lhs; simp -implicitDefEqProofs [*]) <;> exact rfl)
      | (with_reducible apply W_sblock) | (with_reducible apply W_block) | (with_reducible apply W_sskip) | (with_reducible apply W_skip) | (with_reducible apply W_sret) | (with_reducible apply W_ret) | (with_reducible apply W_sexit) | (with_reducible apply W_exit)
      | (with_reducible apply thenW_n) | (with_reducible apply thenW_r) | (with_reducible apply thenW_e) | (with_reducible apply inB_n) | (with_reducible apply inB_r) | (with_reducible apply inB_e) | ((with_reducible apply inB_o); rotate_left; exact rfl)
      | ((with_reducible apply EndQ_ret); (conv => lhs; simp -implicitDefEqProofs [*]) <;> exact rfl) | ((with_reducible apply EndQ_normal); (conv => lhs; simp -implicitDefEqProofs [*]) <;> exact rfl)
      | (intro h h'; try simp [*, -h] at h'))
    refine W_loopS (n := n) (fun s0 m s => ∃ k : Nat, m = n - k ∧ k ≤ n ∧ s.fr 19 = iv k ∧ s.fr 5 = s0.fr 5 ∧ s.fr 2 = s0.fr 2 ∧ s.fr 4 = s0.fr 4 ∧ s.fr 18 = s0.fr 18 ∧ s.hp ⟨0, 2, 0⟩ = s0.hp ⟨0, 2, 0⟩ ∧ s.hp ⟨0, 4, 0⟩ = s0.hp ⟨0, 4, 0⟩ ∧ s.hp ⟨0, 4, 1⟩ = s0.hp ⟨0, 4, 1⟩ ∧ s.hp ⟨0, 5, 0⟩ = s0.hp ⟨0, 5, 0⟩ ∧ s.hp ⟨0, 5, 2⟩ = s0.hp ⟨0, 5, 2⟩ ∧ s.hp ⟨0, 31, 0⟩ = s0.hp ⟨0, 31, 0⟩ ∧ s.hp ⟨0, 5, 1⟩ = .arr 2 1 3 (rowsF (initF n k)) false) ⟨0, by simp, by first | omega | simp, by simp, by simp, by simp, by simp, by simp, by simp, by simp, by simp, by simp, by simp, by simp, by simp [initF_zero]⟩ ?_
    rintro m ⟨fr, hp⟩ ⟨k, rfl, hk, hs19, hs5, hs2, hs4, hs18, hh0_2_0, hh0_4_0, hh0_4_1, hh0_5_0, hh0_5_2, hh0_31_0, hh0_5_1⟩
    simp at hs19 hs5 hs2 hs4 hs18 hh0_2_0 hh0_4_0 hh0_4_1 hh0_5_0 hh0_5_2 hh0_31_0 hh0_5_1
    by_cases hlt : k < n
    · have hw := wrapN0 (k := k) (by omega)
      have hg : (rowsF (initF n k))[k]? = some [iv 0] := by
        rw [rowsF_get]
        simp [initF, hlt]
      have hls : k < (initF n k).length := by rw [initF_len]; exact hlt
      repeat' (first
        | ((with_reducible apply Wo_u); (conv => lhs; simp -implicitDefEqProofs [*]) <;> exact rfl)
        | ((with_reducible apply Wo_n); (conv => lhs; simp -implicitDefEqProofs [*]) <;> exact rfl)
        | (with_reducible apply Wo_nil)
        | ((with_reducible apply Wo_gt); (exact rfl); ((conv => lhs; simp -implicitDefEqProofs [*]) <;> exact rfl); (conv => lhs; simp -implicitDefEqProofs [*]) <;> exact rfl)
        | ((with_reducible apply Wo_gf); (exact rfl); ((conv => lhs; simp -implicitDefEqProofs [*]) <;> exact rfl); (exact rfl))
        | ((with_reducible apply Wo_gx); (exact rfl); ((conv => lhs; simp -implicitDefEqProofs [*]) <;> exact rfl))
        | ((with_reducible apply Wo_gsT); (exact rfl); ((conv => lhs; simp -implicitDefEqProofs [*]) <;> exact rfl))
        | ((with_reducible apply Wo_gsF); (exact rfl); ((conv => lhs; simp -implicitDefEqProofs [*]) <;> exact rfl))
        | ((with_reducible apply ex2); (conv => lhs; simp -implicitDefEqProofs [*]) <;> exact rfl)
        | (with_reducible apply W_ss) | (with_reducible apply W_srl) | (with_reducible apply W_rl)
        | ((with_reducible apply W_sc); (conv => lhs; simp -implicitDefEqProofs [*]) <;> exact rfl)
        | ((with_reducible apply W_c); (conv => lhs; simp -implicitDefEqProofs [*]) <;> exact rfl)
        | ((with_reducible apply W_srdl); kernel_rfl) | ((with_reducible apply W_rdl); kernel_rfl)
        | ((with_reducible apply Wd_u); (conv => lhs; simp -implicitDefEqProofs [*]) <;> exact rfl)
        | ((with_reducible apply Wd_n); (conv => lhs; simp -implicitDefEqProofs [*]) <;> exact rfl)
        | ((with_reducible apply Wd_nil); exact rfl)
        | ((with_reducible apply Wd_gsT); (exact rfl); ((conv => lhs; simp -implicitDefEqProofs [*]) <;> exact rfl))
        | ((with_reducible apply Wd_gsF); (exact rfl); ((conv => lhs; simp -implicitDefEqProofs [*]) <;> exact rfl))
        | ((with_reducible apply ex4); (conv => lhs; simp -implicitDefEqProofs [*]) <;> exact rfl)
        | (with_reducible apply W_sblock) | (with_reducible apply W_block) | (with_reducible apply W_sskip) | (with_reducible apply W_skip) | (with_reducible apply W_sret) | (with_reducible apply W_ret) | (with_reducible apply W_sexit) | (with_reducible apply W_exit)
        | (with_reducible apply thenW_n) | (with_reducible apply thenW_r) | (with_reducible apply thenW_e) | (with_reducible apply inB_n) | (with_reducible apply inB_r) | (with_reducible apply inB_e) | ((with_reducible apply inB_o); rotate_left; exact rfl)
        | ((with_reducible apply EndQ_ret); (conv => lhs; simp -implicitDefEqProofs [*]) <;> exact rfl) | ((with_reducible apply EndQ_normal); (conv => lhs; simp -implicitDefEqProofs [*]) <;> exact rfl)
        | (intro h h'; try simp [*, -h] at h'))
      exact ⟨_, by omega, k + 1, rfl, hlt, by simp, by simp [*], by simp [*], by simp [*], by simp [*], by simp [*], by simp [*], by simp [*], by simp [*], by simp [*], by simp [*], by simp [rowsF_set, initF_succ hlt]⟩
    · obtain rfl : k = n := by omega
      repeat' (first
        | ((with_reducible apply Wo_u); (conv => lhs; simp -implicitDefEqProofs [*]) <;> exact rfl)
        | ((with_reducible apply Wo_n); (conv => lhs; simp -implicitDefEqProofs [*]) <;> exact rfl)
        | (with_reducible apply Wo_nil)
        | ((with_reducible apply Wo_gt); (exact rfl); ((conv => lhs; simp -implicitDefEqProofs [*]) <;> exact rfl); (conv => lhs; simp -implicitDefEqProofs [*]) <;> exact rfl)
        | ((with_reducible apply Wo_gf); (exact rfl); ((conv => lhs; simp -implicitDefEqProofs [*]) <;> exact rfl); (exact rfl))
        | ((with_reducible apply Wo_gx); (exact rfl); ((conv => lhs; simp -implicitDefEqProofs [*]) <;> exact rfl))
        | ((with_reducible apply Wo_gsT); (exact rfl); ((conv => lhs; simp -implicitDefEqProofs [*]) <;> exact rfl))
        | ((with_reducible apply Wo_gsF); (exact rfl); ((conv => lhs; simp -implicitDefEqProofs [*]) <;> exact rfl))
        | ((with_reducible apply ex2); (conv => lhs; simp -implicitDefEqProofs [*]) <;> exact rfl)
        | (with_reducible apply W_ss) | (with_reducible apply W_srl) | (with_reducible apply W_rl)
        | ((with_reducible apply W_sc); (conv => lhs; simp -implicitDefEqProofs [*]) <;> exact rfl)
        | ((with_reducible apply W_c); (conv => lhs; simp -implicitDefEqProofs [*]) <;> exact rfl)
        | ((with_reducible apply W_srdl); kernel_rfl) | ((with_reducible apply W_rdl); kernel_rfl)
        | ((with_reducible apply Wd_u); (conv => lhs; simp -implicitDefEqProofs [*]) <;> exact rfl)
        | ((with_reducible apply Wd_n); (conv => lhs; simp -implicitDefEqProofs [*]) <;> exact rfl)
        | ((with_reducible apply Wd_nil); exact rfl)
        | ((with_reducible apply Wd_gsT); (exact rfl); ((conv => lhs; simp -implicitDefEqProofs [*]) <;> exact rfl))
        | ((with_reducible apply Wd_gsF); (exact rfl); ((conv => lhs; simp -implicitDefEqProofs [*]) <;> exact rfl))
        | ((with_reducible apply ex4); (conv => lhs; simp -implicitDefEqProofs [*]) <;> exact rfl)
        | (with_reducible apply W_sblock) | (with_reducible apply W_block) | (with_reducible apply W_sskip) | (with_reducible apply W_skip) | (with_reducible apply W_sret) | (with_reducible apply W_ret) | (with_reducible apply W_sexit) | (with_reducible apply W_exit)
        | (with_reducible apply thenW_n) | (with_reducible apply thenW_r) | (with_reducible apply thenW_e) | (with_reducible apply inB_n) | (with_reducible apply inB_r) | (with_reducible apply inB_e) | ((with_reducible apply inB_o); rotate_left; exact rfl)
        | ((with_reducible apply EndQ_ret); (conv => lhs; simp -implicitDefEqProofs [*]) <;> exact rfl) | ((with_reducible apply EndQ_normal); (conv => lhs; simp -implicitDefEqProofs [*]) <;> exact rfl)
        | (intro h h'; try simp [*, -h] at h'))
      exact ⟨rfl, rfl, by simp [*], by simp [*], by simp [*], ⟨by simp [*, idL_len], by simp [*, initF_all], by simp [*, rowsT_nil]⟩, by simp [*], by simp [*], by simp [*], by simp [*]⟩
  rintro e ⟨fr, hp⟩ M' ⟨rfl, rfl, f5, f2, f4, hcs, kB, kR, kR1, kI⟩
  refine thenT_n ?_
  simp only at f5 f2 f4 hcs kB kR kR1 kI
  refine T_seq ?_
  refine T_ord mixed0 E0_law call0_ok (by kernel_rfl) ?_
  repeat' (first
    | ((with_reducible apply Wo_u); (conv => lhs; simp -implicitDefEqProofs [*]) <;> exact rfl)
    | ((with_reducible apply Wo_n); (conv => lhs; simp -implicitDefEqProofs [*]) <;> exact rfl)
    | (with_reducible apply Wo_nil)
    | ((with_reducible apply Wo_gt); (exact rfl); ((conv => lhs; simp -implicitDefEqProofs [*]) <;> exact rfl); (conv => lhs; simp -implicitDefEqProofs [*]) <;> exact rfl)
    | ((with_reducible apply Wo_gf); (exact rfl); ((conv => lhs; simp -implicitDefEqProofs [*]) <;> exact rfl); (exact rfl))
    | ((with_reducible apply Wo_gx); (exact rfl); ((conv => lhs; simp -implicitDefEqProofs [*]) <;> exact rfl))
    | ((with_reducible apply Wo_gsT); (exact rfl); ((conv => lhs; simp -implicitDefEqProofs [*]) <;> exact rfl))
    | ((with_reducible apply Wo_gsF); (exact rfl); ((conv => lhs; simp -implicitDefEqProofs [*]) <;> exact rfl))
    | ((with_reducible apply ex2); (conv => lhs; simp -implicitDefEqProofs [*]) <;> exact rfl)
    | (with_reducible apply W_ss) | (with_reducible apply W_srl) | (with_reducible apply W_rl)
    | ((with_reducible apply W_srdl); kernel_rfl) | ((with_reducible apply W_rdl); kernel_rfl)
    | ((with_reducible apply Wd_u); (conv => lhs; simp -implicitDefEqProofs [*]) <;> exact rfl)
    | ((with_reducible apply Wd_n); (conv => lhs; simp -implicitDefEqProofs [*]) <;> exact rfl)
    | ((with_reducible apply Wd_nil); exact rfl)
    | ((with_reducible apply Wd_gsT); (exact rfl); ((conv => lhs; simp -implicitDefEqProofs [*]) <;> exact rfl))
    | ((with_reducible apply Wd_gsF); (exact rfl); ((conv => lhs; simp -implicitDefEqProofs [*]) <;> exact rfl))
    | ((with_reducible apply ex4); (conv => lhs; simp -implicitDefEqProofs [*]) <;> exact rfl)
    | (with_reducible apply W_sblock) | (with_reducible apply W_block) | (with_reducible apply W_sskip) | (with_reducible apply W_skip) | (with_reducible apply W_sret) | (with_reducible apply W_ret) | (with_reducible apply W_sexit) | (with_reducible apply W_exit)
    | (with_reducible apply thenW_n) | (with_reducible apply thenW_r) | (with_reducible apply thenW_e) | (with_reducible apply inB_n) | (with_reducible apply inB_r) | (with_reducible apply inB_e) | ((with_reducible apply inB_o); rotate_left; exact rfl)
    | ((with_reducible apply EndQ_ret); (conv => lhs; simp -implicitDefEqProofs [*]) <;> exact rfl) | ((with_reducible apply EndQ_normal); (conv => lhs; simp -implicitDefEqProofs [*]) <;> exact rfl)
    | (with_reducible apply thenT_n) | (with_reducible apply thenT_r) | (with_reducible apply thenT_e))
  refine T_seq (T_seq ?_)
  refine T_ord mixed0 E0_law call0_ok (by kernel_rfl) ?_
  repeat' (first
    | ((with_reducible apply Wo_u); (conv => lhs; simp -implicitDefEqProofs [*]) <;> exact rfl)
    | ((with_reducible apply Wo_n); (conv => lhs; simp -implicitDefEqProofs [*]) <;> exact rfl)
    | (with_reducible apply Wo_nil)
    | ((with_reducible apply Wo_gt); (exact rfl); ((conv => lhs; simp -implicitDefEqProofs [*]) <;> exact rfl); (conv => lhs; simp -implicitDefEqProofs [*]) <;> exact rfl)
    | ((with_reducible apply Wo_gf); (exact rfl); ((conv => lhs; simp -implicitDefEqProofs [*]) <;> exact rfl); (exact rfl))
    | ((with_reducible apply Wo_gx); (exact rfl); ((conv => lhs; simp -implicitDefEqProofs [*]) <;> exact rfl))
    | ((with_reducible apply Wo_gsT); (exact rfl); ((conv => lhs; simp -implicitDefEqProofs [*]) <;> exact rfl))
    | ((with_reducible apply Wo_gsF); (exact rfl); ((conv => lhs; simp -implicitDefEqProofs [*]) <;> exact rfl))
    | ((with_reducible apply ex2); (conv => lhs; simp -implicitDefEqProofs [*]) <;> exact rfl)
    | (with_reducible apply W_ss) | (with_reducible apply W_srl) | (with_reducible apply W_rl)
    | ((with_reducible apply W_srdl); kernel_rfl) | ((with_reducible apply W_rdl); kernel_rfl)
    | ((with_reducible apply Wd_u); (conv => lhs; simp -implicitDefEqProofs [*]) <;> exact rfl)
    | ((with_reducible apply Wd_n); (conv => lhs; simp -implicitDefEqProofs [*]) <;> exact rfl)
    | ((with_reducible apply Wd_nil); exact rfl)
    | ((with_reducible apply Wd_gsT); (exact rfl); ((conv => lhs; simp -implicitDefEqProofs [*]) <;> exact rfl))
    | ((with_reducible apply Wd_gsF); (exact rfl); ((conv => lhs; simp -implicitDefEqProofs [*]) <;> exact rfl))
    | ((with_reducible apply ex4); (conv => lhs; simp -implicitDefEqProofs [*]) <;> exact rfl)
    | (with_reducible apply W_sblock) | (with_reducible apply W_block) | (with_reducible apply W_sskip) | (with_reducible apply W_skip) | (with_reducible apply W_sret) | (with_reducible apply W_ret) | (with_reducible apply W_sexit) | (with_reducible apply W_exit)
    | (with_reducible apply thenW_n) | (with_reducible apply thenW_r) | (with_reducible apply thenW_e) | (with_reducible apply inB_n) | (with_reducible apply inB_r) | (with_reducible apply inB_e) | ((with_reducible apply inB_o); rotate_left; exact rfl)
    | ((with_reducible apply EndQ_ret); (conv => lhs; simp -implicitDefEqProofs [*]) <;> exact rfl) | ((with_reducible apply EndQ_normal); (conv => lhs; simp -implicitDefEqProofs [*]) <;> exact rfl)
    | (with_reducible apply thenT_n) | (with_reducible apply thenT_r) | (with_reducible apply thenT_e))
  refine T_block ?_
  refine T_loop (n := b.ins.length) (fun m s M' => ∃ (k : Nat) (to : List (Option Nat)), m = b.ins.length - k ∧ k ≤ b.ins.length ∧ s.fr 35 = iv k ∧ s.fr 34 = iv b.ins.length ∧ s.fr 33 = .sl false 8 (b.ins.map Tac.row) ∧ s.fr 7 = .own nI 1 b.ins.length ∧ s.fr 5 = .ptr nC 1 0 ∧ s.fr 2 = .ptr nB 1 0 ∧ s.fr 4 = .ptr nR 1 0 ∧
    CS s.hp 1 2 2 (stN (idL n) b.ins k) to ∧ CpOk M' (stN (idL n) b.ins k) to ∧ s.hp nB = .box 1 [.sl false 8 (b.ins.map Tac.row), iv b.en, iv b.v, iv b.to, iv b.el] false ∧ s.hp nR = .box 1 [.own ⟨0, 4, 1⟩ 1 0, iv 0, iv 0, iv 0, iv 0] false ∧ s.hp ⟨0, 4, 1⟩ = .arr 1 8 40 [] false ∧
    s.hp nI = .arr 1 8 40 ((insAt (idL n) b.ins k).map Tac.row) false)
    ⟨0, List.replicate n none, by simp, by simp, by simp, by simp, by simp, by simp, by simp [f5], by simp [f2], by simp [f4], by rw [stN_zero]; exact ⟨by simp [hcs.box], by simp [hcs.from'], by simp [hcs.to']⟩, by rw [stN_zero]; exact .start _ n, by simp [kB], by simp [kR], by simp [kR1], by
      rw [← insRows_zero]; simp⟩ ?_
  clear f5 f2 f4 hcs kB kR kR1 kI
  rintro m ⟨fr, hp⟩ M' ⟨k, to, rfl, hk, f35, f34, f33, f7, f5, f2, f4, hcs, hcp, kB, kR, kR1, kI⟩
  simp only at f35 f34 f33 f7 f5 f2 f4 hcs kB kR kR1 kI
  have hrng := stN_rng (idL_rng n) hok.ins k hk
  by_cases hlt : k < b.ins.length
  · have hg := List.getElem?_eq_getElem hlt
    have htok := hok.ins _ (List.getElem_mem hlt)
    have hsucc := stN_succ (l0 := idL n) hg
    have hins := insAt_succ (l0 := idL n) hg
    have hilen := insAt_len (idL n) b.ins k
    generalize hl : stN (idL n) b.ins k = l at *
    have hw := wrapN0 (k := k) (by omega)
    have hks : k < (insAt (idL n) b.ins k).length := by omega
    have HS := Lib.hid hsucc
    have HI := Lib.hid hins
    have HT := Lib.hid htok
    clear hsucc hins htok hok
    refine T_seq ?_
    refine T_ord mixed0 E0_law call0_ok (by kernel_rfl) ?_
    repeat' (first
      | ((with_reducible apply Wo_u); (conv => lhs; simp -implicitDefEqProofs [*]) <;> exact rfl)
      | ((with_reducible apply Wo_n); (conv => lhs; simp -implicitDefEqProofs [*]) <;> exact rfl)
      | (with_reducible apply Wo_nil)
      | ((with_reducible apply Wo_gt); (exact rfl); ((conv => lhs; simp -implicitDefEqProofs [*]) <;> exact rfl); (conv => lhs; simp -implicitDefEqProofs [*]) <;> exact rfl)
      | ((with_reducible apply Wo_gf); (exact rfl); ((conv => lhs; simp -implicitDefEqProofs [*]) <;> exact rfl); (exact rfl))
      | ((with_reducible apply Wo_gx); (exact rfl); ((conv => lhs; simp -implicitDefEqProofs [*]) <;> exact rfl))
      | ((with_reducible apply Wo_gsT); (exact rfl); ((conv => lhs; simp -implicitDefEqProofs [*]) <;> exact rfl))
      | ((with_reducible apply Wo_gsF); (exact rfl); ((conv => lhs; simp -implicitDefEqProofs [*]) <;> exact rfl))
      | ((with_reducible apply ex2); (conv => lhs; simp -implicitDefEqProofs [*]) <;> exact rfl)
      | (with_reducible apply W_ss) | (with_reducible apply W_srl) | (with_reducible apply W_rl)
      | ((with_reducible apply W_srdl); kernel_rfl) | ((with_reducible apply W_rdl); kernel_rfl)
      | ((with_reducible apply Wd_u); (conv => lhs; simp -implicitDefEqProofs [*]) <;> exact rfl)
      | ((with_reducible apply Wd_n); (conv => lhs; simp -implicitDefEqProofs [*]) <;> exact rfl)
      | ((with_reducible apply Wd_nil); exact rfl)
      | ((with_reducible apply Wd_gsT); (exact rfl); ((conv => lhs; simp -implicitDefEqProofs [*]) <;> exact rfl))
      | ((with_reducible apply Wd_gsF); (exact rfl); ((conv => lhs; simp -implicitDefEqProofs [*]) <;> exact rfl))
      | ((with_reducible apply ex4); (conv => lhs; simp -implicitDefEqProofs [*]) <;> exact rfl)
      | (with_reducible apply W_sblock) | (with_reducible apply W_block) | (with_reducible apply W_sskip) | (with_reducible apply W_skip) | (with_reducible apply W_sret) | (with_reducible apply W_ret) | (with_reducible apply W_sexit) | (with_reducible apply W_exit)
      | (with_reducible apply thenW_n) | (with_reducible apply thenW_r) | (with_reducible apply thenW_e) | (with_reducible apply inB_n) | (with_reducible apply inB_r) | (with_reducible apply inB_e) | ((with_reducible apply inB_o); rotate_left; exact rfl)
      | ((with_reducible apply EndQ_ret); (conv => lhs; simp -implicitDefEqProofs [*]) <;> exact rfl) | ((with_reducible apply EndQ_normal); (conv => lhs; simp -implicitDefEqProofs [*]) <;> exact rfl)
      | (with_reducible apply thenT_n) | (with_reducible apply thenT_r) | (with_reducible apply thenT_e))
    refine T_seq (T_ct (by simp [hlt]) (T_skip ?_))
    repeat (first | (with_reducible apply thenT_e) | (with_reducible apply thenT_r) | (with_reducible apply inT_e) | (with_reducible apply inT_n) | (with_reducible apply thenT_n))
    refine T_seq (T.mono (Q := fun e s M3 => e = Ex.normal ∧ ∃ to3, RR b k (fwdStep l b.ins[k]) ((insAt (idL n) b.ins (k + 1)).map Tac.row) to3 s M3) (T_block (T_seq ?_)) ?_)
    · refine T_ord mixed0 E0_law call0_ok (by kernel_rfl) ?_
      repeat' (first
        | ((with_reducible apply Wo_u); (conv => lhs; simp -implicitDefEqProofs [*]) <;> exact rfl)
        | ((with_reducible apply Wo_n); (conv => lhs; simp -implicitDefEqProofs [*]) <;> exact rfl)
        | (with_reducible apply Wo_nil)
        | ((with_reducible apply Wo_gt); (exact rfl); ((conv => lhs; simp -implicitDefEqProofs [*]) <;> exact rfl); (conv => lhs; simp -implicitDefEqProofs [*]) <;> exact rfl)
        | ((with_reducible apply Wo_gf); (exact rfl); ((conv => lhs; simp -implicitDefEqProofs [*]) <;> exact rfl); (exact rfl))
        | ((with_reducible apply Wo_gx); (exact rfl); ((conv => lhs; simp -implicitDefEqProofs [*]) <;> exact rfl))
        | ((with_reducible apply Wo_gsT); (exact rfl); ((conv => lhs; simp -implicitDefEqProofs [*]) <;> exact rfl))
        | ((with_reducible apply Wo_gsF); (exact rfl); ((conv => lhs; simp -implicitDefEqProofs [*]) <;> exact rfl))
        | ((with_reducible apply ex2); (conv => lhs; simp -implicitDefEqProofs [*]) <;> exact rfl)
        | (with_reducible apply W_ss) | (with_reducible apply W_srl) | (with_reducible apply W_rl)
        | ((with_reducible apply W_srdl); kernel_rfl) | ((with_reducible apply W_rdl); kernel_rfl)
        | ((with_reducible apply Wd_u); (conv => lhs; simp -implicitDefEqProofs [*]) <;> exact rfl)
        | ((with_reducible apply Wd_n); (conv => lhs; simp -implicitDefEqProofs [*]) <;> exact rfl)
        | ((with_reducible apply Wd_nil); exact rfl)
        | ((with_reducible apply Wd_gsT); (exact rfl); ((conv => lhs; simp -implicitDefEqProofs [*]) <;> exact rfl))
        | ((with_reducible apply Wd_gsF); (exact rfl); ((conv => lhs; simp -implicitDefEqProofs [*]) <;> exact rfl))
        | ((with_reducible apply ex4); (conv => lhs; simp -implicitDefEqProofs [*]) <;> exact rfl)
        | (with_reducible apply W_sblock) | (with_reducible apply W_block) | (with_reducible apply W_sskip) | (with_reducible apply W_skip) | (with_reducible apply W_sret) | (with_reducible apply W_ret) | (with_reducible apply W_sexit) | (with_reducible apply W_exit)
        | (with_reducible apply thenW_n) | (with_reducible apply thenW_r) | (with_reducible apply thenW_e) | (with_reducible apply inB_n) | (with_reducible apply inB_r) | (with_reducible apply inB_e) | ((with_reducible apply inB_o); rotate_left; exact rfl)
        | ((with_reducible apply EndQ_ret); (conv => lhs; simp -implicitDefEqProofs [*]) <;> exact rfl) | ((with_reducible apply EndQ_normal); (conv => lhs; simp -implicitDefEqProofs [*]) <;> exact rfl)
        | (with_reducible apply thenT_n) | (with_reducible apply thenT_r) | (with_reducible apply thenT_e))
      refine T_seq (T.mono (T_ord mixed0 E0_law call0_ok (by kernel_rfl) (Q := fun e s M1 => e = Ex.normal ∧ M1 = M' ∧ R2 _ _ ((hp n9).gen + 1) l b.ins[k] s) ((p22 rfl _ _ _ n l to b.ins[k] (by simp [f5]) (by simp) ⟨by simp [hcs.box], by simp [hcs.from'], by simp [hcs.to']⟩ (by simp) hrng HT.out).mono (fun e s h => ⟨h.1, rfl, h.2⟩))) ?_)
      rintro e ⟨fr1, hp1⟩ M1 ⟨rfl, rfl, r⟩
      refine thenT_n ?_
      have q35 : fr1 35 = iv k := by have := r.f35; simpa [f35] using this
      have q34 : fr1 34 = iv b.ins.length := by have := r.f34; simpa [f34] using this
      have q33 : fr1 33 = .sl false 8 (b.ins.map Tac.row) := by have := r.f33; simpa [f33] using this
      have q7 : fr1 7 = .own nI 1 b.ins.length := by have := r.f7; simpa [f7] using this
      have q5 : fr1 5 = .ptr nC 1 0 := by have := r.f5; simpa [f5] using this
      have q2 : fr1 2 = .ptr nB 1 0 := by have := r.f2; simpa [f2] using this
      have q4 : fr1 4 = .ptr nR 1 0 := by have := r.f4; simpa [f4] using this
      have q8 : fr1 8 = iv k := by have := r.f8; simpa using this
      have q9 : fr1 9 = .ptr n9 ((hp n9).gen + 1) 0 := by have := r.f9; simpa using this
      have qC : hp1 nC = .box 1 [.own nF 2 l.length, .own nT 2 to.length] false := by have := r.ks nC (by decide); simpa [hcs.box] using this
      have qF : hp1 nF = .arr 2 1 3 (rowsF l) false := by have := r.ks nF (by decide); simpa [hcs.from'] using this
      have qT : hp1 nT = .arr 2 1 78 (rowsT to) false := by have := r.ks nT (by decide); simpa [hcs.to'] using this
      have qB : hp1 nB = .box 1 [.sl false 8 (b.ins.map Tac.row), iv b.en, iv b.v, iv b.to, iv b.el] false := by have := r.ks nB (by decide); simpa [kB] using this
      have qR : hp1 nR = .box 1 [.own ⟨0, 4, 1⟩ 1 0, iv 0, iv 0, iv 0, iv 0] false := by have := r.ks nR (by decide); simpa [kR] using this
      have qR1 : hp1 ⟨0, 4, 1⟩ = .arr 1 8 40 [] false := by have := r.ks ⟨0, 4, 1⟩ (by decide); simpa [kR1] using this
      have qI : hp1 nI = .arr 1 8 40 ((insAt (idL n) b.ins k).map Tac.row) false := by have := r.ks nI (by decide); simpa [kI] using this
      have q9' := r.k9
      simp only at q9'
      have hrow : ((insAt (idL n) b.ins k).map Tac.row).set k (Tac.row (fwdTac l b.ins[k])) = (insAt (idL n) b.ins (k + 1)).map Tac.row := by rw [← List.map_set, HI.out]
      have hsets := fwdTac_sets l b.ins[k]
      have hop' := fwdTac_op l b.ins[k]
      have hstep : fwdStep l b.ins[k] = if 0 ≤ b.ins[k].sets then (if b.ins[k].op = 2 ∧ atL l b.ins[k].a ≠ b.ins[k].sets then (fwdForget l b.ins[k].sets.toNat).set b.ins[k].sets.toNat (atL l b.ins[k].a) else fwdForget l b.ins[k].sets.toNat) else l := rfl
      have hfa : b.ins[k].op = 2 → (fwdTac l b.ins[k]).a = atL l b.ins[k].a := fun h => fwdTac_a h
      have hin2 : b.ins[k].op = 2 → 0 ≤ atL l b.ins[k].a ∧ atL l b.ins[k].a < n := fun h => by
        have ha := uses_a HT.out (.inl h)
        exact (atL_get hrng ha.1 ha.2).2
      have hsr := HT.out.2
      generalize (hp n9).gen + 1 = g9 at *
      generalize fwdTac l b.ins[k] = u at *
      clear r HS HI HT hl hg hw hilen
      have HROW := Lib.hid hrow
      have HSETS := Lib.hid hsets
      have HOP := Lib.hid hop'
      have HSTEP := Lib.hid hstep
      have HFA := Lib.hid hfa
      have HIN := Lib.hid hin2
      have HSR := Lib.hid hsr
      clear hrow hsets hop' hstep hfa hin2 hsr hcs kB kR kR1 kI f35 f34 f33 f7 f5 f2 f4
      refine T_seq ?_
      refine T_ord mixed0 E0_law call0_ok (by kernel_rfl) ?_
      repeat' (first
        | ((with_reducible apply Wo_u); (conv => lhs; simp -implicitDefEqProofs [*]) <;> exact rfl)
        | ((with_reducible apply Wo_n); (conv => lhs; simp -implicitDefEqProofs [*]) <;> exact rfl)
        | (with_reducible apply Wo_nil)
        | ((with_reducible apply Wo_gt); (exact rfl); ((conv => lhs; simp -implicitDefEqProofs [*]) <;> exact rfl); (conv => lhs; simp -implicitDefEqProofs [*]) <;> exact rfl)
        | ((with_reducible apply Wo_gf); (exact rfl); ((conv => lhs; simp -implicitDefEqProofs [*]) <;> exact rfl); (exact rfl))
        | ((with_reducible apply Wo_gx); (exact rfl); ((conv => lhs; simp -implicitDefEqProofs [*]) <;> exact rfl))
        | ((with_reducible apply Wo_gsT); (exact rfl); ((conv => lhs; simp -implicitDefEqProofs [*]) <;> exact rfl))
        | ((with_reducible apply Wo_gsF); (exact rfl); ((conv => lhs; simp -implicitDefEqProofs [*]) <;> exact rfl))
        | ((with_reducible apply ex2); (conv => lhs; simp -implicitDefEqProofs [*]) <;> exact rfl)
        | (with_reducible apply W_ss) | (with_reducible apply W_srl) | (with_reducible apply W_rl)
        | ((with_reducible apply W_srdl); kernel_rfl) | ((with_reducible apply W_rdl); kernel_rfl)
        | ((with_reducible apply Wd_u); (conv => lhs; simp -implicitDefEqProofs [*]) <;> exact rfl)
        | ((with_reducible apply Wd_n); (conv => lhs; simp -implicitDefEqProofs [*]) <;> exact rfl)
        | ((with_reducible apply Wd_nil); exact rfl)
        | ((with_reducible apply Wd_gsT); (exact rfl); ((conv => lhs; simp -implicitDefEqProofs [*]) <;> exact rfl))
        | ((with_reducible apply Wd_gsF); (exact rfl); ((conv => lhs; simp -implicitDefEqProofs [*]) <;> exact rfl))
        | ((with_reducible apply ex4); (conv => lhs; simp -implicitDefEqProofs [*]) <;> exact rfl)
        | (with_reducible apply W_sblock) | (with_reducible apply W_block) | (with_reducible apply W_sskip) | (with_reducible apply W_skip) | (with_reducible apply W_sret) | (with_reducible apply W_ret) | (with_reducible apply W_sexit) | (with_reducible apply W_exit)
        | (with_reducible apply thenW_n) | (with_reducible apply thenW_r) | (with_reducible apply thenW_e) | (with_reducible apply inB_n) | (with_reducible apply inB_r) | (with_reducible apply inB_e) | ((with_reducible apply inB_o); rotate_left; exact rfl)
        | ((with_reducible apply EndQ_ret); (conv => lhs; simp -implicitDefEqProofs [*]) <;> exact rfl) | ((with_reducible apply EndQ_normal); (conv => lhs; simp -implicitDefEqProofs [*]) <;> exact rfl)
        | (with_reducible apply thenT_n) | (with_reducible apply thenT_r) | (with_reducible apply thenT_e))
      refine T_seq ?_
      refine T_ord mixed0 E0_law call0_ok (by kernel_rfl) ?_
      repeat' (first
        | ((with_reducible apply Wo_u); (conv => lhs; simp -implicitDefEqProofs [*]) <;> exact rfl)
        | ((with_reducible apply Wo_n); (conv => lhs; simp -implicitDefEqProofs [*]) <;> exact rfl)
        | (with_reducible apply Wo_nil)
        | ((with_reducible apply Wo_gt); (exact rfl); ((conv => lhs; simp -implicitDefEqProofs [*]) <;> exact rfl); (conv => lhs; simp -implicitDefEqProofs [*]) <;> exact rfl)
        | ((with_reducible apply Wo_gf); (exact rfl); ((conv => lhs; simp -implicitDefEqProofs [*]) <;> exact rfl); (exact rfl))
        | ((with_reducible apply Wo_gx); (exact rfl); ((conv => lhs; simp -implicitDefEqProofs [*]) <;> exact rfl))
        | ((with_reducible apply Wo_gsT); (exact rfl); ((conv => lhs; simp -implicitDefEqProofs [*]) <;> exact rfl))
        | ((with_reducible apply Wo_gsF); (exact rfl); ((conv => lhs; simp -implicitDefEqProofs [*]) <;> exact rfl))
        | ((with_reducible apply ex2); (conv => lhs; simp -implicitDefEqProofs [*]) <;> exact rfl)
        | (with_reducible apply W_ss) | (with_reducible apply W_srl) | (with_reducible apply W_rl)
        | ((with_reducible apply W_srdl); kernel_rfl) | ((with_reducible apply W_rdl); kernel_rfl)
        | ((with_reducible apply Wd_u); (conv => lhs; simp -implicitDefEqProofs [*]) <;> exact rfl)
        | ((with_reducible apply Wd_n); (conv => lhs; simp -implicitDefEqProofs [*]) <;> exact rfl)
        | ((with_reducible apply Wd_nil); exact rfl)
        | ((with_reducible apply Wd_gsT); (exact rfl); ((conv => lhs; simp -implicitDefEqProofs [*]) <;> exact rfl))
        | ((with_reducible apply Wd_gsF); (exact rfl); ((conv => lhs; simp -implicitDefEqProofs [*]) <;> exact rfl))
        | ((with_reducible apply ex4); (conv => lhs; simp -implicitDefEqProofs [*]) <;> exact rfl)
        | (with_reducible apply W_sblock) | (with_reducible apply W_block) | (with_reducible apply W_sskip) | (with_reducible apply W_skip) | (with_reducible apply W_sret) | (with_reducible apply W_ret) | (with_reducible apply W_sexit) | (with_reducible apply W_exit)
        | (with_reducible apply thenW_n) | (with_reducible apply thenW_r) | (with_reducible apply thenW_e) | (with_reducible apply inB_n) | (with_reducible apply inB_r) | (with_reducible apply inB_e) | ((with_reducible apply inB_o); rotate_left; exact rfl)
        | ((with_reducible apply EndQ_ret); (conv => lhs; simp -implicitDefEqProofs [*]) <;> exact rfl) | ((with_reducible apply EndQ_normal); (conv => lhs; simp -implicitDefEqProofs [*]) <;> exact rfl)
        | (with_reducible apply thenT_n) | (with_reducible apply thenT_r) | (with_reducible apply thenT_e))
      refine T_seq ?_
      refine T_ord mixed0 E0_law call0_ok (by kernel_rfl) ?_
      repeat' (first
        | ((with_reducible apply Wo_u); (conv => lhs; simp -implicitDefEqProofs [*]) <;> exact rfl)
        | ((with_reducible apply Wo_n); (conv => lhs; simp -implicitDefEqProofs [*]) <;> exact rfl)
        | (with_reducible apply Wo_nil)
        | ((with_reducible apply Wo_gt); (exact rfl); ((conv => lhs; simp -implicitDefEqProofs [*]) <;> exact rfl); (conv => lhs; simp -implicitDefEqProofs [*]) <;> exact rfl)
        | ((with_reducible apply Wo_gf); (exact rfl); ((conv => lhs; simp -implicitDefEqProofs [*]) <;> exact rfl); (exact rfl))
        | ((with_reducible apply Wo_gx); (exact rfl); ((conv => lhs; simp -implicitDefEqProofs [*]) <;> exact rfl))
        | ((with_reducible apply Wo_gsT); (exact rfl); ((conv => lhs; simp -implicitDefEqProofs [*]) <;> exact rfl))
        | ((with_reducible apply Wo_gsF); (exact rfl); ((conv => lhs; simp -implicitDefEqProofs [*]) <;> exact rfl))
        | ((with_reducible apply ex2); (conv => lhs; simp -implicitDefEqProofs [*]) <;> exact rfl)
        | (with_reducible apply W_ss) | (with_reducible apply W_srl) | (with_reducible apply W_rl)
        | ((with_reducible apply W_srdl); kernel_rfl) | ((with_reducible apply W_rdl); kernel_rfl)
        | ((with_reducible apply Wd_u); (conv => lhs; simp -implicitDefEqProofs [*]) <;> exact rfl)
        | ((with_reducible apply Wd_n); (conv => lhs; simp -implicitDefEqProofs [*]) <;> exact rfl)
        | ((with_reducible apply Wd_nil); exact rfl)
        | ((with_reducible apply Wd_gsT); (exact rfl); ((conv => lhs; simp -implicitDefEqProofs [*]) <;> exact rfl))
        | ((with_reducible apply Wd_gsF); (exact rfl); ((conv => lhs; simp -implicitDefEqProofs [*]) <;> exact rfl))
        | ((with_reducible apply ex4); (conv => lhs; simp -implicitDefEqProofs [*]) <;> exact rfl)
        | (with_reducible apply W_sblock) | (with_reducible apply W_block) | (with_reducible apply W_sskip) | (with_reducible apply W_skip) | (with_reducible apply W_sret) | (with_reducible apply W_ret) | (with_reducible apply W_sexit) | (with_reducible apply W_exit)
        | (with_reducible apply thenW_n) | (with_reducible apply thenW_r) | (with_reducible apply thenW_e) | (with_reducible apply inB_n) | (with_reducible apply inB_r) | (with_reducible apply inB_e) | ((with_reducible apply inB_o); rotate_left; exact rfl)
        | ((with_reducible apply EndQ_ret); (conv => lhs; simp -implicitDefEqProofs [*]) <;> exact rfl) | ((with_reducible apply EndQ_normal); (conv => lhs; simp -implicitDefEqProofs [*]) <;> exact rfl)
        | (with_reducible apply thenT_n) | (with_reducible apply thenT_r) | (with_reducible apply thenT_e))
      have hrowI : ((insAt (idL n) b.ins k).map Tac.row).set k [iv u.op, iv u.d, iv u.a, iv u.b, iv u.k, iv u.base, iv u.size, .sc (.int .u32 u.n)] = (insAt (idL n) b.ins (k + 1)).map Tac.row := HROW.out
      by_cases hd : 0 ≤ setsZ u.op u.d
      · have hds : setsZ u.op u.d = b.ins[k].sets := HSETS.out
        have hlt' := HSR.out (by rw [← hds]; exact hd)
        rw [← hds] at hlt'
        obtain ⟨dn, hdn⟩ : ∃ dn : Nat, setsZ u.op u.d = dn := ⟨(setsZ u.op u.d).toNat, by omega⟩
        have hdl : dn < l.length := by rw [hrng.1]; omega
        have hstep := HSTEP.out
        rw [← hds, hdn] at hstep
        rw [if_pos (by omega)] at hstep
        simp only [Int.toNat_natCast] at hstep
        have HST := Lib.hid hstep
        clear hstep hds hlt' hd HSETS HSR HSTEP
        refine T_ct (by simp [hdn]) ?_
        refine T_seq (T_region ?_)
        repeat' (first
          | ((with_reducible apply To_u E0_law call0_ok); ((conv => lhs; simp -implicitDefEqProofs [*]) <;> exact rfl); (decide))
          | ((with_reducible apply To_n E0_law call0_ok); ((conv => lhs; simp -implicitDefEqProofs [*]) <;> exact rfl))
          | (with_reducible apply To_nil) | (with_reducible apply thenT_n) | (with_reducible apply thenT_r) | (with_reducible apply thenT_e))
        refine To_call (Qc := fun hp' M' => ∃ to', CS hp' 1 2 2 (fwdForget l dn) to' ∧ CpOk M' (fwdForget l dn) to' ∧ SameBut hp' _) (by decide) okFn_31 Try.func31 rfl bodyOk_31 rfl rfl (fun N' B' hN => by
          subst hN
          exact t31 rfl K B' _ _ _ 1 2 2 l to dn (by simp [q5]) (by simp [hdn]) ⟨by simp [qC], by simp [qF], by simp [qT]⟩ hcp hdl) ?_
        rintro hp2 M2 ⟨to2, hcs2, hcp2, hsb⟩
        refine To_nil (thenT_n ?_)
        have p9 : hp2 n9 = .box g9 [iv u.op, iv u.d, iv u.a, iv u.b, iv u.k, iv u.base, iv u.size, .sc (.int .u32 u.n)] false := by rw [hsb n9 (by decide) (by decide)]; simp [q9']
        have pB : hp2 nB = .box 1 [.sl false 8 (b.ins.map Tac.row), iv b.en, iv b.v, iv b.to, iv b.el] false := by rw [hsb nB (by decide) (by decide)]; simp [qB]
        have pR : hp2 nR = .box 1 [.own ⟨0, 4, 1⟩ 1 0, iv 0, iv 0, iv 0, iv 0] false := by rw [hsb nR (by decide) (by decide)]; simp [qR]
        have pR1 : hp2 ⟨0, 4, 1⟩ = .arr 1 8 40 [] false := by rw [hsb ⟨0, 4, 1⟩ (by decide) (by decide)]; simp [qR1]
        have pI : hp2 nI = .arr 1 8 40 ((insAt (idL n) b.ins (k + 1)).map Tac.row) false := by rw [hsb nI (by decide) (by decide)]; simp [hrowI]
        have hget : (fwdForget l dn)[dn]? = some (dn : Int) := by rw [forget_get, if_pos ⟨rfl, hdl⟩]
        clear hsb qC qF qT qB qR qR1 qI q9' hrowI HROW hcp
        have hcC := hcs2.box
        have hcF := hcs2.from'
        have hcT := hcs2.to'
        by_cases hop2 : u.op = 2
        · have hb2 : b.ins[k].op = 2 := by rw [← HOP.out]; exact hop2
          have hua := HFA.out hb2
          have hin2 := HIN.out hb2
          rw [← hua] at hin2
          have hst := HST.out
          rw [hb2, ← hua] at hst
          simp only [true_and] at hst
          obtain ⟨an, han⟩ : ∃ an : Nat, u.a = an := ⟨u.a.toNat, by omega⟩
          have hanl : an < n := by omega
          rw [han] at hst
          clear hua hin2 HST HOP HFA HIN
          rw [hop2] at hdn
          by_cases hne : (an : Int) = dn
          · rw [if_neg (by simpa using hne)] at hst
            have HS2 := Lib.hid hst
            clear hst
            refine T_seq ?_
            refine T_ord mixed0 E0_law call0_ok (by kernel_rfl) ?_
            repeat' (first
              | ((with_reducible apply Wo_u); (conv => lhs; simp -implicitDefEqProofs [*]) <;> exact rfl)
              | ((with_reducible apply Wo_n); (conv => lhs; simp -implicitDefEqProofs [*]) <;> exact rfl)
              | (with_reducible apply Wo_nil)
              | ((with_reducible apply Wo_gt); (exact rfl); ((conv => lhs; simp -implicitDefEqProofs [*]) <;> exact rfl); (conv => lhs; simp -implicitDefEqProofs [*]) <;> exact rfl)
              | ((with_reducible apply Wo_gf); (exact rfl); ((conv => lhs; simp -implicitDefEqProofs [*]) <;> exact rfl); (exact rfl))
              | ((with_reducible apply Wo_gx); (exact rfl); ((conv => lhs; simp -implicitDefEqProofs [*]) <;> exact rfl))
              | ((with_reducible apply Wo_gsT); (exact rfl); ((conv => lhs; simp -implicitDefEqProofs [*]) <;> exact rfl))
              | ((with_reducible apply Wo_gsF); (exact rfl); ((conv => lhs; simp -implicitDefEqProofs [*]) <;> exact rfl))
              | ((with_reducible apply ex2); (conv => lhs; simp -implicitDefEqProofs [*]) <;> exact rfl)
              | (with_reducible apply W_ss) | (with_reducible apply W_srl) | (with_reducible apply W_rl)
              | ((with_reducible apply W_srdl); kernel_rfl) | ((with_reducible apply W_rdl); kernel_rfl)
              | ((with_reducible apply Wd_u); (conv => lhs; simp -implicitDefEqProofs [*]) <;> exact rfl)
              | ((with_reducible apply Wd_n); (conv => lhs; simp -implicitDefEqProofs [*]) <;> exact rfl)
              | ((with_reducible apply Wd_nil); exact rfl)
              | ((with_reducible apply Wd_gsT); (exact rfl); ((conv => lhs; simp -implicitDefEqProofs [*]) <;> exact rfl))
              | ((with_reducible apply Wd_gsF); (exact rfl); ((conv => lhs; simp -implicitDefEqProofs [*]) <;> exact rfl))
              | ((with_reducible apply ex4); (conv => lhs; simp -implicitDefEqProofs [*]) <;> exact rfl)
              | (with_reducible apply W_sblock) | (with_reducible apply W_block) | (with_reducible apply W_sskip) | (with_reducible apply W_skip) | (with_reducible apply W_sret) | (with_reducible apply W_ret) | (with_reducible apply W_sexit) | (with_reducible apply W_exit)
              | (with_reducible apply thenW_n) | (with_reducible apply thenW_r) | (with_reducible apply thenW_e) | (with_reducible apply inB_n) | (with_reducible apply inB_r) | (with_reducible apply inB_e) | ((with_reducible apply inB_o); rotate_left; exact rfl)
              | ((with_reducible apply EndQ_ret); (conv => lhs; simp -implicitDefEqProofs [*]) <;> exact rfl) | ((with_reducible apply EndQ_normal); (conv => lhs; simp -implicitDefEqProofs [*]) <;> exact rfl)
              | (with_reducible apply thenT_n) | (with_reducible apply thenT_r) | (with_reducible apply thenT_e))
            refine T_cf (by simp [hne]) (T_skip ?_)
            repeat (first | (with_reducible apply thenT_e) | (with_reducible apply thenT_r) | (with_reducible apply inT_e) | (with_reducible apply inT_n) | (with_reducible apply thenT_n))
            refine ⟨rfl, to2, ?_⟩
            rw [HS2.out]
            exact ⟨by simp [*], by simp [*], by simp [*], by simp [*], by simp [*], by simp [*], by simp [*], ⟨hcC, hcF, hcT⟩, hcp2, pB, pR, pR1, pI⟩
          · rw [if_pos (by simpa using hne)] at hst
            have HS2 := Lib.hid hst
            clear hst
            refine T_seq ?_
            refine T_ord mixed0 E0_law call0_ok (by kernel_rfl) ?_
            repeat' (first
              | ((with_reducible apply Wo_u); (conv => lhs; simp -implicitDefEqProofs [*]) <;> exact rfl)
              | ((with_reducible apply Wo_n); (conv => lhs; simp -implicitDefEqProofs [*]) <;> exact rfl)
              | (with_reducible apply Wo_nil)
              | ((with_reducible apply Wo_gt); (exact rfl); ((conv => lhs; simp -implicitDefEqProofs [*]) <;> exact rfl); (conv => lhs; simp -implicitDefEqProofs [*]) <;> exact rfl)
              | ((with_reducible apply Wo_gf); (exact rfl); ((conv => lhs; simp -implicitDefEqProofs [*]) <;> exact rfl); (exact rfl))
              | ((with_reducible apply Wo_gx); (exact rfl); ((conv => lhs; simp -implicitDefEqProofs [*]) <;> exact rfl))
              | ((with_reducible apply Wo_gsT); (exact rfl); ((conv => lhs; simp -implicitDefEqProofs [*]) <;> exact rfl))
              | ((with_reducible apply Wo_gsF); (exact rfl); ((conv => lhs; simp -implicitDefEqProofs [*]) <;> exact rfl))
              | ((with_reducible apply ex2); (conv => lhs; simp -implicitDefEqProofs [*]) <;> exact rfl)
              | (with_reducible apply W_ss) | (with_reducible apply W_srl) | (with_reducible apply W_rl)
              | ((with_reducible apply W_srdl); kernel_rfl) | ((with_reducible apply W_rdl); kernel_rfl)
              | ((with_reducible apply Wd_u); (conv => lhs; simp -implicitDefEqProofs [*]) <;> exact rfl)
              | ((with_reducible apply Wd_n); (conv => lhs; simp -implicitDefEqProofs [*]) <;> exact rfl)
              | ((with_reducible apply Wd_nil); exact rfl)
              | ((with_reducible apply Wd_gsT); (exact rfl); ((conv => lhs; simp -implicitDefEqProofs [*]) <;> exact rfl))
              | ((with_reducible apply Wd_gsF); (exact rfl); ((conv => lhs; simp -implicitDefEqProofs [*]) <;> exact rfl))
              | ((with_reducible apply ex4); (conv => lhs; simp -implicitDefEqProofs [*]) <;> exact rfl)
              | (with_reducible apply W_sblock) | (with_reducible apply W_block) | (with_reducible apply W_sskip) | (with_reducible apply W_skip) | (with_reducible apply W_sret) | (with_reducible apply W_ret) | (with_reducible apply W_sexit) | (with_reducible apply W_exit)
              | (with_reducible apply thenW_n) | (with_reducible apply thenW_r) | (with_reducible apply thenW_e) | (with_reducible apply inB_n) | (with_reducible apply inB_r) | (with_reducible apply inB_e) | ((with_reducible apply inB_o); rotate_left; exact rfl)
              | ((with_reducible apply EndQ_ret); (conv => lhs; simp -implicitDefEqProofs [*]) <;> exact rfl) | ((with_reducible apply EndQ_normal); (conv => lhs; simp -implicitDefEqProofs [*]) <;> exact rfl)
              | (with_reducible apply thenT_n) | (with_reducible apply thenT_r) | (with_reducible apply thenT_e))
            refine T_ct (by simp [hne]) ?_
            refine T_region ?_
            repeat' (first
              | ((with_reducible apply To_u E0_law call0_ok); ((conv => lhs; simp -implicitDefEqProofs [*]) <;> exact rfl); (decide))
              | ((with_reducible apply To_n E0_law call0_ok); ((conv => lhs; simp -implicitDefEqProofs [*]) <;> exact rfl))
              | (with_reducible apply To_nil) | (with_reducible apply thenT_n) | (with_reducible apply thenT_r) | (with_reducible apply thenT_e))
            refine To_call (Qc := fun hp' M' => ∃ to', CS hp' 1 2 2 ((fwdForget l dn).set dn an) to' ∧ CpOk M' ((fwdForget l dn).set dn an) to' ∧ SameBut hp' hp2) (by decide) okFn_32 Try.func32 rfl bodyOk_32 rfl rfl (fun N' B' hN => by
              subst hN
              exact t32 rfl K B' _ _ _ 1 2 2 (fwdForget l dn) to2 dn an (by simp [q5]) (by simp [hdn]) (by simp [han]) hcs2 hcp2 hget (fun e => hne (by rw [e])) (by rw [forget_len, hrng.1]; exact hanl)) ?_
            rintro hp3 M3 ⟨to3, hcs3, hcp3, hsb3⟩
            refine To_nil ?_
            repeat (first | (with_reducible apply thenT_e) | (with_reducible apply thenT_r) | (with_reducible apply inT_e) | (with_reducible apply inT_n) | (with_reducible apply thenT_n))
            refine ⟨rfl, to3, ?_⟩
            rw [HS2.out]
            exact ⟨by simp [*], by simp [*], by simp [*], by simp [*], by simp [*], by simp [*], by simp [*], hcs3, hcp3, (hsb3 nB (by decide) (by decide)).trans pB, (hsb3 nR (by decide) (by decide)).trans pR, (hsb3 ⟨0, 4, 1⟩ (by decide) (by decide)).trans pR1, (hsb3 nI (by decide) (by decide)).trans pI⟩
        · have hst := HST.out
          rw [if_neg (by rw [← HOP.out]; exact fun h => hop2 h.1)] at hst
          have HS2 := Lib.hid hst
          have e2 : (u.op == 2) = false := by simpa using hop2
          clear hst HST HOP HFA HIN
          refine T_seq ?_
          refine T_ord mixed0 E0_law call0_ok (by kernel_rfl) ?_
          repeat' (first
            | ((with_reducible apply Wo_u); (conv => lhs; simp -implicitDefEqProofs [*]) <;> exact rfl)
            | ((with_reducible apply Wo_n); (conv => lhs; simp -implicitDefEqProofs [*]) <;> exact rfl)
            | (with_reducible apply Wo_nil)
            | ((with_reducible apply Wo_gt); (exact rfl); ((conv => lhs; simp -implicitDefEqProofs [*]) <;> exact rfl); (conv => lhs; simp -implicitDefEqProofs [*]) <;> exact rfl)
            | ((with_reducible apply Wo_gf); (exact rfl); ((conv => lhs; simp -implicitDefEqProofs [*]) <;> exact rfl); (exact rfl))
            | ((with_reducible apply Wo_gx); (exact rfl); ((conv => lhs; simp -implicitDefEqProofs [*]) <;> exact rfl))
            | ((with_reducible apply Wo_gsT); (exact rfl); ((conv => lhs; simp -implicitDefEqProofs [*]) <;> exact rfl))
            | ((with_reducible apply Wo_gsF); (exact rfl); ((conv => lhs; simp -implicitDefEqProofs [*]) <;> exact rfl))
            | ((with_reducible apply ex2); (conv => lhs; simp -implicitDefEqProofs [*]) <;> exact rfl)
            | (with_reducible apply W_ss) | (with_reducible apply W_srl) | (with_reducible apply W_rl)
            | ((with_reducible apply W_srdl); kernel_rfl) | ((with_reducible apply W_rdl); kernel_rfl)
            | ((with_reducible apply Wd_u); (conv => lhs; simp -implicitDefEqProofs [*]) <;> exact rfl)
            | ((with_reducible apply Wd_n); (conv => lhs; simp -implicitDefEqProofs [*]) <;> exact rfl)
            | ((with_reducible apply Wd_nil); exact rfl)
            | ((with_reducible apply Wd_gsT); (exact rfl); ((conv => lhs; simp -implicitDefEqProofs [*]) <;> exact rfl))
            | ((with_reducible apply Wd_gsF); (exact rfl); ((conv => lhs; simp -implicitDefEqProofs [*]) <;> exact rfl))
            | ((with_reducible apply ex4); (conv => lhs; simp -implicitDefEqProofs [*]) <;> exact rfl)
            | (with_reducible apply W_sblock) | (with_reducible apply W_block) | (with_reducible apply W_sskip) | (with_reducible apply W_skip) | (with_reducible apply W_sret) | (with_reducible apply W_ret) | (with_reducible apply W_sexit) | (with_reducible apply W_exit)
            | (with_reducible apply thenW_n) | (with_reducible apply thenW_r) | (with_reducible apply thenW_e) | (with_reducible apply inB_n) | (with_reducible apply inB_r) | (with_reducible apply inB_e) | ((with_reducible apply inB_o); rotate_left; exact rfl)
            | ((with_reducible apply EndQ_ret); (conv => lhs; simp -implicitDefEqProofs [*]) <;> exact rfl) | ((with_reducible apply EndQ_normal); (conv => lhs; simp -implicitDefEqProofs [*]) <;> exact rfl)
            | (with_reducible apply thenT_n) | (with_reducible apply thenT_r) | (with_reducible apply thenT_e))
          refine T_cf (by simp) (T_skip ?_)
          repeat (first | (with_reducible apply thenT_e) | (with_reducible apply thenT_r) | (with_reducible apply inT_e) | (with_reducible apply inT_n) | (with_reducible apply thenT_n))
          refine ⟨rfl, to2, ?_⟩
          rw [HS2.out]
          exact ⟨by simp [*], by simp [*], by simp [*], by simp [*], by simp [*], by simp [*], by simp [*], ⟨hcC, hcF, hcT⟩, hcp2, pB, pR, pR1, pI⟩
      · have hst := HSTEP.out
        rw [if_neg (by rw [← HSETS.out]; exact hd)] at hst
        refine T_cf (by simp [hd]) (T_skip ?_)
        repeat (first | (with_reducible apply thenT_e) | (with_reducible apply thenT_r) | (with_reducible apply inT_e) | (with_reducible apply inT_n) | (with_reducible apply thenT_n))
        refine ⟨rfl, to, ?_⟩
        rw [hst]
        exact ⟨by simp [*], by simp [*], by simp [*], by simp [*], by simp [*], by simp [*], by simp [*], ⟨by simp [*], by simp [*], by simp [*]⟩, hcp, by simp [*], by simp [*], by simp [*], by simp [*]⟩
    · rintro e ⟨fr1, hp1⟩ M3 ⟨rfl, to3, r⟩
      refine thenT_n ?_
      obtain ⟨r35, r34, r33, r7, r5, r2, r4, rcs, rcp, rB, rR, rR1, rI⟩ := r
      simp only at r35 r34 r33 r7 r5 r2 r4 rcs rB rR rR1 rI
      rw [← HS.out] at rcs rcp
      refine T_ord mixed0 E0_law call0_ok (by kernel_rfl) ?_
      repeat' (first
        | ((with_reducible apply Wo_u); (conv => lhs; simp -implicitDefEqProofs [*]) <;> exact rfl)
        | ((with_reducible apply Wo_n); (conv => lhs; simp -implicitDefEqProofs [*]) <;> exact rfl)
        | (with_reducible apply Wo_nil)
        | ((with_reducible apply Wo_gt); (exact rfl); ((conv => lhs; simp -implicitDefEqProofs [*]) <;> exact rfl); (conv => lhs; simp -implicitDefEqProofs [*]) <;> exact rfl)
        | ((with_reducible apply Wo_gf); (exact rfl); ((conv => lhs; simp -implicitDefEqProofs [*]) <;> exact rfl); (exact rfl))
        | ((with_reducible apply Wo_gx); (exact rfl); ((conv => lhs; simp -implicitDefEqProofs [*]) <;> exact rfl))
        | ((with_reducible apply Wo_gsT); (exact rfl); ((conv => lhs; simp -implicitDefEqProofs [*]) <;> exact rfl))
        | ((with_reducible apply Wo_gsF); (exact rfl); ((conv => lhs; simp -implicitDefEqProofs [*]) <;> exact rfl))
        | ((with_reducible apply ex2); (conv => lhs; simp -implicitDefEqProofs [*]) <;> exact rfl)
        | (with_reducible apply W_ss) | (with_reducible apply W_srl) | (with_reducible apply W_rl)
        | ((with_reducible apply W_srdl); kernel_rfl) | ((with_reducible apply W_rdl); kernel_rfl)
        | ((with_reducible apply Wd_u); (conv => lhs; simp -implicitDefEqProofs [*]) <;> exact rfl)
        | ((with_reducible apply Wd_n); (conv => lhs; simp -implicitDefEqProofs [*]) <;> exact rfl)
        | ((with_reducible apply Wd_nil); exact rfl)
        | ((with_reducible apply Wd_gsT); (exact rfl); ((conv => lhs; simp -implicitDefEqProofs [*]) <;> exact rfl))
        | ((with_reducible apply Wd_gsF); (exact rfl); ((conv => lhs; simp -implicitDefEqProofs [*]) <;> exact rfl))
        | ((with_reducible apply ex4); (conv => lhs; simp -implicitDefEqProofs [*]) <;> exact rfl)
        | (with_reducible apply W_sblock) | (with_reducible apply W_block) | (with_reducible apply W_sskip) | (with_reducible apply W_skip) | (with_reducible apply W_sret) | (with_reducible apply W_ret) | (with_reducible apply W_sexit) | (with_reducible apply W_exit)
        | (with_reducible apply thenW_n) | (with_reducible apply thenW_r) | (with_reducible apply thenW_e) | (with_reducible apply inB_n) | (with_reducible apply inB_r) | (with_reducible apply inB_e) | ((with_reducible apply inB_o); rotate_left; exact rfl)
        | ((with_reducible apply EndQ_ret); (conv => lhs; simp -implicitDefEqProofs [*]) <;> exact rfl) | ((with_reducible apply EndQ_normal); (conv => lhs; simp -implicitDefEqProofs [*]) <;> exact rfl)
        | (with_reducible apply thenT_n) | (with_reducible apply thenT_r) | (with_reducible apply thenT_e))
      exact ⟨b.ins.length - (k + 1), by omega, k + 1, to3, rfl, hlt, by simp, by simp [*], by simp [*], by simp [*], by simp [*], by simp [*], by simp [*], rcs, rcp, by simp [*], by simp [*], by simp [*], by simp [*]⟩
  · obtain rfl : k = b.ins.length := by omega
    rw [insAt_all] at kI
    have hol : (outs (idL n) b.ins).length = b.ins.length := by simp [outs]
    have hrn := stN_rng (idL_rng n) hok.ins b.ins.length (Nat.le_refl _)
    have hvok := hok.v
    generalize hl : stN (idL n) b.ins b.ins.length = l at *
    have hB : (fwdBlk n b).ins = outs (idL n) b.ins := by simp [fwdBlk]
    have hV : (fwdBlk n b).v = if b.en = 2 then atL l b.v else b.v := by simp [fwdBlk, hl]
    rw [hB, hV]
    clear hB hV hok hl
    have hcC := hcs.box
    have hcF := hcs.from'
    rw [hrn.1] at hcC
    have hon : ¬ b.ins.length < b.ins.length := by omega
    refine T_seq ?_
    refine T_ord mixed0 E0_law call0_ok (by kernel_rfl) ?_
    repeat' (first
      | ((with_reducible apply Wo_u); (conv => lhs; simp -implicitDefEqProofs [*]) <;> exact rfl)
      | ((with_reducible apply Wo_n); (conv => lhs; simp -implicitDefEqProofs [*]) <;> exact rfl)
      | (with_reducible apply Wo_nil)
      | ((with_reducible apply Wo_gt); (exact rfl); ((conv => lhs; simp -implicitDefEqProofs [*]) <;> exact rfl); (conv => lhs; simp -implicitDefEqProofs [*]) <;> exact rfl)
      | ((with_reducible apply Wo_gf); (exact rfl); ((conv => lhs; simp -implicitDefEqProofs [*]) <;> exact rfl); (exact rfl))
      | ((with_reducible apply Wo_gx); (exact rfl); ((conv => lhs; simp -implicitDefEqProofs [*]) <;> exact rfl))
      | ((with_reducible apply Wo_gsT); (exact rfl); ((conv => lhs; simp -implicitDefEqProofs [*]) <;> exact rfl))
      | ((with_reducible apply Wo_gsF); (exact rfl); ((conv => lhs; simp -implicitDefEqProofs [*]) <;> exact rfl))
      | ((with_reducible apply ex2); (conv => lhs; simp -implicitDefEqProofs [*]) <;> exact rfl)
      | (with_reducible apply W_ss) | (with_reducible apply W_srl) | (with_reducible apply W_rl)
      | ((with_reducible apply W_srdl); kernel_rfl) | ((with_reducible apply W_rdl); kernel_rfl)
      | ((with_reducible apply Wd_u); (conv => lhs; simp -implicitDefEqProofs [*]) <;> exact rfl)
      | ((with_reducible apply Wd_n); (conv => lhs; simp -implicitDefEqProofs [*]) <;> exact rfl)
      | ((with_reducible apply Wd_nil); exact rfl)
      | ((with_reducible apply Wd_gsT); (exact rfl); ((conv => lhs; simp -implicitDefEqProofs [*]) <;> exact rfl))
      | ((with_reducible apply Wd_gsF); (exact rfl); ((conv => lhs; simp -implicitDefEqProofs [*]) <;> exact rfl))
      | ((with_reducible apply ex4); (conv => lhs; simp -implicitDefEqProofs [*]) <;> exact rfl)
      | (with_reducible apply W_sblock) | (with_reducible apply W_block) | (with_reducible apply W_sskip) | (with_reducible apply W_skip) | (with_reducible apply W_sret) | (with_reducible apply W_ret) | (with_reducible apply W_sexit) | (with_reducible apply W_exit)
      | (with_reducible apply thenW_n) | (with_reducible apply thenW_r) | (with_reducible apply thenW_e) | (with_reducible apply inB_n) | (with_reducible apply inB_r) | (with_reducible apply inB_e) | ((with_reducible apply inB_o); rotate_left; exact rfl)
      | ((with_reducible apply EndQ_ret); (conv => lhs; simp -implicitDefEqProofs [*]) <;> exact rfl) | ((with_reducible apply EndQ_normal); (conv => lhs; simp -implicitDefEqProofs [*]) <;> exact rfl)
      | (with_reducible apply thenT_n) | (with_reducible apply thenT_r) | (with_reducible apply thenT_e))
    refine T_seq (T_cf (by simp) (T_exit ?_))
    repeat (first | (with_reducible apply thenT_e) | (with_reducible apply thenT_r) | (with_reducible apply inT_e) | (with_reducible apply inT_n) | (with_reducible apply thenT_n))
    by_cases hen : b.en = 2
    · have hv := hvok hen
      have hat := atL_get hrn hv.1 hv.2
      have hga : (rowsF l)[b.v.toNat]? = some [iv (atL l b.v)] := by rw [rowsF_get, hat.1]; rfl
      have hv0 := hv.1
      have hvn : b.v.toNat < n := by omega
      clear hat hv hvok
      refine T_ord mixed0 E0_law call0_ok (by kernel_rfl) ?_
      repeat' (first
        | ((with_reducible apply Wo_u); (conv => lhs; simp -implicitDefEqProofs [*]) <;> exact rfl)
        | ((with_reducible apply Wo_n); (conv => lhs; simp -implicitDefEqProofs [*]) <;> exact rfl)
        | (with_reducible apply Wo_nil)
        | ((with_reducible apply Wo_gt); (exact rfl); ((conv => lhs; simp -implicitDefEqProofs [*]) <;> exact rfl); (conv => lhs; simp -implicitDefEqProofs [*]) <;> exact rfl)
        | ((with_reducible apply Wo_gf); (exact rfl); ((conv => lhs; simp -implicitDefEqProofs [*]) <;> exact rfl); (exact rfl))
        | ((with_reducible apply Wo_gx); (exact rfl); ((conv => lhs; simp -implicitDefEqProofs [*]) <;> exact rfl))
        | ((with_reducible apply Wo_gsT); (exact rfl); ((conv => lhs; simp -implicitDefEqProofs [*]) <;> exact rfl))
        | ((with_reducible apply Wo_gsF); (exact rfl); ((conv => lhs; simp -implicitDefEqProofs [*]) <;> exact rfl))
        | ((with_reducible apply ex2); (conv => lhs; simp -implicitDefEqProofs [*]) <;> exact rfl)
        | (with_reducible apply W_ss) | (with_reducible apply W_srl) | (with_reducible apply W_rl)
        | ((with_reducible apply W_sc); (conv => lhs; simp -implicitDefEqProofs [*]) <;> exact rfl)
        | ((with_reducible apply W_c); (conv => lhs; simp -implicitDefEqProofs [*]) <;> exact rfl)
        | ((with_reducible apply W_srdl); kernel_rfl) | ((with_reducible apply W_rdl); kernel_rfl)
        | ((with_reducible apply Wd_u); (conv => lhs; simp -implicitDefEqProofs [*]) <;> exact rfl)
        | ((with_reducible apply Wd_n); (conv => lhs; simp -implicitDefEqProofs [*]) <;> exact rfl)
        | ((with_reducible apply Wd_nil); exact rfl)
        | ((with_reducible apply Wd_gsT); (exact rfl); ((conv => lhs; simp -implicitDefEqProofs [*]) <;> exact rfl))
        | ((with_reducible apply Wd_gsF); (exact rfl); ((conv => lhs; simp -implicitDefEqProofs [*]) <;> exact rfl))
        | ((with_reducible apply ex4); (conv => lhs; simp -implicitDefEqProofs [*]) <;> exact rfl)
        | (with_reducible apply W_sblock) | (with_reducible apply W_block) | (with_reducible apply W_sskip) | (with_reducible apply W_skip) | (with_reducible apply W_sret) | (with_reducible apply W_ret) | (with_reducible apply W_sexit) | (with_reducible apply W_exit)
        | (with_reducible apply thenW_n) | (with_reducible apply thenW_r) | (with_reducible apply thenW_e) | (with_reducible apply inB_n) | (with_reducible apply inB_r) | (with_reducible apply inB_e) | ((with_reducible apply inB_o); rotate_left; exact rfl)
        | ((with_reducible apply EndQ_ret); (conv => lhs; simp -implicitDefEqProofs [*]) <;> exact rfl) | ((with_reducible apply EndQ_normal); (conv => lhs; simp -implicitDefEqProofs [*]) <;> exact rfl)
        | (intro h h'; try simp [*, -h] at h'))
      all_goals refine ⟨fun i => nofun, ?_⟩
      all_goals rw [show Try.f22.resultTypes.toList = [37] from rfl, show Try.f22.results.toList = [ResultVar.cell 4 37] from rfl]
      all_goals simp [*]
    · have hen2 : (b.en == 2) = false := by simpa using hen
      refine T_ord mixed0 E0_law call0_ok (by kernel_rfl) ?_
      repeat' (first
        | ((with_reducible apply Wo_u); (conv => lhs; simp -implicitDefEqProofs [*]) <;> exact rfl)
        | ((with_reducible apply Wo_n); (conv => lhs; simp -implicitDefEqProofs [*]) <;> exact rfl)
        | (with_reducible apply Wo_nil)
        | ((with_reducible apply Wo_gt); (exact rfl); ((conv => lhs; simp -implicitDefEqProofs [*]) <;> exact rfl); (conv => lhs; simp -implicitDefEqProofs [*]) <;> exact rfl)
        | ((with_reducible apply Wo_gf); (exact rfl); ((conv => lhs; simp -implicitDefEqProofs [*]) <;> exact rfl); (exact rfl))
        | ((with_reducible apply Wo_gx); (exact rfl); ((conv => lhs; simp -implicitDefEqProofs [*]) <;> exact rfl))
        | ((with_reducible apply Wo_gsT); (exact rfl); ((conv => lhs; simp -implicitDefEqProofs [*]) <;> exact rfl))
        | ((with_reducible apply Wo_gsF); (exact rfl); ((conv => lhs; simp -implicitDefEqProofs [*]) <;> exact rfl))
        | ((with_reducible apply ex2); (conv => lhs; simp -implicitDefEqProofs [*]) <;> exact rfl)
        | (with_reducible apply W_ss) | (with_reducible apply W_srl) | (with_reducible apply W_rl)
        | ((with_reducible apply W_sc); (conv => lhs; simp -implicitDefEqProofs [*]) <;> exact rfl)
        | ((with_reducible apply W_c); (conv => lhs; simp -implicitDefEqProofs [*]) <;> exact rfl)
        | ((with_reducible apply W_srdl); kernel_rfl) | ((with_reducible apply W_rdl); kernel_rfl)
        | ((with_reducible apply Wd_u); (conv => lhs; simp -implicitDefEqProofs [*]) <;> exact rfl)
        | ((with_reducible apply Wd_n); (conv => lhs; simp -implicitDefEqProofs [*]) <;> exact rfl)
        | ((with_reducible apply Wd_nil); exact rfl)
        | ((with_reducible apply Wd_gsT); (exact rfl); ((conv => lhs; simp -implicitDefEqProofs [*]) <;> exact rfl))
        | ((with_reducible apply Wd_gsF); (exact rfl); ((conv => lhs; simp -implicitDefEqProofs [*]) <;> exact rfl))
        | ((with_reducible apply ex4); (conv => lhs; simp -implicitDefEqProofs [*]) <;> exact rfl)
        | (with_reducible apply W_sblock) | (with_reducible apply W_block) | (with_reducible apply W_sskip) | (with_reducible apply W_skip) | (with_reducible apply W_sret) | (with_reducible apply W_ret) | (with_reducible apply W_sexit) | (with_reducible apply W_exit)
        | (with_reducible apply thenW_n) | (with_reducible apply thenW_r) | (with_reducible apply thenW_e) | (with_reducible apply inB_n) | (with_reducible apply inB_r) | (with_reducible apply inB_e) | ((with_reducible apply inB_o); rotate_left; exact rfl)
        | ((with_reducible apply EndQ_ret); (conv => lhs; simp -implicitDefEqProofs [*]) <;> exact rfl) | ((with_reducible apply EndQ_normal); (conv => lhs; simp -implicitDefEqProofs [*]) <;> exact rfl)
        | (intro h h'; try simp [*, -h] at h'))
      all_goals refine ⟨fun i => nofun, ?_⟩
      all_goals rw [show Try.f22.resultTypes.toList = [37] from rfl, show Try.f22.results.toList = [ResultVar.cell 4 37] from rfl]
      all_goals simp [*]
end Go.Proofs.Ytmfhdhiaokejdaa

namespace Go.Proofs.Ytmfhdhiaokejdaa
open Go Go.Ab
set_option linter.unusedSimpArgs false
set_option linter.unusedVariables false
def Tac.okRB (t : Tac) (n : Nat) : Bool := t.uses.all (fun x => decide (0 ≤ x) && decide (x < n)) && (decide (t.sets < 0) || decide (t.sets < n))
def Blk.okRB (b : Blk) (n : Nat) : Bool := b.ins.all (fun t => t.okRB n) && (!(b.en == 2) || (decide (0 ≤ b.v) && decide (b.v < n)))
theorem Tac.okRB_iff (t : Tac) (n : Nat) : t.okRB n = true ↔ t.okR n := by
  unfold Tac.okRB Tac.okR
  simp only [Bool.and_eq_true, List.all_eq_true, decide_eq_true_eq, Bool.or_eq_true]
  constructor
  · rintro ⟨h1, h2⟩; exact ⟨h1, fun h => by omega⟩
  · rintro ⟨h1, h2⟩; exact ⟨h1, by omega⟩
theorem Blk.okRB_iff (b : Blk) (n : Nat) : b.okRB n = true ↔ b.okR n := by
  unfold Blk.okRB
  simp only [Bool.and_eq_true, List.all_eq_true, Bool.or_eq_true, Bool.not_eq_true', decide_eq_true_eq]
  constructor
  · rintro ⟨h1, h2⟩
    refine ⟨fun t ht => (Tac.okRB_iff t n).1 (h1 t ht), fun he => ?_⟩
    rcases h2 with h2 | h2
    · simp [he] at h2
    · exact h2
  · rintro ⟨h1, h2⟩
    refine ⟨fun t ht => (Tac.okRB_iff t n).2 (h1 t ht), ?_⟩
    by_cases he : b.en = 2
    · exact .inr (h2 he)
    · left; simpa using he
def decTac : List AV → Option Tac
  | [.sc (.int .i64 op), .sc (.int .i64 d), .sc (.int .i64 a), .sc (.int .i64 b), .sc (.int .i64 k), .sc (.int .i64 base), .sc (.int .i64 size), .sc (.int .u32 n)] => some ⟨op, d, a, b, k, base, size, n⟩
  | _ => none
def decTacs : List (List AV) → Option (List Tac)
  | [] => some []
  | r :: rs => match decTac r, decTacs rs with
    | some t, some ts => some (t :: ts)
    | _, _ => none
theorem decTac_row (t : Tac) : decTac t.row = some t := rfl
theorem decTacs_rows (l : List Tac) : decTacs (l.map Tac.row) = some l := by
  induction l with
  | nil => rfl
  | cons t ts ih => simp only [List.map_cons, decTacs, decTac_row, ih]
theorem decTac_inv {r : List AV} {t : Tac} (h : decTac r = some t) : r = t.row := by
  unfold decTac at h
  split at h
  · cases h; rfl
  · cases h
theorem decTacs_inv : ∀ {rows : List (List AV)} {l : List Tac}, decTacs rows = some l → rows = l.map Tac.row
  | [], l, h => by simp only [decTacs, Option.some.injEq] at h; subst h; rfl
  | r :: rs, l, h => by
    simp only [decTacs] at h
    split at h
    · rename_i t ts h1 h2
      cases h
      rw [decTac_inv h1, decTacs_inv h2]; rfl
    · cases h
def fwdO : List AV → Option (List AV)
  | [.agg [.sl false 8 rows, .sc (.int .i64 en), .sc (.int .i64 v), .sc (.int .i64 to), .sc (.int .i64 el)], .sc (.int .i64 regs)] => match decTacs rows with
    | some ins => if decide (0 ≤ regs) && decide (regs ≤ 4000) && decide (ins.length ≤ 100000) && (Blk.mk ins en v to el).okRB regs.toNat then
        some [.agg [.vec 8 ((fwdBlk regs ⟨ins, en, v, to, el⟩).ins.map Tac.row), iv en, iv (fwdBlk regs ⟨ins, en, v, to, el⟩).v, iv to, iv el]] else none
    | none => none
  | _ => none
def E31 : Cfg := ⟨fun t => t == 40 || t == 47, fun f => f == 35 || f == 29 || f == 37 || f == 38⟩
def X31 : Orc := ⟨fun f args => if f = 22 then fwdO args else none, fun _ _ _ _ _ => none⟩
theorem fwdO_ok {args rs : List AV} (h : fwdO args = some rs) : ∃ (b : Blk) (n : Nat), n ≤ 4000 ∧ b.ins.length ≤ 100000 ∧ b.okR n ∧ args = [.agg b.row, iv n] ∧ rs = [.agg [.vec 8 ((fwdBlk n b).ins.map Tac.row), iv b.en, iv (fwdBlk n b).v, iv b.to, iv b.el]] := by
  unfold fwdO at h
  split at h
  · rename_i rows en v to el regs
    split at h
    · rename_i ins hd
      split at h
      · rename_i hc
        simp only [Bool.and_eq_true, decide_eq_true_eq] at hc
        obtain ⟨⟨⟨h1, h2⟩, h3⟩, h4⟩ := hc
        have e : ((regs.toNat : Nat) : Int) = regs := Int.toNat_of_nonneg h1
        refine ⟨⟨ins, en, v, to, el⟩, regs.toNat, by omega, h3, (Blk.okRB_iff _ _).1 h4, ?_, ?_⟩
        · rw [decTacs_inv hd, e]; rfl
        · rw [e]; exact (Option.some.inj h).symm
      · cases h
    · cases h
  · cases h
theorem X31_ok : OrcOk Try.prog X31 := by
  refine ⟨fun f args rs h hok I w us hI ha => ?_, fun k d f args hp v hp' h => by simp [X31] at h⟩
  simp only [X31] at h
  split at h
  · rename_i hf
    subst hf
    obtain ⟨b, n, hn, hlen, hb, rfl, rfl⟩ := fwdO_ok h
    exact callT Try.func22 rfl bodyOk_22 rfl (fun K B => t22 rfl K B b n hn hlen hb) hI ha
  · cases h
theorem fwd_dat (b : Blk) (n : Nat) (hn : n ≤ 4000) (hlen : b.ins.length ≤ 100000) (hb : b.okR n) : (lim Try.prog E31 X31).dat 22 [.agg b.row, iv n] = some [.agg [.vec 8 ((fwdBlk n b).ins.map Tac.row), iv b.en, iv (fwdBlk n b).v, iv b.to, iv b.el]] := by
  refine lim_dat.2 ⟨0, ?_⟩
  show X31.dat 22 _ = _
  have h4 := (Blk.okRB_iff b n).2 hb
  have e1 : decide ((n : Int) ≤ 4000) = true := by simp; omega
  have e2 : decide (b.ins.length ≤ 100000) = true := by simpa using hlen
  simp only [X31, if_true, fwdO, Blk.row, decTacs_rows]
  rw [if_pos]
  simp only [e1, e2, Int.toNat_natCast, h4, Bool.and_true, decide_eq_true_eq]
  omega
end Go.Proofs.Ytmfhdhiaokejdaa

namespace Go.Proofs.Ytmfhdhiaokejdaa
open Go Go.Ab
set_option linter.unusedSimpArgs false
set_option linter.unusedVariables false
/-- Fields of one plain cell each, in order. -/
def flatFs (P : Program) : Nat → List Field → Bool
  | _, [] => true
  | k, f :: fs => f.offset == k && f.name != "_" && !isAggB P f.type && tOk P f.type && flatFs P (k + 1) fs
theorem run_part {P : Program} {w : World} {t : TypeId} {us : List Value} {off : Nat} {v : Value} (ha : isAggB P t = false) (ho : tOk P t = true) (hv : us[off]? = some v) : (part t ⟨us⟩ off).run P w = .ok v w := by
  unfold tOk at ho
  simp only [Bool.and_eq_true] at ho
  obtain ⟨_, hu⟩ := ho
  obtain ⟨d, hd⟩ := Option.isSome_iff_exists.1 hu
  have hg : (isAgg t).run P w = .ok false w := by
    unfold isAggB at ha
    rw [hd] at ha
    unfold isAgg
    rw [Sem.run_bind, run_underlying hd]
    cases d <;> simp at ha <;> rfl
  simp [part, Sem.run_bind, hg, Result.andThen, hv]
theorem cell_eq {P : Program} {w : World} {t : TypeId} {d : Nat} {u v : Value} {r : Bool} (h1 : cellFits P t (.sc u) = true) (h2 : cellFits P t (.sc v) = true) (h : eqV (.sc u) (.sc v) = some r) : (Op.equalIn (d + 1) t u v).run P w = .ok r w := by
  unfold eqV at h
  split at h
  · rename_i k a k' a' e1 e2
    cases e1; cases e2
    split at h
    · rename_i hk
      subst hk
      cases h
      simp only [cellFits] at h1
      obtain ⟨q, hq⟩ := Option.isSome_iff_exists.1 h1
      unfold intK at hq
      split at hq
      · rename_i hu; exact run_equalIn_int w d t k _ a a' hu
      · cases hq
    · cases h
  · rename_i a a' e1 e2
    cases e1; cases e2
    cases h
    simp only [cellFits, strB] at h1
    split at h1
    · rename_i hu
      rw [run_equalIn_string w d t a a' hu, ByteArray.toList_eq, ByteArray.toList_eq]
      congr 1
      rw [Bool.eq_iff_iff]
      simp only [beq_iff_eq, decide_eq_true_eq]
      constructor
      · intro e; exact ByteArray.ext (Array.ext' e)
      · intro e; rw [e]
    · cases h1
  · rename_i a a' e1 e2
    cases e1; cases e2
    cases h
    simp only [cellFits, bolB] at h1
    split at h1
    · rename_i hu; exact run_equalIn_bool' w d t a a' hu
    · cases h1
  · cases h
theorem fields_eq {P : Program} {w : World} {d : Nat} (us vs : List Value) : ∀ (fs : List Field) (k : Nat) (b : Bool), flatFs P k fs = true → fitsL P (fs.map (·.type)) ((us.drop k).map .sc) = true → fitsL P (fs.map (·.type)) ((vs.drop k).map .sc) = true →
    eqL ((us.drop k).map .sc) ((vs.drop k).map .sc) = some b → (Op.eqFields (d + 1) ⟨us⟩ ⟨vs⟩ fs).run P w = .ok b w
  | [], k, b, _, h1, h2, h => by
    cases hu : us.drop k with
    | cons x xs => rw [hu] at h1; simp [fitsL] at h1
    | nil =>
      cases hv : vs.drop k with
      | cons x xs => rw [hv] at h2; simp [fitsL] at h2
      | nil =>
        rw [hu, hv] at h
        simp only [List.map_nil, eqL, Option.some.injEq] at h
        subst h
        simp [Op.eqFields]
  | f :: fs, k, b, hf, h1, h2, h => by
    simp only [flatFs, Bool.and_eq_true, beq_iff_eq, bne_iff_ne, ne_eq, Bool.not_eq_true'] at hf
    obtain ⟨⟨⟨⟨ho, hn⟩, ha⟩, ht⟩, hrest⟩ := hf
    cases hu : us.drop k with
    | nil => rw [hu] at h1; simp [fitsL] at h1
    | cons x xs =>
      cases hv : vs.drop k with
      | nil => rw [hv] at h2; simp [fitsL] at h2
      | cons y ys =>
        have hx : us[k]? = some x := by have := List.getElem?_drop (xs := us) (i := k) (j := 0); rw [hu] at this; simpa using this.symm
        have hy : vs[k]? = some y := by have := List.getElem?_drop (xs := vs) (i := k) (j := 0); rw [hv] at this; simpa using this.symm
        have hxs : us.drop (k + 1) = xs := by rw [← List.drop_drop, hu]; rfl
        have hys : vs.drop (k + 1) = ys := by rw [← List.drop_drop, hv]; rfl
        rw [hu] at h1 h
        rw [hv] at h2 h
        simp only [List.map_cons, fitsL, Bool.and_eq_true] at h1 h2
        simp only [List.map_cons, eqL] at h
        split at h
        · rename_i p q hp hq
          cases h
          have hc := cell_eq (w := w) (d := d) h1.1 h2.1 hp
          have ih := fields_eq (w := w) (d := d) us vs fs (k + 1) q hrest (by rw [hxs]; exact h1.2) (by rw [hys]; exact h2.2) (by rw [hxs, hys]; exact hq)
          unfold Op.eqFields
          rw [if_pos hn, ho]
          simp only [Sem.run_bind, run_part ha ht hx, run_part ha ht hy, Result.andThen_ok, hc]
          cases p with
          | true => simpa using ih
          | false => simp
        · cases h
theorem struct_law {P : Program} {t : TypeId} (ht : P.underlying t = some (.struct (P.fieldsOf t))) (hs : P.stoodInHeld t = false) (hg : P.eqGuardType P.depth t = false) (hf : flatFs P 0 (P.fieldsOf t).toList = true) (htc : tcs P t = (P.fieldsOf t).toList.map (·.type))
    (w : World) (x y : Operand) (us vs : List Value) (b : Bool) (h1 : fitsL P (tcs P t) (us.map .sc) = true) (h2 : fitsL P (tcs P t) (vs.map .sc) = true) (h : eqL (us.map .sc) (vs.map .sc) = some b) :
    (do eqGuard .eql t x y (.agg ⟨us⟩) (.agg ⟨vs⟩); binOp .eql t (.agg ⟨us⟩) (.agg ⟨vs⟩) : Sem Value).run P w = .ok (.bool b) w ∧
    (do eqGuard .neq t x y (.agg ⟨us⟩) (.agg ⟨vs⟩); binOp .neq t (.agg ⟨us⟩) (.agg ⟨vs⟩) : Sem Value).run P w = .ok (.bool (!b)) w := by
  rw [htc] at h1 h2
  have hq : (Op.equalIn 10000 t (.agg ⟨us⟩) (.agg ⟨vs⟩)).run P w = .ok b w := by
    have e : (10000 : Nat) = 9998 + 1 + 1 := rfl
    rw [e, run_equalIn_struct w (9998 + 1) t ⟨us⟩ ⟨vs⟩ ht hs]
    exact fields_eq us vs _ 0 b hf h1 h2 h
  constructor
  · simp only [Sem.run_bind, run_eqGuard_agg w .eql t x y ⟨us⟩ ⟨vs⟩ hg, Result.andThen_ok, run_eql_struct, hq]
  · simp only [Sem.run_bind, run_eqGuard_agg w .neq t x y ⟨us⟩ ⟨vs⟩ hg, Result.andThen_ok, run_neq_struct, hq]
theorem E31_law : EqLaw Try.prog E31.eq := by
  intro t ht w x y us vs b h1 h2 h
  simp only [E31, Bool.or_eq_true, beq_iff_eq] at ht
  rcases ht with rfl | rfl
  · exact struct_law (by kernel_rfl) (by kernel_rfl) (by kernel_rfl) (by kernel_rfl) (by kernel_rfl) w x y us vs b h1 h2 h
  · exact struct_law (by kernel_rfl) (by kernel_rfl) (by kernel_rfl) (by kernel_rfl) (by kernel_rfl) w x y us vs b h1 h2 h
theorem L31_ok : DatOk Try.prog (lim Try.prog E31 X31) := (lim_ok mixed0 E31_law X31_ok).1
end Go.Proofs.Ytmfhdhiaokejdaa

namespace Go.Proofs.Ytmfhdhiaokejdaa
open Go Go.Ab
set_option linter.unusedSimpArgs false
set_option linter.unusedVariables false
theorem awake_run : (evCall Try.prog E31 X31 60).dat 12 [] = some [bv true] := by kernel_rfl
@[simp] theorem d12 : (lim Try.prog E31 X31).dat 12 [] = some [bv true] := lim_dat.2 ⟨60, awake_run⟩
end Go.Proofs.Ytmfhdhiaokejdaa
