/- Maps with whole numbers for keys: what their operations come to. No program of Go is named here. -/
import Derived.Test.YtmfhdhiaokejdaaMp
namespace Go.Ab
open Go
set_option linter.unusedSimpArgs false
set_option linter.unusedVariables false
open Go.ChangeMaps (setBlock)

section
variable {P : Program} {I K : Nat → Prop} {M : MM} {m : Mp} {hp : Hp} {w : World} {k : Nat}

theorem Gam.lessK {K' : Nat → Prop} (G : Gam I K m hp w) (h : ∀ b, K' b → K b) : Gam I K' m hp w where
  obj := fun x => by
    have := G.obj x
    cases ho : hp x with
    | no g => trivial
    | box g cells fz =>
      rw [ho] at this
      obtain ⟨b, c, us, T, mk, h1, h2, h3, h4, h5, h6⟩ := this
      exact ⟨b, c, us, T, mk, h1, h2, h3, h4, h5, fun hf => ⟨(h6 hf).1, fun hk => (h6 hf).2 (h _ hk)⟩⟩
    | arr g sz e rows fz =>
      rw [ho] at this
      rcases this with h1 | ⟨b, cap, us, mk, h1, h2, h3, h4, h5, h6, h7, h8, h9⟩
      · exact .inl h1
      · exact .inr ⟨b, cap, us, mk, h1, h2, h3, h4, h5, h6, h7, h8, fun hf => ⟨(h9 hf).1, fun hk => (h9 hf).2 (h _ hk)⟩⟩
  inj := G.inj
  ilt := G.ilt
  klt := fun b hb => G.klt b (h b hb)
  ik := fun b hb hk => G.ik b hb (h b hk)
/-- The block of a live object is not one that is kept. -/
theorem Gam.notK (G : Gam I K m hp w) {x : Nm} (hl : (hp x).live = true) {p : Nat × Nat} (hm : m x = some p) : ¬ K p.1 := by
  have h := G.obj x
  cases ho : hp x with
  | no g => rw [ho] at hl; simp [AObj.live] at hl
  | box g c f =>
    rw [ho] at h
    obtain ⟨b, c, us, T, mk, h1, h2, h3, h4, h5, h6⟩ := h
    rw [h1] at hm; cases hm
    cases f with
    | true => exact G.ik _ (h5 rfl).1
    | false => exact (h6 rfl).2
  | arr g sz e rows f =>
    rw [ho] at h
    rcases h with ⟨h1, _⟩ | ⟨b, cap, us, mk, h1, h2, h3, h4, h5, h6, h7, h8, h9⟩
    · rw [h1] at hm; cases hm
    · rw [h1] at hm; cases hm
      cases f with
      | true => exact G.ik _ (h8 rfl)
      | false => exact (h9 rfl).2
theorem Ext.world {w' : World} (W : WX I K w w') : Ext I K m hp w I m hp w' :=
  { isub := fun _ h => h, keep := W.keep, size := W.size, os := W.os, tape := W.tape, output := W.output, gmono := fun _ => Nat.le_refl _, stable := fun x _ => (by cases hp x <;> simp <;> exact ⟨_, _, ⟨rfl, rfl⟩, Nat.le_refl _⟩) }

/-- A map's block turns. -/
theorem HM.set (H : HM K M I m hp w) {b : Nat} {o o' : Obj} (hb : M b = some o) {w' : World} (ho : w'.heap[b]? = some o') (hoth : ∀ c, c ≠ b → w'.heap[c]? = w.heap[c]?) (hsz : w'.heap.size = w.heap.size)
    (hos : w'.os = w.os) (htp : w'.tape = w.tape) (hout : w'.output = w.output) : HM K (mset M b o') I m hp w' ∧ Ext I K m hp w I m hp w' := by
  have hKb : KM K M b := .inr (by rw [hb]; rfl)
  have hI : ∀ c, I c → c ≠ b := fun c hc e => H.gam.ik c hc (e ▸ hKb)
  have hKM : KM K (mset M b o') = KM K M := by
    funext c
    unfold KM mset
    by_cases e : c = b
    · subst e; rw [hb]; simp
    · simp [e]
  have hKne : ∀ c, K c → c ≠ b := fun c hc e => H.nk b (by rw [hb]; rfl) (e ▸ hc)
  have E : Ext I K m hp w I m hp w' := .world ⟨fun c hc => hoth c (hc.elim (hI c) (hKne c)), by omega, hos, htp, hout⟩
  have E2 : Ext I (fun c => KM K M c ∧ c ≠ b) m hp w I m hp w' := .world ⟨fun c hc => hoth c (hc.elim (hI c) (·.2)), by omega, hos, htp, hout⟩
  have G2 := (H.gam.lessK (K' := fun c => KM K M c ∧ c ≠ b) fun c h => h.1).step E2 (fun _ => False) (fun y _ => ⟨rfl, rfl⟩) (fun y h => h.elim)
    (fun y _ hl q hq => hoth _ fun e => H.gam.notK hl hq (e ▸ hKb)) (fun y _ hl _ q hq hn => hn) H.gam.inj (fun c hc => by rw [hsz]; exact H.gam.ilt c hc) (fun c hc hk => H.gam.ik c hc hk.1)
  refine ⟨⟨?_, fun c oc hc => ?_, fun c hc hk => ?_⟩, E⟩
  · rw [hKM]
    exact {
      obj := fun x => by
        have := G2.obj x
        cases hox : hp x with
        | no g => trivial
        | box g cells fz =>
          rw [hox] at this
          obtain ⟨b', c, us, T, mk, h1, h2, h3, h4, h5, h6⟩ := this
          have hnk := H.gam.notK (x := x) (by rw [hox]; rfl) h1
          exact ⟨b', c, us, T, mk, h1, h2, h3, h4, h5, fun hf => ⟨(h6 hf).1, hnk⟩⟩
        | arr g sz e rows fz =>
          rw [hox] at this
          rcases this with h1 | ⟨b', cap, us, mk, h1, h2, h3, h4, h5, h6, h7, h8, h9⟩
          · exact .inl h1
          · have hnk := H.gam.notK (x := x) (by rw [hox]; rfl) h1
            exact .inr ⟨b', cap, us, mk, h1, h2, h3, h4, h5, h6, h7, h8, fun hf => ⟨(h9 hf).1, hnk⟩⟩
      inj := G2.inj
      ilt := G2.ilt
      klt := fun c hc => by rw [hsz]; exact H.gam.klt c hc
      ik := H.gam.ik }
  · by_cases e : c = b
    · subst e; rw [mset_same] at hc; cases hc; exact ho
    · rw [mset_other M o' e] at hc; rw [hoth c e]; exact H.at' c oc hc
  · by_cases e : c = b
    · subst e; exact hKne c hk rfl
    · rw [mset_other M o' e] at hc; exact H.nk c hc hk
/-- A new block, for a map or an iterator. -/
theorem HM.new (H : HM K M I m hp w) (o : Obj) : M w.heap.size = none ∧ HM K (mset M w.heap.size o) I m hp (w.alloc o) ∧ Ext I K m hp w I m hp (w.alloc o) := by
  have hn : M w.heap.size = none := by
    cases h : M w.heap.size with
    | none => rfl
    | some ob => have := H.at' _ _ h; simp at this
  have hW : WX I (KM K M) w (w.alloc o) := .alloc o H.gam.ilt H.gam.klt
  have E : Ext I (KM K M) m hp w I m hp (w.alloc o) := .world hW
  have G2 := H.gam.step E (fun _ => False) (fun y _ => ⟨rfl, rfl⟩) (fun y h => h.elim) (fun y _ hl q hq => heap_old w o (H.gam.blk hl hq)) (fun y _ hl _ q hq hn => hn) H.gam.inj
    (fun c hc => Nat.lt_of_lt_of_le (H.gam.ilt c hc) hW.size) H.gam.ik
  refine ⟨hn, ⟨?_, fun c oc hc => ?_, fun c hc hk => ?_⟩, E.weaken fun b => .inl⟩
  · have key : ∀ c, KM K (mset M w.heap.size o) c → KM K M c ∨ c = w.heap.size := by
      intro c hc
      rcases hc with hc | hc
      · exact .inl (.inl hc)
      · by_cases e : c = w.heap.size
        · exact .inr e
        · rw [mset_other M o e] at hc; exact .inl (.inr hc)
    exact {
      obj := fun x => by
        have := G2.obj x
        cases hox : hp x with
        | no g => trivial
        | box g cells fz =>
          rw [hox] at this
          obtain ⟨b', c, us, T, mk, h1, h2, h3, h4, h5, h6⟩ := this
          have hlt := H.gam.blk (x := x) (by rw [hox]; rfl) h1
          exact ⟨b', c, us, T, mk, h1, h2, h3, h4, h5, fun hf => ⟨(h6 hf).1, fun hk => (key _ hk).elim (h6 hf).2 (fun e => by simp at hlt; omega)⟩⟩
        | arr g sz e rows fz =>
          rw [hox] at this
          rcases this with h1 | ⟨b', cap, us, mk, h1, h2, h3, h4, h5, h6, h7, h8, h9⟩
          · exact .inl h1
          · have hlt := H.gam.blk (x := x) (by rw [hox]; rfl) h1
            exact .inr ⟨b', cap, us, mk, h1, h2, h3, h4, h5, h6, h7, h8, fun hf => ⟨(h9 hf).1, fun hk => (key _ hk).elim (h9 hf).2 (fun e => by simp at hlt; omega)⟩⟩
      inj := G2.inj
      ilt := G2.ilt
      klt := fun c hc => by
        rw [size_new]
        rcases key c hc with h | h
        · have := H.gam.klt c h; omega
        · omega
      ik := fun c hc hk => (key c hk).elim (H.gam.ik c hc) (fun e => by have := H.gam.ilt c hc; omega) }
  · by_cases e : c = w.heap.size
    · subst e; rw [mset_same] at hc; cases hc; exact heap_new w o
    · rw [mset_other M o e] at hc
      have := H.at' c oc hc
      rw [heap_old w o (Array.getElem?_eq_some_iff.1 this).1]; exact this
  · by_cases e : c = w.heap.size
    · subst e; exact Nat.lt_irrefl _ (H.gam.klt _ (.inl hk))
    · rw [mset_other M o e] at hc; exact H.nk c hc hk
/-- A draw more. -/
theorem HM.drew (H : HM K M I m hp w) : HM K M I m hp w.drew ∧ Ext I K m hp w I m hp w.drew := by
  have hW : WX I (KM K M) w w.drew := ⟨fun _ _ => rfl, Nat.le_refl _, rfl, rfl, rfl⟩
  have E : Ext I (KM K M) m hp w I m hp w.drew := .world hW
  have G2 := H.gam.step E (fun _ => False) (fun y _ => ⟨rfl, rfl⟩) (fun y h => h.elim) (fun y _ hl q hq => rfl) (fun y _ hl _ q hq hn => hn) H.gam.inj H.gam.ilt H.gam.ik
  exact ⟨⟨G2, H.at', H.nk⟩, E.weaken fun b => .inl⟩
end
end Go.Ab
