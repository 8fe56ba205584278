/- A part of the proof: Pw. -/
import Derived.Test.YtaeeffddinppeaaGreatDoorR23
set_option linter.unusedSimpArgs false
set_option linter.unusedVariables false
namespace Go.Proofs.YtaeeffddinppeaaGreatDoor
open Go Go.Ab
def wordL (L : List UInt8) (i : Nat) : Int := ((L.getD i 0).toNat : Int) + 256 * (L.getD (i + 1) 0).toNat + 65536 * (L.getD (i + 2) 0).toNat + 16777216 * (L.getD (i + 3) 0).toNat
theorem wordAt_L (s : ByteArray) (i : Nat) : wordAt s i = wordL s.data.toList i := rfl
theorem wordL_app (A L : List UInt8) (i : Nat) : wordL (A ++ L) (A.length + i) = wordL L i := by
  have e : ∀ j, (A ++ L).getD (A.length + j) 0 = L.getD j 0 := fun j => by
    simp [List.getD_eq_getElem?_getD, List.getElem?_append_right]
  unfold wordL
  rw [e i, Nat.add_assoc, e, Nat.add_assoc, e, Nat.add_assoc, e]
theorem toBytes_len (l : List Int) : (toBytes l).length = l.length := by simp [toBytes]
theorem toBytes_app (a b : List Int) : toBytes (a ++ b) = toBytes a ++ toBytes b := by simp [toBytes]
theorem bys_cons (w : Int) (l : List Int) : bys (w :: l) = b4 w ++ bys l := rfl
theorem byte_toNat (w : Int) : ((UInt8.ofNat (w % 256).toNat).toNat : Int) = w % 256 := by
  have : (w % 256).toNat < 256 := by omega
  simp; omega
theorem wordL_b4 {w : Int} (h : U w) (L : List UInt8) : wordL (toBytes (b4 w) ++ L) 0 = w := by
  unfold wordL toBytes b4 at *
  simp only [List.map_cons, List.map_nil, List.cons_append, List.nil_append, Nat.zero_add, List.getD_cons_zero, List.getD_cons_succ, byte_toNat]
  unfold U at h
  omega
theorem wordL_bys (l : List Int) (h : ∀ x ∈ l, U x) (T : List UInt8) : ∀ k (hk : k < l.length), wordL (toBytes (bys l) ++ T) (4 * k) = l[k] := by
  induction l with
  | nil => intro k hk; simp at hk
  | cons w l ih =>
    intro k hk
    rw [bys_cons, toBytes_app, List.append_assoc]
    cases k with
    | zero => exact wordL_b4 (h w (List.mem_cons_self ..)) _
    | succ k =>
      have e : 4 * (k + 1) = (toBytes (b4 w)).length + 4 * k := by rw [toBytes_len]; simp [b4]; omega
      rw [e, wordL_app]
      exact ih (fun x hx => h x (List.mem_cons_of_mem _ hx)) k (by simpa using hk)
theorem txtI_list (l : List Int) (d : Int) : (txtI l d).data.toList = [83, 69, 69, 68] ++ toBytes (bys ((l.length : Int) :: d :: l)) := by
  unfold txtI txtW
  rw [ByteArray.data_append, ByteArray.data_append, Array.toList_append, Array.toList_append, List.append_assoc, ← toBytes_app]
  rfl
theorem ba_ext {a b : ByteArray} (h : a.data.toList = b.data.toList) : a = b := by
  apply ByteArray.ext; exact Array.toList_inj.1 h
theorem ba_size (a : ByteArray) : a.size = a.data.toList.length := rfl
theorem txtI_size (l : List Int) (d : Int) : (txtI l d).size = 12 + 4 * l.length := by
  rw [ba_size, txtI_list, List.length_append, toBytes_len, bys_len]
  have e : ([83, 69, 69, 68] : List UInt8).length = 4 := rfl
  have e2 : ((l.length : Int) :: d :: l).length = l.length + 2 := rfl
  rw [e, e2]; omega
theorem txtI_word (l : List Int) (d : Int) (hl : l.length ≤ 16384) (hd : 0 ≤ d ∧ d ≤ 32768) (hU : ∀ x ∈ l, U x) (k : Nat) (hk : k < l.length + 2) : wordAt (txtI l d) (4 + 4 * k) = ((l.length : Int) :: d :: l)[k] := by
  rw [wordAt_L, txtI_list, show 4 + 4 * k = ([83, 69, 69, 68] : List UInt8).length + 4 * k from by simp, wordL_app]
  have := wordL_bys ((l.length : Int) :: d :: l) (fun x hx => ?_) [] k (by simpa using hk)
  · rwa [List.append_nil] at this
  · simp only [List.mem_cons] at hx
    rcases hx with rfl | rfl | hx
    · unfold U; omega
    · unfold U; omega
    · exact hU x hx
theorem img_txtI (l : List Int) (d : Int) (hl : l.length ≤ 16384) (hd : 0 ≤ d ∧ d ≤ 32768) (hU : ∀ x ∈ l, U x) : imgB (txtI l d) = true ∧ codeOf (txtI l d) = l ∧ wordAt (txtI l d) 8 = d := by
  have hsz := txtI_size l d
  have w := txtI_word l d hl hd hU
  have w0 : wordAt (txtI l d) 4 = l.length := w 0 (by omega)
  have w1 : wordAt (txtI l d) 8 = d := w 1 (by omega)
  refine ⟨(imgB_iff _).2 ⟨by omega, ?_, by omega, by omega, by omega⟩, ?_, w1⟩
  · rw [seed_iff (by omega)]
    unfold byteAt
    rw [txtI_list]
    exact ⟨rfl, rfl, rfl, rfl⟩
  · rw [codeOf_eq _ (by omega), hsz, show (12 + 4 * l.length - 12) / 4 = l.length from by omega]
    apply List.ext_getElem
    · simp [upto_length]
    · intro k h1 h2
      have e : ∀ (f : Nat → Int) h, (upto f l.length)[k]'h = f k := fun f h => by simp [upto]
      rw [e]
      have := w (k + 2) (by omega)
      rw [show 12 + 4 * k = 4 + 4 * (k + 2) from by omega, this]
      rfl
end Go.Proofs.YtaeeffddinppeaaGreatDoor
