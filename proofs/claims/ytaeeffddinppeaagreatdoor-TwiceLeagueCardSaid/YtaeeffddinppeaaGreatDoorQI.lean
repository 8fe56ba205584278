/- Images as texts. -/
import Derived.Test.YtaeeffddinppeaaGreatDoorQH
set_option linter.unusedSimpArgs false
set_option linter.unusedVariables false
namespace Go.Proofs.YtaeeffddinppeaaGreatDoor
open Go Go.Ab
theorem byte_data {s : ByteArray} {i : Nat} (h : i < s.size) : ∃ B : UInt8, s.data[i]? = some B ∧ (B.toNat : Int) = byteAt s i := by
  have hlt : i < s.data.size := h
  refine ⟨s.data[i], Array.getElem?_eq_getElem hlt, ?_⟩
  unfold byteAt
  rw [List.getD_eq_getElem?_getD, List.getElem?_eq_getElem (by simpa using hlt)]
  simp
theorem wordAt_U (s : ByteArray) (i : Nat) : U (wordAt s i) := wordAt_range s i
set_option maxHeartbeats 4000000 in
theorem d20 (s : ByteArray) (at_ : Nat) (hs : s.size ≤ 1048576) (ha : at_ + 4 ≤ s.size) : (lim Tryz.prog E47 X47).dat 39 [.sc (.string s), iv at_] = some [uv (wordAt s at_)] := by
  refine fnW Tryz.func39 rfl rfl bodyOk_39 rfl rtys_39 rfl ?_
  obtain ⟨B0, h0, e0⟩ := byte_data (s := s) (i := at_) (by omega)
  obtain ⟨B1, h1, e1⟩ := byte_data (s := s) (i := at_ + 1) (by omega)
  obtain ⟨B2, h2, e2⟩ := byte_data (s := s) (i := at_ + 2) (by omega)
  obtain ⟨B3, h3, e3⟩ := byte_data (s := s) (i := at_ + 3) (by omega)
  have hB0 := B0.toNat_lt
  have hB1 := B1.toNat_lt
  have hB2 := B2.toNat_lt
  have hB3 := B3.toNat_lt
  have hW : wordAt s at_ = B0.toNat + 256 * B1.toNat + 65536 * B2.toNat + 16777216 * B3.toNat := by unfold wordAt; rw [← e0, ← e1, ← e2, ← e3]
  rw [hW]
  clear e0 e1 e2 e3 hW
  have w1 : IntKind.i64.wrap ((at_ : Int) + 1) = (at_ : Int) + 1 := wrap64 (by omega) (by omega)
  have w2 : IntKind.i64.wrap ((at_ : Int) + 2) = (at_ : Int) + 2 := wrap64 (by omega) (by omega)
  have w3 : IntKind.i64.wrap ((at_ : Int) + 3) = (at_ : Int) + 3 := wrap64 (by omega) (by omega)
  have p1 : (0 : Int) ≤ (at_ : Int) + 1 := by omega
  have p2 : (0 : Int) ≤ (at_ : Int) + 2 := by omega
  have p3 : (0 : Int) ≤ (at_ : Int) + 3 := by omega
  have t1 : ((at_ : Int) + 1).toNat = at_ + 1 := by omega
  have t2 : ((at_ : Int) + 2).toNat = at_ + 2 := by omega
  have t3 : ((at_ : Int) + 3).toNat = at_ + 3 := by omega
  have u0 : IntKind.u32.wrap (B0.toNat : Int) = B0.toNat := by rw [IntKind.wrap_u32]; omega
  have u1 : IntKind.u32.wrap (B1.toNat : Int) = B1.toNat := by rw [IntKind.wrap_u32]; omega
  have u2 : IntKind.u32.wrap (B2.toNat : Int) = B2.toNat := by rw [IntKind.wrap_u32]; omega
  have u3 : IntKind.u32.wrap (B3.toNat : Int) = B3.toNat := by rw [IntKind.wrap_u32]; omega
  have m1 : IntKind.u32.wrap (256 * (B1.toNat : Int)) = 256 * B1.toNat := by rw [IntKind.wrap_u32]; omega
  have m2 : IntKind.u32.wrap (65536 * (B2.toNat : Int)) = 65536 * B2.toNat := by rw [IntKind.wrap_u32]; omega
  have m3 : IntKind.u32.wrap (16777216 * (B3.toNat : Int)) = 16777216 * B3.toNat := by rw [IntKind.wrap_u32]; omega
  have a1 : IntKind.u32.wrap ((B0.toNat : Int) + 256 * B1.toNat) = B0.toNat + 256 * B1.toNat := by rw [IntKind.wrap_u32]; omega
  have a2 : IntKind.u32.wrap ((B0.toNat : Int) + 256 * B1.toNat + 65536 * B2.toNat) = B0.toNat + 256 * B1.toNat + 65536 * B2.toNat := by rw [IntKind.wrap_u32]; omega
  have a3 : IntKind.u32.wrap ((B0.toNat : Int) + 256 * B1.toNat + 65536 * B2.toNat + 16777216 * B3.toNat) = B0.toNat + 256 * B1.toNat + 65536 * B2.toNat + 16777216 * B3.toNat := by rw [IntKind.wrap_u32]; omega
  repeat' (first
    | ((with_reducible first | apply Wo_u | apply Wo_n | apply ex2 | apply W_sc | apply W_c | apply Wd_u | apply Wd_n | apply ex4 | apply EndQ_ret | apply EndQ_normal); (conv => lhs; simp -implicitDefEqProofs [*]) <;> exact rfl)
    | (with_reducible first | apply Wo_nil | apply W_ss | apply W_srl | apply W_rl | apply W_sblock | apply W_block | apply W_sskip | apply W_skip | apply W_sret | apply W_ret | apply W_sexit | apply W_exit | apply thenW_n | apply thenW_r | apply thenW_e | apply inB_n | apply inB_r | apply inB_e)
    | ((with_reducible apply Wo_gt); (exact rfl); ((conv => lhs; simp -implicitDefEqProofs [*]) <;> exact rfl); (conv => lhs; simp -implicitDefEqProofs [*]) <;> exact rfl)
    | ((with_reducible apply Wo_gf); (exact rfl); ((conv => lhs; simp -implicitDefEqProofs [*]) <;> exact rfl); (exact rfl))
    | ((with_reducible apply Wo_gx); (exact rfl); ((conv => lhs; simp -implicitDefEqProofs [*]) <;> exact rfl))
    | ((with_reducible apply Wo_gsT); (exact rfl); ((conv => lhs; simp -implicitDefEqProofs [*]) <;> exact rfl))
    | ((with_reducible apply Wo_gsF); (exact rfl); ((conv => lhs; simp -implicitDefEqProofs [*]) <;> exact rfl))
    | ((with_reducible apply Wd_gsT); (exact rfl); ((conv => lhs; simp -implicitDefEqProofs [*]) <;> exact rfl))
    | ((with_reducible apply Wd_gsF); (exact rfl); ((conv => lhs; simp -implicitDefEqProofs [*]) <;> exact rfl))
    | ((with_reducible first | apply W_srdl | apply W_rdl); kernel_rfl)
    | ((with_reducible apply Wd_nil); exact rfl)
    | ((with_reducible apply inB_o); rotate_left; exact rfl)
    | (intro h h'; try simp [*, -h] at h'))
  all_goals rfl
theorem byteAt_extract {s : ByteArray} {i : Nat} (a : Nat) (h : a + i < s.size) : byteAt (s.extract a s.size) i = byteAt s (a + i) := by
  unfold byteAt
  rw [ByteArray.data_extract]
  have : s.data.size = s.size := rfl
  congr 2
  simp [List.getD_eq_getElem?_getD]
  rw [List.getElem?_take_of_lt (by omega), List.getElem?_drop]
  simp
theorem codeOf_eq (s : ByteArray) (h : 12 ≤ s.size) : codeOf s = upto (fun k => wordAt s (12 + 4 * k)) ((s.size - 12) / 4) := by
  have hsz : (s.extract 12 s.size).size = s.size - 12 := by rw [ByteArray.size_extract]; omega
  unfold codeOf wordsOf
  rw [hsz]
  unfold upto
  refine List.map_congr_left fun k hk => ?_
  have hk := List.mem_range.1 hk
  have e := fun i (hi : 12 + i < s.size) => byteAt_extract (s := s) (i := i) 12 hi
  unfold wordAt
  rw [e _ (by omega), e _ (by omega), e _ (by omega), e _ (by omega)]
  rfl
theorem seed_iff {s : ByteArray} (h : 12 ≤ s.size) : s.extract 0 4 = ⟨#[83, 69, 69, 68]⟩ ↔ byteAt s 0 = 83 ∧ byteAt s 1 = 69 ∧ byteAt s 2 = 69 ∧ byteAt s 3 = 68 := by
  obtain ⟨B0, h0, e0⟩ := byte_data (s := s) (i := 0) (by omega)
  obtain ⟨B1, h1, e1⟩ := byte_data (s := s) (i := 1) (by omega)
  obtain ⟨B2, h2, e2⟩ := byte_data (s := s) (i := 2) (by omega)
  obtain ⟨B3, h3, e3⟩ := byte_data (s := s) (i := 3) (by omega)
  have hx : s.extract 0 4 = ⟨#[B0, B1, B2, B3]⟩ := by
    apply ByteArray.ext
    rw [ByteArray.data_extract]
    have hd : s.data.size = s.size := rfl
    apply Array.ext
    · simp; omega
    · intro i i1 i2
      have i3 : i < 4 := by simpa using i2
      rw [Array.getElem_extract]
      have g := fun j (hj : j < s.data.size) => Array.getElem?_eq_getElem hj
      match i, i3 with
      | 0, _ => simpa [g 0 (by omega)] using h0
      | 1, _ => simpa [g 1 (by omega)] using h1
      | 2, _ => simpa [g 2 (by omega)] using h2
      | 3, _ => simpa [g 3 (by omega)] using h3
  rw [hx, ← e0, ← e1, ← e2, ← e3]
  have bi : ∀ (B : UInt8) (n : Nat) (hn : n < 256), (B.toNat : Int) = n ↔ B = UInt8.ofNat n := fun B n hn => by
    constructor
    · intro h; apply UInt8.toNat_inj.1; simp; omega
    · intro h; subst h; simp; omega
  constructor
  · intro h
    simp only [ByteArray.mk.injEq] at h
    have := congrArg Array.toList h
    simp at this
    obtain ⟨rfl, rfl, rfl, rfl⟩ := this
    decide
  · rintro ⟨a, b, c, d⟩
    rw [(bi B0 83 (by omega)).1 a, (bi B1 69 (by omega)).1 b, (bi B2 69 (by omega)).1 c, (bi B3 68 (by omega)).1 d]
    rfl
end Go.Proofs.YtaeeffddinppeaaGreatDoor

namespace Go.Proofs.YtaeeffddinppeaaGreatDoor
open Go Go.Ab
def wordL (L : List UInt8) (i : Nat) : Int := ((L.getD i 0).toNat : Int) + 256 * (L.getD (i + 1) 0).toNat + 65536 * (L.getD (i + 2) 0).toNat + 16777216 * (L.getD (i + 3) 0).toNat
theorem wordAt_L (s : ByteArray) (i : Nat) : wordAt s i = wordL s.data.toList i := rfl
theorem wordL_app (A L : List UInt8) (i : Nat) : wordL (A ++ L) (A.length + i) = wordL L i := by
  have e : ∀ j, (A ++ L).getD (A.length + j) 0 = L.getD j 0 := fun j => by
    simp [List.getD_eq_getElem?_getD, List.getElem?_append_right]
  unfold wordL
  rw [e i, Nat.add_assoc, e, Nat.add_assoc, e, Nat.add_assoc, e]
theorem toBytes_len (l : List Int) : (toBytes l).length = l.length := by simp [toBytes]
theorem toBytes_app (a b : List Int) : toBytes (a ++ b) = toBytes a ++ toBytes b := by simp [toBytes]
theorem bys_cons (w : Int) (l : List Int) : bys (w :: l) = b4 w ++ bys l := rfl
theorem byte_toNat (w : Int) : ((UInt8.ofNat (w % 256).toNat).toNat : Int) = w % 256 := by
  have : (w % 256).toNat < 256 := by omega
  simp; omega
theorem wordL_b4 {w : Int} (h : U w) (L : List UInt8) : wordL (toBytes (b4 w) ++ L) 0 = w := by
  unfold wordL toBytes b4 at *
  simp only [List.map_cons, List.map_nil, List.cons_append, List.nil_append, Nat.zero_add, List.getD_cons_zero, List.getD_cons_succ, byte_toNat]
  unfold U at h
  omega
theorem wordL_bys (l : List Int) (h : ∀ x ∈ l, U x) (T : List UInt8) : ∀ k (hk : k < l.length), wordL (toBytes (bys l) ++ T) (4 * k) = l[k] := by
  induction l with
  | nil => intro k hk; simp at hk
  | cons w l ih =>
    intro k hk
    rw [bys_cons, toBytes_app, List.append_assoc]
    cases k with
    | zero => exact wordL_b4 (h w (List.mem_cons_self ..)) _
    | succ k =>
      have e : 4 * (k + 1) = (toBytes (b4 w)).length + 4 * k := by rw [toBytes_len]; simp [b4]; omega
      rw [e, wordL_app]
      exact ih (fun x hx => h x (List.mem_cons_of_mem _ hx)) k (by simpa using hk)
theorem upto_cons {α : Type} (f : Nat → α) (m : Nat) : upto f (m + 1) = f 0 :: upto (fun k => f (k + 1)) m := by
  unfold upto
  rw [List.range_succ_eq_map, List.map_cons, List.map_map]; rfl
theorem four_bytes (a b c d : UInt8) : toBytes (b4 ((a.toNat : Int) + 256 * b.toNat + 65536 * c.toNat + 16777216 * d.toNat)) = [a, b, c, d] := by
  have ha := a.toNat_lt
  have hb := b.toNat_lt
  have hc := c.toNat_lt
  have hd := d.toNat_lt
  have e : ∀ (x : UInt8) (w : Int), w = x.toNat → UInt8.ofNat w.toNat = x := fun x w h => by subst h; simp
  unfold toBytes b4
  simp only [List.map_cons, List.map_nil]
  rw [e a _ (by omega), e b _ (by omega), e c _ (by omega), e d _ (by omega)]
theorem bys_words : ∀ (m : Nat) (L : List UInt8), L.length = 4 * m → toBytes (bys (upto (fun k => wordL L (4 * k)) m)) = L
  | 0, L, h => by rw [List.eq_nil_of_length_eq_zero h]; rfl
  | m + 1, a :: b :: c :: d :: L, h => by
    rw [upto_cons, bys_cons, toBytes_app]
    have e : (fun k => wordL (a :: b :: c :: d :: L) (4 * (k + 1))) = fun k => wordL L (4 * k) := by
      funext k
      rw [show 4 * (k + 1) = [a, b, c, d].length + 4 * k from by simp; omega]
      exact wordL_app [a, b, c, d] L (4 * k)
    rw [e, bys_words m L (by simp at h; omega)]
    have e2 : wordL (a :: b :: c :: d :: L) (4 * 0) = (a.toNat : Int) + 256 * b.toNat + 65536 * c.toNat + 16777216 * d.toNat := by
      simp [wordL]
    rw [e2, four_bytes]; rfl
  | m + 1, [], h => by simp at h
  | m + 1, [a], h => by simp at h; omega
  | m + 1, [a, b], h => by simp at h; omega
  | m + 1, [a, b, c], h => by simp at h; omega
theorem txtI_list (l : List Int) (d : Int) : (txtI l d).data.toList = [83, 69, 69, 68] ++ toBytes (bys ((l.length : Int) :: d :: l)) := by
  unfold txtI txtW
  rw [ByteArray.data_append, ByteArray.data_append, Array.toList_append, Array.toList_append, List.append_assoc, ← toBytes_app]
  rfl
theorem ba_ext {a b : ByteArray} (h : a.data.toList = b.data.toList) : a = b := by
  apply ByteArray.ext; exact Array.toList_inj.1 h
theorem ba_size (a : ByteArray) : a.size = a.data.toList.length := rfl
theorem txtI_size (l : List Int) (d : Int) : (txtI l d).size = 12 + 4 * l.length := by
  rw [ba_size, txtI_list, List.length_append, toBytes_len, bys_len]
  have e : ([83, 69, 69, 68] : List UInt8).length = 4 := rfl
  have e2 : ((l.length : Int) :: d :: l).length = l.length + 2 := rfl
  rw [e, e2]; omega
theorem txtI_word (l : List Int) (d : Int) (hl : l.length ≤ 16384) (hd : 0 ≤ d ∧ d ≤ 32768) (hU : ∀ x ∈ l, U x) (k : Nat) (hk : k < l.length + 2) : wordAt (txtI l d) (4 + 4 * k) = ((l.length : Int) :: d :: l)[k] := by
  rw [wordAt_L, txtI_list, show 4 + 4 * k = ([83, 69, 69, 68] : List UInt8).length + 4 * k from by simp, wordL_app]
  have := wordL_bys ((l.length : Int) :: d :: l) (fun x hx => ?_) [] k (by simpa using hk)
  · rwa [List.append_nil] at this
  · simp only [List.mem_cons] at hx
    rcases hx with rfl | rfl | hx
    · unfold U; omega
    · unfold U; omega
    · exact hU x hx
theorem img_txtI (l : List Int) (d : Int) (hl : l.length ≤ 16384) (hd : 0 ≤ d ∧ d ≤ 32768) (hU : ∀ x ∈ l, U x) : imgB (txtI l d) = true ∧ codeOf (txtI l d) = l ∧ wordAt (txtI l d) 8 = d := by
  have hsz := txtI_size l d
  have w := txtI_word l d hl hd hU
  have w0 : wordAt (txtI l d) 4 = l.length := w 0 (by omega)
  have w1 : wordAt (txtI l d) 8 = d := w 1 (by omega)
  refine ⟨(imgB_iff _).2 ⟨by omega, ?_, by omega, by omega, by omega⟩, ?_, w1⟩
  · rw [seed_iff (by omega)]
    unfold byteAt
    rw [txtI_list]
    exact ⟨rfl, rfl, rfl, rfl⟩
  · rw [codeOf_eq _ (by omega), hsz, show (12 + 4 * l.length - 12) / 4 = l.length from by omega]
    apply List.ext_getElem
    · simp [upto_length]
    · intro k h1 h2
      have e : ∀ (f : Nat → Int) h, (upto f l.length)[k]'h = f k := fun f h => by simp [upto]
      rw [e]
      have := w (k + 2) (by omega)
      rw [show 12 + 4 * k = 4 + 4 * (k + 2) from by omega, this]
      rfl
theorem txtI_of_img (s : ByteArray) (h : imgB s = true) : txtI (codeOf s) (wordAt s 8) = s := by
  obtain ⟨h1, h2, h3, h4, h5⟩ := (imgB_iff s).1 h
  have h4' := wordAt_U s 8
  have h5' := wordAt_U s 4
  obtain ⟨n, hn⟩ : ∃ n : Nat, wordAt s 4 = n := ⟨(wordAt s 4).toNat, by unfold U at h5'; omega⟩
  have hsz : s.size = 12 + 4 * n := by omega
  have hc : codeOf s = upto (fun k => wordAt s (12 + 4 * k)) n := by rw [codeOf_eq s h1, hsz]; congr 1; omega
  have hcl : (codeOf s).length = n := by rw [hc, upto_length]
  apply ba_ext
  rw [txtI_list, hcl, ← hn, hc]
  have hL : s.data.toList.length = 12 + 4 * n := by rw [← ba_size, hsz]
  have e0 : s.data.toList = s.data.toList.take 4 ++ s.data.toList.drop 4 := (List.take_append_drop 4 _).symm
  have e1 : s.data.toList.take 4 = [83, 69, 69, 68] := by
    have := congrArg (fun a : ByteArray => a.data.toList) h2
    simp only [ByteArray.data_extract, Array.toList_extract, List.extract_eq_take_drop, List.drop_zero] at this
    exact this
  have e2 : ∀ k, wordAt s (4 + 4 * k) = wordL (s.data.toList.drop 4) (4 * k) := fun k => by
    rw [wordAt_L]
    have hq : (s.data.toList.take 4).length = 4 := by rw [List.length_take, hL]; omega
    have q := wordL_app (s.data.toList.take 4) (s.data.toList.drop 4) (4 * k)
    rwa [← e0, hq] at q
  have e3 := bys_words (n + 2) (s.data.toList.drop 4) (by rw [List.length_drop, hL]; omega)
  rw [upto_cons, upto_cons] at e3
  rw [← e2, ← e2] at e3
  have e4 : (fun k => wordL (s.data.toList.drop 4) (4 * (k + 1 + 1))) = fun k => wordAt s (12 + 4 * k) := by
    funext k; rw [← e2]; congr 1; omega
  rw [e4] at e3
  rw [show 4 + 4 * 0 = 4 from rfl, show 4 + 4 * (0 + 1) = 8 from rfl] at e3
  rw [e3, ← e1]
  exact e0.symm
theorem txtI_inj {l l' : List Int} {d d' : Int} (hl : l.length ≤ 16384) (hd : 0 ≤ d ∧ d ≤ 32768) (hU : ∀ x ∈ l, U x) (hl' : l'.length ≤ 16384) (hd' : 0 ≤ d' ∧ d' ≤ 32768) (hU' : ∀ x ∈ l', U x) (h : txtI l d = txtI l' d') : l = l' ∧ d = d' := by
  have a := img_txtI l d hl hd hU
  have b := img_txtI l' d' hl' hd' hU'
  rw [h] at a
  exact ⟨a.2.1.symm.trans b.2.1, a.2.2.symm.trans b.2.2⟩
theorem codeOf_U (s : ByteArray) (h : imgB s = true) : (∀ x ∈ codeOf s, U x) ∧ (codeOf s).length ≤ 16384 ∧ 0 ≤ wordAt s 8 ∧ wordAt s 8 ≤ 32768 := by
  obtain ⟨h1, h2, h3, h4, h5⟩ := (imgB_iff s).1 h
  rw [codeOf_eq s h1]
  refine ⟨fun x hx => ?_, by rw [upto_length]; omega, (wordAt_U s 8).1, h4⟩
  unfold upto at hx
  obtain ⟨k, _, rfl⟩ := List.mem_map.1 hx
  exact wordAt_U s _
end Go.Proofs.YtaeeffddinppeaaGreatDoor
