/- Law 31, ForwardSwaps: at every number and text of at most 1048576 values and letters together the call answers true and leaves its arguments as they were. -/
import Derived.Test.YtmfhdhiaokejdaaKi
import Derived.Test.YtmfhdhiaokejdaaKe
import Derived.Test.YtmfhdhiaokejdaaKh
import Derived.Test.YtmfhdhiaokejdaaL6
namespace Go.Proofs.Ytmfhdhiaokejdaa
open Go Go.Ab
set_option linter.unusedSimpArgs false
set_option linter.unusedVariables false
/-- The first instructions of k exchanges. -/
def swapL : Nat → List Tac
  | 0 => [getT 0, getT 1]
  | k + 1 => swapL k ++ [copyT 2 0, copyT 0 1, copyT 1 2]
def swapI (m : Nat) : List Tac := swapL m ++ [putT 0, putT 1]
theorem swap_len : ∀ k, (swapL k).length = 3 * k + 2
  | 0 => rfl
  | k + 1 => by simp [swapL, swap_len k]; omega
theorem swap_ops : ∀ k, ∀ t ∈ swapL k, (t.op = 2 ∨ t.op = 8 ∨ t.op = 9) ∧ t.n = 0
  | 0, t, h => by
    simp only [swapL, List.mem_cons, List.not_mem_nil, or_false] at h
    rcases h with rfl | rfl <;> exact ⟨.inr (.inl rfl), rfl⟩
  | k + 1, t, h => by
    simp only [swapL, List.mem_append, List.mem_cons, List.not_mem_nil, or_false] at h
    rcases h with h | rfl | rfl | rfl
    · exact swap_ops k t h
    all_goals exact ⟨.inl rfl, rfl⟩
theorem swapI_ops (m : Nat) : ∀ t ∈ swapI m, (t.op = 2 ∨ t.op = 8 ∨ t.op = 9) ∧ t.n = 0 := fun t h => by
  simp only [swapI, List.mem_append, List.mem_cons, List.not_mem_nil, or_false] at h
  rcases h with h | rfl | rfl
  · exact swap_ops m t h
  all_goals exact ⟨.inr (.inr rfl), rfl⟩
theorem swap_one : ∀ m : Fin 9, oneB ⟨3, [⟨swapI m.val, 3, 0, 0, 0⟩]⟩ 0 0 = true := by decide +kernel
/-- What is read first, and next. -/
def val0 (inp : ByteArray) : Int := if 0 < inp.size then ((inp.data.toList.getD 0 0).toNat : Int) else 256
def val1 (inp : ByteArray) : Int := if 1 < inp.size then ((inp.data.toList.getD 1 0).toNat : Int) else 256
theorem swap_gets (inp : ByteArray) : ∃ rd st, calms inp [getT 0, getT 1] ⟨[], [], 0, 0, 0⟩ [0, 0, 0] = (⟨[], [], rd, st, 0⟩, [val0 inp, val1 inp, 0]) := by
  unfold val0 val1
  by_cases h0 : 0 < inp.size
  · have i0 : (0 : Int) < inp.size := by omega
    by_cases h1 : 1 < inp.size
    · have i1 : (1 : Int) < inp.size := by omega
      simp [calms, calm, getT, h0, h1, i0, i1]
    · have i1 : ¬ (1 : Int) < inp.size := by omega
      simp [calms, calm, getT, h0, h1, i0, i1]
  · have i0 : ¬ (0 : Int) < inp.size := by omega
    have h1 : ¬ 1 < inp.size := by omega
    simp [calms, calm, getT, h0, h1, i0]
theorem swap_three (inp : ByteArray) (x y z rd st : Int) : calms inp [copyT 2 0, copyT 0 1, copyT 1 2] ⟨[], [], rd, st, 0⟩ [x, y, z] = (⟨[], [], rd, st + 1 + 1 + 1, 0⟩, [y, x, x]) := by
  simp [calms, calm, copyT, rg]
theorem swap_run (inp : ByteArray) : ∀ k, ∃ rd st z, calms inp (swapL k) ⟨[], [], 0, 0, 0⟩ [0, 0, 0] = (⟨[], [], rd, st, 0⟩, if k % 2 = 1 then [val1 inp, val0 inp, z] else [val0 inp, val1 inp, z])
  | 0 => by
    obtain ⟨rd, st, h⟩ := swap_gets inp
    exact ⟨rd, st, 0, h⟩
  | k + 1 => by
    obtain ⟨rd, st, z, h⟩ := swap_run inp k
    simp only [swapL]
    rw [calms_append, h]
    by_cases hk : k % 2 = 1
    · have hk2 : ¬ (k + 1) % 2 = 1 := by omega
      simp only [if_pos hk, if_neg hk2, swap_three]
      exact ⟨_, _, _, rfl⟩
    · have hk2 : (k + 1) % 2 = 1 := by omega
      simp only [if_neg hk, if_pos hk2, swap_three]
      exact ⟨_, _, _, rfl⟩
theorem swap_out (inp : ByteArray) {m : Nat} (hm : m < 9) : (runS ⟨0, [⟨(3 : Nat), [⟨swapI m, 3, 0, 0, 0⟩]⟩], inp, 99⟩).fin = 0 ∧ (runS ⟨0, [⟨(3 : Nat), [⟨swapI m, 3, 0, 0, 0⟩]⟩], inp, 99⟩).out = if m % 2 = 1 then [val1 inp % 256, val0 inp % 256] else [val0 inp % 256, val1 inp % 256] := by
  have h := run_calm (regs := (3 : Nat)) (inp := inp) (fun t ht => (swapI_ops m t ht).1) (by simp [swapI, swap_len]; omega)
  refine ⟨h.2, ?_⟩
  rw [h.1]
  obtain ⟨rd, st, z, e⟩ := swap_run inp m
  show (calms inp (swapL m ++ [putT 0, putT 1]) ⟨[], [], 0, 0, 0⟩ [0, 0, 0]).1.out = _
  rw [calms_append, e]
  split <;> simp [calms, calm, putT, rg]
/-- The texts that are put out. -/
def txt0 (inp : ByteArray) : ByteArray := if 0 < inp.size then inp.extract 0 1 else ⟨#[0]⟩
def txt1 (inp : ByteArray) : ByteArray := if 1 < inp.size then inp.extract 1 2 else ⟨#[0]⟩
theorem byte_mod (b : UInt8) : UInt8.ofNat (((b.toNat : Int) % 256).toNat) = b := by
  have h := b.toNat_lt
  have e : ((b.toNat : Int) % 256).toNat = b.toNat := by omega
  rw [e]; simp
theorem extract_one {inp : ByteArray} {i : Nat} (h : i < inp.size) : inp.extract i (i + 1) = ⟨#[inp.data.toList.getD i 0]⟩ := by
  have hs : i < inp.data.size := h
  have e : inp.data.toList.getD i 0 = inp.data[i] := by
    rw [List.getD_eq_getElem?_getD, List.getElem?_eq_getElem (by simpa using hs)]; simp
  rw [e]
  apply ByteArray.ext
  rw [ByteArray.data_extract]
  apply Array.ext
  · simp; omega
  · intro j h1 h2
    simp at h2
    subst h2
    simp
theorem bytes0 (inp : ByteArray) : [UInt8.ofNat (val0 inp % 256).toNat] = (txt0 inp).data.toList := by
  unfold val0 txt0
  by_cases h0 : 0 < inp.size
  · rw [if_pos h0, if_pos h0, extract_one h0, byte_mod]
  · rw [if_neg h0, if_neg h0]; rfl
theorem bytes1 (inp : ByteArray) : [UInt8.ofNat (val1 inp % 256).toNat] = (txt1 inp).data.toList := by
  unfold val1 txt1
  by_cases h0 : 1 < inp.size
  · rw [if_pos h0, if_pos h0, extract_one h0, byte_mod]
  · rw [if_neg h0, if_neg h0]; rfl
theorem two_bytes {x y : Int} {a b : ByteArray} (hx : [UInt8.ofNat (x % 256).toNat] = a.data.toList) (hy : [UInt8.ofNat (y % 256).toNat] = b.data.toList) : (⟨⟨bytesL [x % 256, y % 256]⟩⟩ : ByteArray) = a ++ b := by
  apply ByteArray.ext
  rw [ByteArray.data_append]
  apply Array.ext'
  rw [Array.toList_append, ← hx, ← hy]
  rfl
theorem swap_text (inp : ByteArray) {m : Nat} (hm : m < 9) : ∃ C : Int, tellS (runS ⟨0, [⟨(3 : Nat), [⟨swapI m, 3, 0, 0, 0⟩]⟩], inp, 99⟩) = [iv 1, .sc (.string (if m % 2 = 1 then txt1 inp ++ txt0 inp else txt0 inp ++ txt1 inp)), iv C] := by
  obtain ⟨h1, h2⟩ := swap_out inp hm
  refine ⟨(runS ⟨0, [⟨(3 : Nat), [⟨swapI m, 3, 0, 0, 0⟩]⟩], inp, 99⟩).steps, ?_⟩
  unfold tellS
  rw [h1, h2, if_pos rfl]
  by_cases hm2 : m % 2 = 1
  · rw [if_pos hm2, if_pos hm2, two_bytes (bytes1 inp) (bytes0 inp)]
  · rw [if_neg hm2, if_neg hm2, two_bytes (bytes0 inp) (bytes1 inp)]
set_option maxHeartbeats 16000000 in
theorem d10 (n : Int) (inp : ByteArray) (hn0 : 0 ≤ n) (hn1 : n < 256) (hi : inp.size ≤ 1048576) : (lim Try.prog E31 X31).dat 10 [.sc (.int .u8 n), .sc (.string inp)] = some [bv true] := by
  refine fnW Try.func10 rfl rfl bodyOk_10 rfl rtys_10 rfl ?_
  by_cases hA : 60 < inp.size
  · have n1 : (60 : Int) < inp.size := by omega
    repeat' (first
      | ((with_reducible apply Wo_u); (conv => lhs; simp -implicitDefEqProofs [*]) <;> exact rfl)
      | ((with_reducible apply Wo_n); (conv => lhs; simp -implicitDefEqProofs [*]) <;> exact rfl)
      | (with_reducible apply Wo_nil)
      | ((with_reducible apply Wo_gt); (exact rfl); ((conv => lhs; simp -implicitDefEqProofs [*]) <;> exact rfl); (conv => lhs; simp -implicitDefEqProofs [*]) <;> exact rfl)
      | ((with_reducible apply Wo_gf); (exact rfl); ((conv => lhs; simp -implicitDefEqProofs [*]) <;> exact rfl); (exact rfl))
      | ((with_reducible apply Wo_gx); (exact rfl); ((conv => lhs; simp -implicitDefEqProofs [*]) <;> exact rfl))
      | ((with_reducible apply Wo_gsT); (exact rfl); ((conv => lhs; simp -implicitDefEqProofs [*]) <;> exact rfl))
      | ((with_reducible apply Wo_gsF); (exact rfl); ((conv => lhs; simp -implicitDefEqProofs [*]) <;> exact rfl))
      | ((with_reducible apply ex2); (conv => lhs; simp -implicitDefEqProofs [*]) <;> exact rfl)
      | (with_reducible apply W_ss) | (with_reducible apply W_srl) | (with_reducible apply W_rl)
      | ((with_reducible apply W_sc); (conv => lhs; simp -implicitDefEqProofs [*]) <;> exact rfl)
      | ((with_reducible apply W_c); (conv => lhs; simp -implicitDefEqProofs [*]) <;> exact rfl)
      | ((with_reducible apply W_srdl); kernel_rfl) | ((with_reducible apply W_rdl); kernel_rfl)
      | ((with_reducible apply Wd_u); (conv => lhs; simp -implicitDefEqProofs [*]) <;> exact rfl)
      | ((with_reducible apply Wd_n); (conv => lhs; simp -implicitDefEqProofs [*]) <;> exact rfl)
      | ((with_reducible apply Wd_nil); exact rfl)
      | ((with_reducible apply Wd_gsT); (exact rfl); ((conv => lhs; simp -implicitDefEqProofs [*]) <;> exact rfl))
      | ((with_reducible apply Wd_gsF); (exact rfl); ((conv => lhs; simp -implicitDefEqProofs [*]) <;> exact rfl))
      | ((with_reducible apply ex4); (conv => lhs; simp -implicitDefEqProofs [*]) <;> exact rfl)
      | (with_reducible apply W_sblock) | (with_reducible apply W_block) | (with_reducible apply W_sskip) | (with_reducible apply W_skip) | (with_reducible apply W_sret) | (with_reducible apply W_ret) | (with_reducible apply W_sexit) | (with_reducible apply W_exit)
      | (with_reducible apply thenW_n) | (with_reducible apply thenW_r) | (with_reducible apply thenW_e) | (with_reducible apply inB_n) | (with_reducible apply inB_r) | (with_reducible apply inB_e) | ((with_reducible apply inB_o); rotate_left; exact rfl)
      | ((with_reducible apply EndQ_ret); (conv => lhs; simp -implicitDefEqProofs [*]) <;> exact rfl) | ((with_reducible apply EndQ_normal); (conv => lhs; simp -implicitDefEqProofs [*]) <;> exact rfl)
      | (intro h h'; try simp [*, -h] at h'))
    all_goals simp [*]
  · have n1 : ¬ (60 : Int) < inp.size := by omega
    obtain ⟨m, hm1, hwm⟩ : ∃ m : Nat, m < 9 ∧ IntKind.i64.wrap (n.tmod 9) = m := by
      have h1 : 0 ≤ n.tmod 9 := Int.tmod_nonneg _ hn0
      have h2 : n.tmod 9 < 9 := Int.tmod_lt_of_pos _ (by omega)
      refine ⟨(n.tmod 9).toNat, by omega, ?_⟩
      rw [wrap64 (n := n.tmod 9) (by omega) (by omega)]; omega
    have hlen : (swapI m).length = 3 * m + 2 + 2 := by simp [swapI, swap_len]
    obtain ⟨L, hL, hLl, h13, h20⟩ := one_all (m := 3) (ins := swapI m) (by omega) (by omega) (fun t ht => (swapI_ops m t ht).1) (swap_one ⟨m, hm1⟩) fun t ht => (swapI_ops m t ht).2
    replace h20 := h20 inp hi
    obtain ⟨C, hT⟩ := swap_text inp hm1
    rw [hT] at h20
    have h18 := d18 ⟨L, 3, 0, 0, 0⟩ (by rw [hLl, hlen]; unfold big; omega)
    have hdone : doneB ⟨L, 3, 0, 0, 0⟩ = true := by
      have := done_fwd (n := 3) (b := ⟨swapI m, 3, 0, 0, 0⟩) (by
        have := (one_okR (swap_one ⟨m, hm1⟩)).2.2.2
        simpa using this)
      simpa [fwdBlk, hL] using this
    rw [hdone] at h18
    rw [hlen] at hLl
    simp only [Int.cast_ofNat_Int] at h13 h20 h18
    have hpm : (swapL m).map Tac.row ++ [[iv 9, iv 0, iv 0, iv 0, iv 0, iv 0, iv 0, uv 0], [iv 9, iv 0, iv 1, iv 0, iv 0, iv 0, iv 0, uv 0]] = (swapI m).map Tac.row := by simp [swapI, putT]
    have hitk : ((swapI m).map Tac.row).take (3 * m + 2 + 2) = (swapI m).map Tac.row := List.take_of_length_le (by simp [hlen])
    have hitk4 : ((swapI m).map Tac.row).take (3 * m + 4) = (swapI m).map Tac.row := List.take_of_length_le (by simp [hlen])
    have HPM := Lib.hid hpm
    generalize swapI m = ins at hpm hitk hitk4 h13 hlen
    clear hT hL HPM hdone
    repeat' (first
      | ((with_reducible apply Wo_u); (conv => lhs; simp -implicitDefEqProofs [*]) <;> exact rfl)
      | ((with_reducible apply Wo_n); (conv => lhs; simp -implicitDefEqProofs [*]) <;> exact rfl)
      | (with_reducible apply Wo_nil)
      | ((with_reducible apply Wo_gt); (exact rfl); ((conv => lhs; simp -implicitDefEqProofs [*]) <;> exact rfl); (conv => lhs; simp -implicitDefEqProofs [*]) <;> exact rfl)
      | ((with_reducible apply Wo_gf); (exact rfl); ((conv => lhs; simp -implicitDefEqProofs [*]) <;> exact rfl); (exact rfl))
      | ((with_reducible apply Wo_gx); (exact rfl); ((conv => lhs; simp -implicitDefEqProofs [*]) <;> exact rfl))
      | ((with_reducible apply Wo_gsT); (exact rfl); ((conv => lhs; simp -implicitDefEqProofs [*]) <;> exact rfl))
      | ((with_reducible apply Wo_gsF); (exact rfl); ((conv => lhs; simp -implicitDefEqProofs [*]) <;> exact rfl))
      | ((with_reducible apply ex2); (conv => lhs; simp -implicitDefEqProofs [*]) <;> exact rfl)
      | (with_reducible apply W_ss) | (with_reducible apply W_srl) | (with_reducible apply W_rl)
      | ((with_reducible apply W_sc); (conv => lhs; simp -implicitDefEqProofs [*]) <;> exact rfl)
      | ((with_reducible apply W_c); (conv => lhs; simp -implicitDefEqProofs [*]) <;> exact rfl)
      | ((with_reducible apply W_srdl); kernel_rfl) | ((with_reducible apply W_rdl); kernel_rfl)
      | ((with_reducible apply Wd_u); (conv => lhs; simp -implicitDefEqProofs [*]) <;> exact rfl)
      | ((with_reducible apply Wd_n); (conv => lhs; simp -implicitDefEqProofs [*]) <;> exact rfl)
      | ((with_reducible apply Wd_nil); exact rfl)
      | ((with_reducible apply Wd_gsT); (exact rfl); ((conv => lhs; simp -implicitDefEqProofs [*]) <;> exact rfl))
      | ((with_reducible apply Wd_gsF); (exact rfl); ((conv => lhs; simp -implicitDefEqProofs [*]) <;> exact rfl))
      | ((with_reducible apply ex4); (conv => lhs; simp -implicitDefEqProofs [*]) <;> exact rfl)
      | (with_reducible apply W_sblock) | (with_reducible apply W_block) | (with_reducible apply W_sskip) | (with_reducible apply W_skip) | (with_reducible apply W_sret) | (with_reducible apply W_ret) | (with_reducible apply W_sexit) | (with_reducible apply W_exit)
      | (with_reducible apply thenW_n) | (with_reducible apply thenW_r) | (with_reducible apply thenW_e) | (with_reducible apply inB_n) | (with_reducible apply inB_r) | (with_reducible apply inB_e) | ((with_reducible apply inB_o); rotate_left; exact rfl)
      | ((with_reducible apply EndQ_ret); (conv => lhs; simp -implicitDefEqProofs [*]) <;> exact rfl) | ((with_reducible apply EndQ_normal); (conv => lhs; simp -implicitDefEqProofs [*]) <;> exact rfl)
      | (intro h h'; try simp [*, -h] at h'))
    refine W_loopS (n := m) (fun s0 w s => ∃ k g : Nat, w = m - k ∧ k ≤ m ∧ s.fr 7 = iv k ∧ s.fr 1 = s0.fr 1 ∧ s.fr 5 = s0.fr 5 ∧ s.fr 6 = s0.fr 6 ∧ s.hp ⟨0, 6, 0⟩ = .box (s0.hp ⟨0, 6, 0⟩).gen [.own ⟨0, 6, 1⟩ g (3 * k + 2), iv 3, iv 0, iv 0, iv 0] false ∧ s.hp ⟨0, 6, 1⟩ = .arr g 8 40 ((swapL k).map Tac.row) false) ⟨0, 2, by simp, by omega, by simp, by simp, by simp, by simp, by simp, by simp [swapL, getT]⟩ ?_
    rintro w ⟨fr, hp⟩ ⟨k, g, rfl, hk, hs7, hs1, hs5, hs6, hh6, hh61⟩
    simp at hs7 hs1 hs5 hs6 hh6 hh61
    have hcl := swap_len k
    by_cases hlt : k < m
    · have hwk2 : IntKind.i64.wrap ((k : Int) + 1) = (k : Int) + 1 := wrap64 (by omega) (by omega)
      have hpre : (swapL k).map Tac.row ++ [[iv 2, iv 2, iv 0, iv 0, iv 0, iv 0, iv 0, uv 0], [iv 2, iv 0, iv 1, iv 0, iv 0, iv 0, iv 0, uv 0], [iv 2, iv 1, iv 2, iv 0, iv 0, iv 0, iv 0, uv 0]] = (swapL (k + 1)).map Tac.row := by simp [swapL, copyT]
      have hby : (3 * k + 2 + 3) * 64 ≤ 140737488355328 := by omega
      have hby1 : (3 * k + 5) * 64 ≤ 140737488355328 := by omega
      have hby2 : 3 * k + 2 ≤ 9223372036854775804 := by omega
      have hby3 : 3 * k ≤ 9223372036854775802 := by omega
      repeat' (first
        | ((with_reducible apply Wo_u); (conv => lhs; simp -implicitDefEqProofs [*]) <;> exact rfl)
        | ((with_reducible apply Wo_n); (conv => lhs; simp -implicitDefEqProofs [*]) <;> exact rfl)
        | (with_reducible apply Wo_nil)
        | ((with_reducible apply Wo_gt); (exact rfl); ((conv => lhs; simp -implicitDefEqProofs [*]) <;> exact rfl); (conv => lhs; simp -implicitDefEqProofs [*]) <;> exact rfl)
        | ((with_reducible apply Wo_gf); (exact rfl); ((conv => lhs; simp -implicitDefEqProofs [*]) <;> exact rfl); (exact rfl))
        | ((with_reducible apply Wo_gx); (exact rfl); ((conv => lhs; simp -implicitDefEqProofs [*]) <;> exact rfl))
        | ((with_reducible apply Wo_gsT); (exact rfl); ((conv => lhs; simp -implicitDefEqProofs [*]) <;> exact rfl))
        | ((with_reducible apply Wo_gsF); (exact rfl); ((conv => lhs; simp -implicitDefEqProofs [*]) <;> exact rfl))
        | ((with_reducible apply ex2); (conv => lhs; simp -implicitDefEqProofs [*]) <;> exact rfl)
        | (with_reducible apply W_ss) | (with_reducible apply W_srl) | (with_reducible apply W_rl)
        | ((with_reducible apply W_sc); (conv => lhs; simp -implicitDefEqProofs [*]) <;> exact rfl)
        | ((with_reducible apply W_c); (conv => lhs; simp -implicitDefEqProofs [*]) <;> exact rfl)
        | ((with_reducible apply W_srdl); kernel_rfl) | ((with_reducible apply W_rdl); kernel_rfl)
        | ((with_reducible apply Wd_u); (conv => lhs; simp -implicitDefEqProofs [*]) <;> exact rfl)
        | ((with_reducible apply Wd_n); (conv => lhs; simp -implicitDefEqProofs [*]) <;> exact rfl)
        | ((with_reducible apply Wd_nil); exact rfl)
        | ((with_reducible apply Wd_gsT); (exact rfl); ((conv => lhs; simp -implicitDefEqProofs [*]) <;> exact rfl))
        | ((with_reducible apply Wd_gsF); (exact rfl); ((conv => lhs; simp -implicitDefEqProofs [*]) <;> exact rfl))
        | ((with_reducible apply ex4); (conv => lhs; simp -implicitDefEqProofs [*]) <;> exact rfl)
        | (with_reducible apply W_sblock) | (with_reducible apply W_block) | (with_reducible apply W_sskip) | (with_reducible apply W_skip) | (with_reducible apply W_sret) | (with_reducible apply W_ret) | (with_reducible apply W_sexit) | (with_reducible apply W_exit)
        | (with_reducible apply thenW_n) | (with_reducible apply thenW_r) | (with_reducible apply thenW_e) | (with_reducible apply inB_n) | (with_reducible apply inB_r) | (with_reducible apply inB_e) | ((with_reducible apply inB_o); rotate_left; exact rfl)
        | ((with_reducible apply EndQ_ret); (conv => lhs; simp -implicitDefEqProofs [*]) <;> exact rfl) | ((with_reducible apply EndQ_normal); (conv => lhs; simp -implicitDefEqProofs [*]) <;> exact rfl)
        | (intro h h'; try simp [*, -h] at h'))
      exact ⟨_, by omega, k + 1, g + 1, rfl, hlt, by simp, by simp [*], by simp [*], by simp [*], by simp [*, Nat.mul_add], by simp [*]⟩
    · obtain rfl : k = m := by omega
      have hby : (3 * k + 2 + 2) * 64 ≤ 140737488355328 := by omega
      have hby1 : (3 * k + 4) * 64 ≤ 140737488355328 := by omega
      have hby2 : 3 * k + 2 ≤ 9223372036854775805 := by omega
      have hby3 : 3 * k ≤ 9223372036854775803 := by omega
      have hmt : (k : Int).tmod 2 = ((k % 2 : Nat) : Int) := by rw [Int.ofNat_tmod]; rfl
      have HI := Lib.hid hi
      obtain ⟨P, hP⟩ : ∃ P, txt0 inp = P := ⟨_, rfl⟩
      obtain ⟨Q, hQ⟩ : ∃ Q, txt1 inp = Q := ⟨_, rfl⟩
      have hPs : P.size ≤ 1 := by rw [← hP]; unfold txt0; split <;> first | (rw [ByteArray.size_extract]; omega) | exact Nat.le_refl _
      have hQs : Q.size ≤ 1 := by rw [← hQ]; unfold txt1; split <;> first | (rw [ByteArray.size_extract]; omega) | exact Nat.le_refl _
      have hPQ : P.size + Q.size ≤ 9223372036854775807 := by omega
      have hQP : Q.size + P.size ≤ 9223372036854775807 := by omega
      rw [hP, hQ] at h20
      rcases Nat.mod_two_eq_zero_or_one k with hp2 | hp2
      all_goals simp only [hp2, if_true, Nat.zero_ne_one, if_false, Int.natCast_zero, Int.natCast_one] at hmt h20
      all_goals by_cases z0 : 0 < inp.size
      all_goals by_cases z1 : 1 < inp.size
      all_goals try omega
      all_goals unfold txt0 at hP
      all_goals unfold txt1 at hQ
      all_goals first
        | rw [if_pos z0] at hP
        | (rw [if_neg z0] at hP; subst hP)
      all_goals first
        | rw [if_pos z1] at hQ
        | (rw [if_neg z1] at hQ; subst hQ)
      all_goals first
        | have y0 : (0 : Int) < inp.size := by omega
        | have y0 : ¬ (0 : Int) < inp.size := by omega
      all_goals first
        | have y1 : (1 : Int) < inp.size := by omega
        | have y1 : ¬ (1 : Int) < inp.size := by omega
      all_goals clear hPs hQs
      all_goals try have y2 : 1 ≤ inp.size := by omega
      all_goals try have y3 : 2 ≤ inp.size := by omega
      all_goals
        repeat' (first
          | ((with_reducible apply Wo_u); (conv => lhs; simp -implicitDefEqProofs [*]) <;> exact rfl)
          | ((with_reducible apply Wo_n); (conv => lhs; simp -implicitDefEqProofs [*]) <;> exact rfl)
          | (with_reducible apply Wo_nil)
          | ((with_reducible apply Wo_gt); (exact rfl); ((conv => lhs; simp -implicitDefEqProofs [*]) <;> exact rfl); (conv => lhs; simp -implicitDefEqProofs [*]) <;> exact rfl)
          | ((with_reducible apply Wo_gf); (exact rfl); ((conv => lhs; simp -implicitDefEqProofs [*]) <;> exact rfl); (exact rfl))
          | ((with_reducible apply Wo_gx); (exact rfl); ((conv => lhs; simp -implicitDefEqProofs [*]) <;> exact rfl))
          | ((with_reducible apply Wo_gsT); (exact rfl); ((conv => lhs; simp -implicitDefEqProofs [*]) <;> exact rfl))
          | ((with_reducible apply Wo_gsF); (exact rfl); ((conv => lhs; simp -implicitDefEqProofs [*]) <;> exact rfl))
          | ((with_reducible apply ex2); (conv => lhs; simp -implicitDefEqProofs [*]) <;> exact rfl)
          | (with_reducible apply W_ss) | (with_reducible apply W_srl) | (with_reducible apply W_rl)
          | ((with_reducible apply W_sc); (conv => lhs; simp -implicitDefEqProofs [*]) <;> exact rfl)
          | ((with_reducible apply W_c); (conv => lhs; simp -implicitDefEqProofs [*]) <;> exact rfl)
          | ((with_reducible apply W_srdl); kernel_rfl) | ((with_reducible apply W_rdl); kernel_rfl)
          | ((with_reducible apply Wd_u); (conv => lhs; simp -implicitDefEqProofs [*]) <;> exact rfl)
          | ((with_reducible apply Wd_n); (conv => lhs; simp -implicitDefEqProofs [*]) <;> exact rfl)
          | ((with_reducible apply Wd_nil); exact rfl)
          | ((with_reducible apply Wd_gsT); (exact rfl); ((conv => lhs; simp -implicitDefEqProofs [*]) <;> exact rfl))
          | ((with_reducible apply Wd_gsF); (exact rfl); ((conv => lhs; simp -implicitDefEqProofs [*]) <;> exact rfl))
          | ((with_reducible apply ex4); (conv => lhs; simp -implicitDefEqProofs [*]) <;> exact rfl)
          | (with_reducible apply W_sblock) | (with_reducible apply W_block) | (with_reducible apply W_sskip) | (with_reducible apply W_skip) | (with_reducible apply W_sret) | (with_reducible apply W_ret) | (with_reducible apply W_sexit) | (with_reducible apply W_exit)
          | (with_reducible apply thenW_n) | (with_reducible apply thenW_r) | (with_reducible apply thenW_e) | (with_reducible apply inB_n) | (with_reducible apply inB_r) | (with_reducible apply inB_e) | ((with_reducible apply inB_o); rotate_left; exact rfl)
          | ((with_reducible apply EndQ_ret); (conv => lhs; simp -implicitDefEqProofs [*]) <;> exact rfl) | ((with_reducible apply EndQ_normal); (conv => lhs; simp -implicitDefEqProofs [*]) <;> exact rfl)
          | (intro h h'; try simp [*, -h] at h'))
      all_goals rfl
end Go.Proofs.Ytmfhdhiaokejdaa

namespace Go.Proofs.Ytmfhdhiaokejdaa
open Go Go.Ab Go.ChangeShapes Go.WideShapes Go.ChangeAt Go.RowKit
set_option linter.unusedSimpArgs false
set_option linter.unusedVariables false
theorem contract10 {call : Orc} (hC : DatOk Try.prog call) (hall : ∀ (x0 : Int) (x1 : ByteArray), (Lit.int .u8 x0).wf = true → x1.size ≤ 1048576 → call.dat 10 [.sc (.int .u8 x0), .sc (.string x1)] = some [.sc (.bool true)]) (H : Type) (enc : TypeId × Value → H) (W : World) (base : Nat) (args : Array Value) (ds gs : List (DataW H)) (before : List MemPlace)
    (hval : ∀ (j : Nat) t v, Try.f10.params[j]? = some t → args[j]? = some v → Value.okWide Try.prog W .any base t v)
    (hW : DataW.Whole enc Try.prog Try.f10.params.toList Rows.forwardSwapsSpec.vars false W args.toList ds gs before) (hk : Rows.uptoSmall H (ds ++ gs) = true) :
    Calls Try.prog 10 args W fun e W' => ∃ v, e = .returned v ∧ Rows.forwardSwapsSpec.post enc Try.prog Try.f10 false true false false W args v W' := by
  have hW' := hW
  obtain ⟨p, q, hA0, hV, rfl, hfz, hnd⟩ := hW
  have hA : DataW.TrodAll enc Try.prog W 0 (fun _ => true) true Try.f10.params.toList args.toList ds p := hA0
  rw [Try.params10] at hA hval
  obtain ⟨v0, vs0, d0, ds0, p0, q0, hargs, rfl, rfl, h0, r0⟩ := trodAll_cons hA
  obtain ⟨v1, vs1, d1, ds1, p1, q1, rfl, rfl, rfl, h1, r1⟩ := trodAll_cons r0
  obtain ⟨rfl, rfl, rfl⟩ := trodAll_nil r1
  obtain rfl : args = #[v0, v1] := by cases args; simp_all
  obtain ⟨rfl, rfl⟩ := trodVars_none hV
  have hkk := of_decide_eq_true hk
  simp only [List.append_nil, Rows.uptoBulkAll] at hkk
  obtain ⟨z0, rfl⟩ := okWide_int Try.underlying5 (hval 0 5 v0 rfl rfl)
  obtain ⟨fuel0, hf0⟩ := h0
  obtain ⟨x0, hr0, hw0⟩ := reads_int (N := 1048576) Try.underlying5 fuel0 _ _ hf0 (by show Rows.uptoBulk d0 ≤ _; omega)
  simp [RepDL, Value.cells] at hr0
  obtain ⟨z1, rfl⟩ := okWide_string Try.underlying9 (hval 1 9 v1 rfl rfl)
  obtain ⟨fuel1, hf1⟩ := h1
  obtain ⟨x1, hr1, hw1⟩ := reads_string (N := 1048576) Try.underlying9 fuel1 _ _ hf1 (by show Rows.uptoBulk d1 ≤ _; omega)
  simp [RepDL, Value.cells] at hr1
  have hd := hC 10 [.sc (.int .u8 x0), .sc (.string x1)] _ (hall x0 x1 hw0 hw1) okFn_10 (There W) W [.int .u8 z0, .string z1] (fun b h => h) (.cons hr0 (.cons hr1 .nil))
  refine hd.mono fun e W' ⟨u, he, hp⟩ => ?_
  subst he
  rw [rtys_10] at hp
  obtain rfl := callPost_true isAggB_4 hp
  exact ⟨_, rfl, law_post hW' rfl laidOut31 (by rw [Try.params10]; intro t ht; simp at ht; rcases ht with rfl | rfl <;> first | exact ⟨rd5, lt5⟩ | exact ⟨rd9, lt9⟩) (by kernel_rfl) Try.underlying4 rfl (callPost_below hp)⟩
set_option maxRecDepth 100000 in
theorem lifted10 {call : Orc} (hC : DatOk Try.prog call) (hall : ∀ (x0 : Int) (x1 : ByteArray), (Lit.int .u8 x0).wf = true → x1.size ≤ 1048576 → call.dat 10 [.sc (.int .u8 x0), .sc (.string x1)] = some [.sc (.bool true)]) (os : Os) (started : os.Started) (H : Type) (enc : TypeId × Value → H) (F : Stop.Interp) :
    ReturnsInHanded {} Try.checked os 10 .any ((Rows.OpenSpec.upto Rows.forwardSwapsSpec).pre6 enc Try.prog Try.f10 Rows.forwardSwapsUptoRow.domain false) (((Rows.OpenSpec.upto Rows.forwardSwapsSpec).at F).post enc Try.prog Try.f10 false true false false) := by
  refine returnsInHanded_of_cond (C := Try.checked) (s := Rows.OpenSpec.upto Rows.forwardSwapsSpec) (k := Rows.uptoSmall) rfl own31 started (by kernel_rfl) Try.func10
    (OpenSpec.witness (enc := enc) (C := Try.checked) (s := Rows.OpenSpec.upto Rows.forwardSwapsSpec) (k := Rows.uptoSmall) rfl false ⟨#[], #[.int .u8 0, .string ⟨#[]⟩], []⟩ 8 (by kernel_rfl) (by kernel_rfl) (by kernel_rfl)
      (x := ([.lit (.int .u8 0), .lit (.string [])], [], [])) (by kernel_rfl) rfl (by kernel_rfl)) ?_
  intro W base args ds gs before hval hW _ hk _
  exact contract10 hC hall H enc W base args ds gs before hval hW hk
theorem said10 {call : Orc} (hC : DatOk Try.prog call) (hall : ∀ (x0 : Int) (x1 : ByteArray), (Lit.int .u8 x0).wf = true → x1.size ≤ 1048576 → call.dat 10 [.sc (.int .u8 x0), .sc (.string x1)] = some [.sc (.bool true)]) : Rows.ForwardSwapsUptoSaid :=
  OpenClaim.holds_of_cond 10 Try.f10 rfl rfl rfl rfl rfl rfl rfl ⟨rfl, rfl, rfl, rfl, rfl⟩ rfl rfl rfl rfl rfl (by kernel_rfl) Try.func10 (by kernel_rfl)
    (of_decide_eq_true (by kernel_rfl)) (by unfold Func.isWrapper; first | (rw [if_pos (by decide +kernel)]; kernel_rfl) | (rw [if_neg (by decide +kernel)]; exact ⟨rfl, rfl⟩))
    (fun os started H enc _ F => lifted10 hC hall os started H enc F)
end Go.Proofs.Ytmfhdhiaokejdaa

namespace Go.Proofs.Ytmfhdhiaokejdaa
open Go Go.Ab
set_option linter.unusedSimpArgs false
set_option linter.unusedVariables false
theorem swaps_holds : Rows.ForwardSwapsUptoSaid := said10 L31_ok fun n inp hn hi => by
  obtain ⟨h1, h2⟩ := u8_range hn
  exact d10 n inp h1 h2 hi
end Go.Proofs.Ytmfhdhiaokejdaa
