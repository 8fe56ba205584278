/- Law 31, ForwardMeans: at every program, text and number of at most 1048576 values and letters together the call answers true and leaves its arguments as they were. -/
import Derived.Test.YtmfhdhiaokejdaaKh
import Derived.Test.YtmfhdhiaokejdaaK5
import Derived.Test.YtmfhdhiaokejdaaK8
import Derived.Lib.Hide
namespace Go.Proofs.Ytmfhdhiaokejdaa
open Go Go.Ab
set_option linter.unusedSimpArgs false
set_option linter.unusedVariables false
/-- A forwarded function's row. -/
abbrev rF (f : Fn) : List AV := [iv f.regs, .sl false 5 (f.blocks.map fun b => (fwdBlk f.regs b).row)]
theorem rF_map (fs : List Fn) : (fs.map fwdFn).map Fn.row = fs.map rF := by
  rw [List.map_map]
  refine List.map_congr_left fun f _ => ?_
  simp [Function.comp, fwdFn, Fn.row, rF]
theorem tell_three (s : RS) : ∃ (A : Int) (B : ByteArray) (C : Int), tellS s = [iv A, .sc (.string B), iv C] := ⟨_, _, _, rfl⟩
theorem fits_fwdF {f : Fn} (h : f.fits) : (fwdFn f).fits := ⟨by simpa [fwdFn] using h.1, fun b hb => by
  simp only [fwdFn, List.mem_map] at hb
  obtain ⟨a, ha, rfl⟩ := hb
  have := (h.2 a ha).1
  exact ⟨by rw [fwdBlk_len]; exact this⟩⟩
set_option maxHeartbeats 8000000 in
theorem d6 (nw : Int) (fs : List Fn) (inp : ByteArray) (fuel : Int) (hl : fs.length ≤ 1048576) (hf : ∀ f ∈ fs, f.wf 1048576) (hi : inp.size ≤ 1048576) (hu0 : 0 ≤ fuel) (hu1 : fuel < 256) : (lim Try.prog E31 X31).dat 6 [.agg [iv nw, .sl false 2 (fs.map Fn.row)], .sc (.string inp), .sc (.int .u8 fuel)] = some [bv true] := by
  refine fnW Try.func6 rfl rfl bodyOk_6 rfl rtys_6 rfl ?_
  have h19 := d19 nw fs hl fun f hm => fn_fits (hf f hm)
  by_cases hA : fs.length ≤ 6 ∧ nw ≤ 100 ∧ inp.size ≤ 60 ∧ rightB nw fs = true
  · obtain ⟨hA1, hA2, hA3, hR⟩ := hA
    rw [hR] at h19
    have hRP : RightP nw fs := by unfold rightB at hR; simpa using hR
    have n1 : ¬ (6 : Int) < fs.length := by omega
    have n2 : ¬ (100 : Int) < nw := by omega
    have n3 : ¬ (60 : Int) < inp.size := by omega
    have n4 : ¬ 6 < fs.length := by omega
    have n5 : ¬ 60 < inp.size := by omega
    have hwf : IntKind.i64.wrap fuel = fuel := wrap64 (by omega) (by omega)
    have Hf := Lib.hid hf
    have HR := Lib.hid hRP
    clear hf hR hRP
    repeat' (first
      | ((with_reducible apply Wo_u); (conv => lhs; simp -implicitDefEqProofs [*]) <;> exact rfl)
      | ((with_reducible apply Wo_n); (conv => lhs; simp -implicitDefEqProofs [*]) <;> exact rfl)
      | (with_reducible apply Wo_nil)
      | ((with_reducible apply Wo_gt); (exact rfl); ((conv => lhs; simp -implicitDefEqProofs [*]) <;> exact rfl); (conv => lhs; simp -implicitDefEqProofs [*]) <;> exact rfl)
      | ((with_reducible apply Wo_gf); (exact rfl); ((conv => lhs; simp -implicitDefEqProofs [*]) <;> exact rfl); (exact rfl))
      | ((with_reducible apply Wo_gx); (exact rfl); ((conv => lhs; simp -implicitDefEqProofs [*]) <;> exact rfl))
      | ((with_reducible apply Wo_gsT); (exact rfl); ((conv => lhs; simp -implicitDefEqProofs [*]) <;> exact rfl))
      | ((with_reducible apply Wo_gsF); (exact rfl); ((conv => lhs; simp -implicitDefEqProofs [*]) <;> exact rfl))
      | ((with_reducible apply ex2); (conv => lhs; simp -implicitDefEqProofs [*]) <;> exact rfl)
      | (with_reducible apply W_ss) | (with_reducible apply W_srl) | (with_reducible apply W_rl)
      | ((with_reducible apply W_sc); (conv => lhs; simp -implicitDefEqProofs [*]) <;> exact rfl)
      | ((with_reducible apply W_c); (conv => lhs; simp -implicitDefEqProofs [*]) <;> exact rfl)
      | ((with_reducible apply W_srdl); kernel_rfl) | ((with_reducible apply W_rdl); kernel_rfl)
      | ((with_reducible apply Wd_u); (conv => lhs; simp -implicitDefEqProofs [*]) <;> exact rfl)
      | ((with_reducible apply Wd_n); (conv => lhs; simp -implicitDefEqProofs [*]) <;> exact rfl)
      | ((with_reducible apply Wd_nil); exact rfl)
      | ((with_reducible apply Wd_gsT); (exact rfl); ((conv => lhs; simp -implicitDefEqProofs [*]) <;> exact rfl))
      | ((with_reducible apply Wd_gsF); (exact rfl); ((conv => lhs; simp -implicitDefEqProofs [*]) <;> exact rfl))
      | ((with_reducible apply ex4); (conv => lhs; simp -implicitDefEqProofs [*]) <;> exact rfl)
      | (with_reducible apply W_sblock) | (with_reducible apply W_block) | (with_reducible apply W_sskip) | (with_reducible apply W_skip) | (with_reducible apply W_sret) | (with_reducible apply W_ret) | (with_reducible apply W_sexit) | (with_reducible apply W_exit)
      | (with_reducible apply thenW_n) | (with_reducible apply thenW_r) | (with_reducible apply thenW_e) | (with_reducible apply inB_n) | (with_reducible apply inB_r) | (with_reducible apply inB_e) | ((with_reducible apply inB_o); rotate_left; exact rfl)
      | ((with_reducible apply EndQ_ret); (conv => lhs; simp -implicitDefEqProofs [*]) <;> exact rfl) | ((with_reducible apply EndQ_normal); (conv => lhs; simp -implicitDefEqProofs [*]) <;> exact rfl)
      | (intro h h'; try simp [*, -h] at h'))
    refine W_loopS (n := fs.length) (fun s0 m s => ∃ k g : Nat, m = fs.length - k ∧ k ≤ fs.length ∧ s.fr 8 = iv k ∧ s.fr 1 = s0.fr 1 ∧ s.fr 2 = s0.fr 2 ∧ s.fr 3 = s0.fr 3 ∧ s.fr 7 = s0.fr 7 ∧ s.hp ⟨0, 3, 0⟩ = s0.hp ⟨0, 3, 0⟩ ∧ s.hp ⟨0, 7, 0⟩ = .box (s0.hp ⟨0, 7, 0⟩).gen [iv nw, .own ⟨0, 7, 2⟩ g k] false ∧ s.hp ⟨0, 7, 2⟩ = .arr g 2 24 (preK (fs.map rF) k) false) ⟨0, 2, by simp, by omega, by simp, by simp, by simp, by simp, by simp, by simp, by simp, by simp [preK_zero]⟩ ?_
    rintro m ⟨fr, hp⟩ ⟨k, g, rfl, hk, hs8, hs1, hs2, hs3, hs7, hh3, hh7, hh72⟩
    simp at hs8 hs1 hs2 hs3 hs7 hh3 hh7 hh72
    have hl1 := preK_len (l := fs.map rF) (k := k) (by simpa using hk)
    by_cases hlt : k < fs.length
    · have hw := wrapN (k := k) (by omega)
      have hg := List.getElem?_eq_getElem hlt
      have hmem := List.getElem_mem hlt
      have h11 := d11 fs[k] (fn_fits (Hf.out _ hmem))
      have hpre : ∀ f, fs[k]? = some f → preK (fs.map rF) k ++ [rF f] = preK (fs.map rF) (k + 1) := fun f h => preK_succ (by rw [List.getElem?_map, h]; rfl)
      generalize hf0 : fs[k] = f at hg hmem h11
      have hfe : ∀ h, fs[k]'h = f := fun _ => hf0
      have hp1 := hpre f hg
      by_cases hs : smallB f = true
      · obtain ⟨n, bs, rfl, hn, hbs, hins, hok, hone⟩ := small_good hs
        rw [hs] at h11
        have h13 := d13 n bs (by omega) (by omega) (fun b hb => by have := hins b hb; omega) hok
        have htk : (bs.map (gB n)).take bs.length = bs.map (gB n) := List.take_of_length_le (by simp)
        have hby : (k + 1) * 32 ≤ 140737488355328 := by omega
        have hby2 : k ≤ 9223372036854775806 := by omega
        clear hins hok hone hs hpre hmem hf0
        repeat' (first
          | ((with_reducible apply Wo_u); (conv => lhs; simp -implicitDefEqProofs [*]) <;> exact rfl)
          | ((with_reducible apply Wo_n); (conv => lhs; simp -implicitDefEqProofs [*]) <;> exact rfl)
          | (with_reducible apply Wo_nil)
          | ((with_reducible apply Wo_gt); (exact rfl); ((conv => lhs; simp -implicitDefEqProofs [*]) <;> exact rfl); (conv => lhs; simp -implicitDefEqProofs [*]) <;> exact rfl)
          | ((with_reducible apply Wo_gf); (exact rfl); ((conv => lhs; simp -implicitDefEqProofs [*]) <;> exact rfl); (exact rfl))
          | ((with_reducible apply Wo_gx); (exact rfl); ((conv => lhs; simp -implicitDefEqProofs [*]) <;> exact rfl))
          | ((with_reducible apply Wo_gsT); (exact rfl); ((conv => lhs; simp -implicitDefEqProofs [*]) <;> exact rfl))
          | ((with_reducible apply Wo_gsF); (exact rfl); ((conv => lhs; simp -implicitDefEqProofs [*]) <;> exact rfl))
          | ((with_reducible apply ex2); (conv => lhs; simp -implicitDefEqProofs [*]) <;> exact rfl)
          | (with_reducible apply W_ss) | (with_reducible apply W_srl) | (with_reducible apply W_rl)
          | ((with_reducible apply W_sc); (conv => lhs; simp -implicitDefEqProofs [*]) <;> exact rfl)
          | ((with_reducible apply W_c); (conv => lhs; simp -implicitDefEqProofs [*]) <;> exact rfl)
          | ((with_reducible apply W_srdl); kernel_rfl) | ((with_reducible apply W_rdl); kernel_rfl)
          | ((with_reducible apply Wd_u); (conv => lhs; simp -implicitDefEqProofs [*]) <;> exact rfl)
          | ((with_reducible apply Wd_n); (conv => lhs; simp -implicitDefEqProofs [*]) <;> exact rfl)
          | ((with_reducible apply Wd_nil); exact rfl)
          | ((with_reducible apply Wd_gsT); (exact rfl); ((conv => lhs; simp -implicitDefEqProofs [*]) <;> exact rfl))
          | ((with_reducible apply Wd_gsF); (exact rfl); ((conv => lhs; simp -implicitDefEqProofs [*]) <;> exact rfl))
          | ((with_reducible apply ex4); (conv => lhs; simp -implicitDefEqProofs [*]) <;> exact rfl)
          | (with_reducible apply W_sblock) | (with_reducible apply W_block) | (with_reducible apply W_sskip) | (with_reducible apply W_skip) | (with_reducible apply W_sret) | (with_reducible apply W_ret) | (with_reducible apply W_sexit) | (with_reducible apply W_exit)
          | (with_reducible apply thenW_n) | (with_reducible apply thenW_r) | (with_reducible apply thenW_e) | (with_reducible apply inB_n) | (with_reducible apply inB_r) | (with_reducible apply inB_e) | ((with_reducible apply inB_o); rotate_left; exact rfl)
          | ((with_reducible apply EndQ_ret); (conv => lhs; simp -implicitDefEqProofs [*]) <;> exact rfl) | ((with_reducible apply EndQ_normal); (conv => lhs; simp -implicitDefEqProofs [*]) <;> exact rfl)
          | (intro h h'; try simp [*, -h] at h'))
        exact ⟨_, by omega, k + 1, g + 1, rfl, hlt, by simp, by simp [*], by simp [*], by simp [*], by simp [*], by simp [*], by simp [*], by simp [*]⟩
      · rw [Bool.not_eq_true] at hs
        rw [hs] at h11
        clear hpre hmem hf0
        repeat' (first
          | ((with_reducible apply Wo_u); (conv => lhs; simp -implicitDefEqProofs [*]) <;> exact rfl)
          | ((with_reducible apply Wo_n); (conv => lhs; simp -implicitDefEqProofs [*]) <;> exact rfl)
          | (with_reducible apply Wo_nil)
          | ((with_reducible apply Wo_gt); (exact rfl); ((conv => lhs; simp -implicitDefEqProofs [*]) <;> exact rfl); (conv => lhs; simp -implicitDefEqProofs [*]) <;> exact rfl)
          | ((with_reducible apply Wo_gf); (exact rfl); ((conv => lhs; simp -implicitDefEqProofs [*]) <;> exact rfl); (exact rfl))
          | ((with_reducible apply Wo_gx); (exact rfl); ((conv => lhs; simp -implicitDefEqProofs [*]) <;> exact rfl))
          | ((with_reducible apply Wo_gsT); (exact rfl); ((conv => lhs; simp -implicitDefEqProofs [*]) <;> exact rfl))
          | ((with_reducible apply Wo_gsF); (exact rfl); ((conv => lhs; simp -implicitDefEqProofs [*]) <;> exact rfl))
          | ((with_reducible apply ex2); (conv => lhs; simp -implicitDefEqProofs [*]) <;> exact rfl)
          | (with_reducible apply W_ss) | (with_reducible apply W_srl) | (with_reducible apply W_rl)
          | ((with_reducible apply W_sc); (conv => lhs; simp -implicitDefEqProofs [*]) <;> exact rfl)
          | ((with_reducible apply W_c); (conv => lhs; simp -implicitDefEqProofs [*]) <;> exact rfl)
          | ((with_reducible apply W_srdl); kernel_rfl) | ((with_reducible apply W_rdl); kernel_rfl)
          | ((with_reducible apply Wd_u); (conv => lhs; simp -implicitDefEqProofs [*]) <;> exact rfl)
          | ((with_reducible apply Wd_n); (conv => lhs; simp -implicitDefEqProofs [*]) <;> exact rfl)
          | ((with_reducible apply Wd_nil); exact rfl)
          | ((with_reducible apply Wd_gsT); (exact rfl); ((conv => lhs; simp -implicitDefEqProofs [*]) <;> exact rfl))
          | ((with_reducible apply Wd_gsF); (exact rfl); ((conv => lhs; simp -implicitDefEqProofs [*]) <;> exact rfl))
          | ((with_reducible apply ex4); (conv => lhs; simp -implicitDefEqProofs [*]) <;> exact rfl)
          | (with_reducible apply W_sblock) | (with_reducible apply W_block) | (with_reducible apply W_sskip) | (with_reducible apply W_skip) | (with_reducible apply W_sret) | (with_reducible apply W_ret) | (with_reducible apply W_sexit) | (with_reducible apply W_exit)
          | (with_reducible apply thenW_n) | (with_reducible apply thenW_r) | (with_reducible apply thenW_e) | (with_reducible apply inB_n) | (with_reducible apply inB_r) | (with_reducible apply inB_e) | ((with_reducible apply inB_o); rotate_left; exact rfl)
          | ((with_reducible apply EndQ_ret); (conv => lhs; simp -implicitDefEqProofs [*]) <;> exact rfl) | ((with_reducible apply EndQ_normal); (conv => lhs; simp -implicitDefEqProofs [*]) <;> exact rfl)
          | (intro h h'; try simp [*, -h] at h'))
        simp [*]
    · obtain rfl : k = fs.length := by omega
      have ha1 : preK (fs.map rF) fs.length = fs.map rF := by have := preK_all (fs.map rF); rwa [List.length_map] at this
      have htk : (fs.map rF).take fs.length = fs.map rF := List.take_of_length_le (by simp)
      have hRP := HR.out
      have h19c := d19 nw (fs.map fwdFn) (by simpa using hl) fun f hm => by
        simp only [List.mem_map] at hm
        obtain ⟨a, ha, rfl⟩ := hm
        exact fits_fwdF (fn_fits (Hf.out a ha))
      rw [rightB_t (right_fwd hRP), rF_map] at h19c
      have h20 := d20 ⟨nw, fs, inp, fuel⟩ ⟨hRP.2.1, hi, by show fuel ≤ _; omega⟩ hRP.1 hu0 (List.length_pos_iff.2 hRP.2.2.1) hl (good_all hRP Hf.out)
      have h20c := d20 ⟨nw, fs.map fwdFn, inp, fuel⟩ ⟨hRP.2.1, hi, by show fuel ≤ _; omega⟩ hRP.1 hu0 (by rw [List.length_map]; exact List.length_pos_iff.2 hRP.2.2.1) (by simpa using hl) (good_all_fwd hRP Hf.out)
      rw [run_fwd hRP Hf.out, rF_map] at h20c
      obtain ⟨A, B, C, ht⟩ := tell_three (runS ⟨nw, fs, inp, fuel⟩)
      rw [ht] at h20 h20c
      clear hRP ht
      repeat' (first
        | ((with_reducible apply Wo_u); (conv => lhs; simp -implicitDefEqProofs [*]) <;> exact rfl)
        | ((with_reducible apply Wo_n); (conv => lhs; simp -implicitDefEqProofs [*]) <;> exact rfl)
        | (with_reducible apply Wo_nil)
        | ((with_reducible apply Wo_gt); (exact rfl); ((conv => lhs; simp -implicitDefEqProofs [*]) <;> exact rfl); (conv => lhs; simp -implicitDefEqProofs [*]) <;> exact rfl)
        | ((with_reducible apply Wo_gf); (exact rfl); ((conv => lhs; simp -implicitDefEqProofs [*]) <;> exact rfl); (exact rfl))
        | ((with_reducible apply Wo_gx); (exact rfl); ((conv => lhs; simp -implicitDefEqProofs [*]) <;> exact rfl))
        | ((with_reducible apply Wo_gsT); (exact rfl); ((conv => lhs; simp -implicitDefEqProofs [*]) <;> exact rfl))
        | ((with_reducible apply Wo_gsF); (exact rfl); ((conv => lhs; simp -implicitDefEqProofs [*]) <;> exact rfl))
        | ((with_reducible apply ex2); (conv => lhs; simp -implicitDefEqProofs [*]) <;> exact rfl)
        | (with_reducible apply W_ss) | (with_reducible apply W_srl) | (with_reducible apply W_rl)
        | ((with_reducible apply W_sc); (conv => lhs; simp -implicitDefEqProofs [*]) <;> exact rfl)
        | ((with_reducible apply W_c); (conv => lhs; simp -implicitDefEqProofs [*]) <;> exact rfl)
        | ((with_reducible apply W_srdl); kernel_rfl) | ((with_reducible apply W_rdl); kernel_rfl)
        | ((with_reducible apply Wd_u); (conv => lhs; simp -implicitDefEqProofs [*]) <;> exact rfl)
        | ((with_reducible apply Wd_n); (conv => lhs; simp -implicitDefEqProofs [*]) <;> exact rfl)
        | ((with_reducible apply Wd_nil); exact rfl)
        | ((with_reducible apply Wd_gsT); (exact rfl); ((conv => lhs; simp -implicitDefEqProofs [*]) <;> exact rfl))
        | ((with_reducible apply Wd_gsF); (exact rfl); ((conv => lhs; simp -implicitDefEqProofs [*]) <;> exact rfl))
        | ((with_reducible apply ex4); (conv => lhs; simp -implicitDefEqProofs [*]) <;> exact rfl)
        | (with_reducible apply W_sblock) | (with_reducible apply W_block) | (with_reducible apply W_sskip) | (with_reducible apply W_skip) | (with_reducible apply W_sret) | (with_reducible apply W_ret) | (with_reducible apply W_sexit) | (with_reducible apply W_exit)
        | (with_reducible apply thenW_n) | (with_reducible apply thenW_r) | (with_reducible apply thenW_e) | (with_reducible apply inB_n) | (with_reducible apply inB_r) | (with_reducible apply inB_e) | ((with_reducible apply inB_o); rotate_left; exact rfl)
        | ((with_reducible apply EndQ_ret); (conv => lhs; simp -implicitDefEqProofs [*]) <;> exact rfl) | ((with_reducible apply EndQ_normal); (conv => lhs; simp -implicitDefEqProofs [*]) <;> exact rfl)
        | (intro h h'; try simp [*, -h] at h'))
      all_goals first
        | rfl
        | (simp [*]; done)
        | skip

  · have hN : rightB nw fs = false ∨ rightB nw fs = true := by cases rightB nw fs <;> simp
    rcases hN with hN | hN
    all_goals rw [hN] at h19
    all_goals have HA := Lib.hid hA
    all_goals clear hA
    all_goals
      repeat' (first
        | ((with_reducible apply Wo_u); (conv => lhs; simp -implicitDefEqProofs [*]) <;> exact rfl)
        | ((with_reducible apply Wo_n); (conv => lhs; simp -implicitDefEqProofs [*]) <;> exact rfl)
        | (with_reducible apply Wo_nil)
        | ((with_reducible apply Wo_gt); (exact rfl); ((conv => lhs; simp -implicitDefEqProofs [*]) <;> exact rfl); (conv => lhs; simp -implicitDefEqProofs [*]) <;> exact rfl)
        | ((with_reducible apply Wo_gf); (exact rfl); ((conv => lhs; simp -implicitDefEqProofs [*]) <;> exact rfl); (exact rfl))
        | ((with_reducible apply Wo_gx); (exact rfl); ((conv => lhs; simp -implicitDefEqProofs [*]) <;> exact rfl))
        | ((with_reducible apply Wo_gsT); (exact rfl); ((conv => lhs; simp -implicitDefEqProofs [*]) <;> exact rfl))
        | ((with_reducible apply Wo_gsF); (exact rfl); ((conv => lhs; simp -implicitDefEqProofs [*]) <;> exact rfl))
        | ((with_reducible apply ex2); (conv => lhs; simp -implicitDefEqProofs [*]) <;> exact rfl)
        | (with_reducible apply W_ss) | (with_reducible apply W_srl) | (with_reducible apply W_rl)
        | ((with_reducible apply W_sc); (conv => lhs; simp -implicitDefEqProofs [*]) <;> exact rfl)
        | ((with_reducible apply W_c); (conv => lhs; simp -implicitDefEqProofs [*]) <;> exact rfl)
        | ((with_reducible apply W_srdl); kernel_rfl) | ((with_reducible apply W_rdl); kernel_rfl)
        | ((with_reducible apply Wd_u); (conv => lhs; simp -implicitDefEqProofs [*]) <;> exact rfl)
        | ((with_reducible apply Wd_n); (conv => lhs; simp -implicitDefEqProofs [*]) <;> exact rfl)
        | ((with_reducible apply Wd_nil); exact rfl)
        | ((with_reducible apply Wd_gsT); (exact rfl); ((conv => lhs; simp -implicitDefEqProofs [*]) <;> exact rfl))
        | ((with_reducible apply Wd_gsF); (exact rfl); ((conv => lhs; simp -implicitDefEqProofs [*]) <;> exact rfl))
        | ((with_reducible apply ex4); (conv => lhs; simp -implicitDefEqProofs [*]) <;> exact rfl)
        | (with_reducible apply W_sblock) | (with_reducible apply W_block) | (with_reducible apply W_sskip) | (with_reducible apply W_skip) | (with_reducible apply W_sret) | (with_reducible apply W_ret) | (with_reducible apply W_sexit) | (with_reducible apply W_exit)
        | (with_reducible apply thenW_n) | (with_reducible apply thenW_r) | (with_reducible apply thenW_e) | (with_reducible apply inB_n) | (with_reducible apply inB_r) | (with_reducible apply inB_e) | ((with_reducible apply inB_o); rotate_left; exact rfl)
        | ((with_reducible apply EndQ_ret); (conv => lhs; simp -implicitDefEqProofs [*]) <;> exact rfl) | ((with_reducible apply EndQ_normal); (conv => lhs; simp -implicitDefEqProofs [*]) <;> exact rfl)
        | (intro h h'; try simp [*, -h] at h'))
    all_goals first
      | rfl
      | (exfalso; refine HA.out ⟨?_, ?_, ?_, hN⟩ <;> (simp at *; omega))
end Go.Proofs.Ytmfhdhiaokejdaa

namespace Go.Proofs.Ytmfhdhiaokejdaa
open Go Go.Ab Go.ChangeShapes Go.WideShapes Go.ChangeAt Go.RowKit
set_option linter.unusedSimpArgs false
set_option linter.unusedVariables false
theorem contract6 {call : Orc} (hC : DatOk Try.prog call) (hall : ∀ (x0 : Prg) (x1 : ByteArray) (x2 : Int), x0.wf 1048576 → x1.size ≤ 1048576 → (Lit.int .u8 x2).wf = true → call.dat 6 [.agg x0.row, .sc (.string x1), .sc (.int .u8 x2)] = some [.sc (.bool true)]) (H : Type) (enc : TypeId × Value → H) (W : World) (base : Nat) (args : Array Value) (ds gs : List (DataW H)) (before : List MemPlace)
    (hval : ∀ (j : Nat) t v, Try.f6.params[j]? = some t → args[j]? = some v → Value.okWide Try.prog W .any base t v)
    (hW : DataW.Whole enc Try.prog Try.f6.params.toList Rows.forwardMeansSpec.vars false W args.toList ds gs before) (hk : Rows.uptoSmall H (ds ++ gs) = true) :
    Calls Try.prog 6 args W fun e W' => ∃ v, e = .returned v ∧ Rows.forwardMeansSpec.post enc Try.prog Try.f6 false true false false W args v W' := by
  have hW' := hW
  obtain ⟨p, q, hA0, hV, rfl, hfz, hnd⟩ := hW
  have hA : DataW.TrodAll enc Try.prog W 0 (fun _ => true) true Try.f6.params.toList args.toList ds p := hA0
  rw [Try.params6] at hA hval
  obtain ⟨v0, vs0, d0, ds0, p0, q0, hargs, rfl, rfl, h0, r0⟩ := trodAll_cons hA
  obtain ⟨v1, vs1, d1, ds1, p1, q1, rfl, rfl, rfl, h1, r1⟩ := trodAll_cons r0
  obtain ⟨v2, vs2, d2, ds2, p2, q2, rfl, rfl, rfl, h2, r2⟩ := trodAll_cons r1
  obtain ⟨rfl, rfl, rfl⟩ := trodAll_nil r2
  obtain rfl : args = #[v0, v1, v2] := by cases args; simp_all
  obtain ⟨rfl, rfl⟩ := trodVars_none hV
  have hkk := of_decide_eq_true hk
  simp only [List.append_nil, Rows.uptoBulkAll] at hkk
  obtain ⟨cs0, rfl, hcs0⟩ := okWide_struct Try.underlying44 (hval 0 44 v0 rfl rfl)
  obtain ⟨fuel0, hf0⟩ := h0
  obtain ⟨x0, hr0, hw0⟩ := reads_prg (N := 1048576) fuel0 _ _ hf0 (by show Rows.uptoBulk d0 ≤ _; omega)
  obtain ⟨z1, rfl⟩ := okWide_string Try.underlying9 (hval 1 9 v1 rfl rfl)
  obtain ⟨fuel1, hf1⟩ := h1
  obtain ⟨x1, hr1, hw1⟩ := reads_string (N := 1048576) Try.underlying9 fuel1 _ _ hf1 (by show Rows.uptoBulk d1 ≤ _; omega)
  simp [RepDL, Value.cells] at hr1
  obtain ⟨z2, rfl⟩ := okWide_int Try.underlying5 (hval 2 5 v2 rfl rfl)
  obtain ⟨fuel2, hf2⟩ := h2
  obtain ⟨x2, hr2, hw2⟩ := reads_int (N := 1048576) Try.underlying5 fuel2 _ _ hf2 (by show Rows.uptoBulk d2 ≤ _; omega)
  simp [RepDL, Value.cells] at hr2
  have hd := hC 6 [.agg x0.row, .sc (.string x1), .sc (.int .u8 x2)] _ (hall x0 x1 x2 hw0 hw1 hw2) okFn_6 (There W) W [.agg cs0, .string z1, .int .u8 z2] (fun b h => h) (.cons ⟨cs0.toList, rfl, hr0⟩ (.cons hr1 (.cons hr2 .nil)))
  refine hd.mono fun e W' ⟨u, he, hp⟩ => ?_
  subst he
  rw [rtys_6] at hp
  obtain rfl := callPost_true isAggB_4 hp
  exact ⟨_, rfl, law_post hW' rfl laidOut31 (by rw [Try.params6]; intro t ht; simp at ht; rcases ht with rfl | rfl | rfl <;> first | exact ⟨rd44, lt44⟩ | exact ⟨rd9, lt9⟩ | exact ⟨rd5, lt5⟩) (by kernel_rfl) Try.underlying4 rfl (callPost_below hp)⟩
set_option maxRecDepth 100000 in
theorem lifted6 {call : Orc} (hC : DatOk Try.prog call) (hall : ∀ (x0 : Prg) (x1 : ByteArray) (x2 : Int), x0.wf 1048576 → x1.size ≤ 1048576 → (Lit.int .u8 x2).wf = true → call.dat 6 [.agg x0.row, .sc (.string x1), .sc (.int .u8 x2)] = some [.sc (.bool true)]) (os : Os) (started : os.Started) (H : Type) (enc : TypeId × Value → H) (F : Stop.Interp) :
    ReturnsInHanded {} Try.checked os 6 .any ((Rows.OpenSpec.upto Rows.forwardMeansSpec).pre6 enc Try.prog Try.f6 Rows.forwardMeansUptoRow.domain false) (((Rows.OpenSpec.upto Rows.forwardMeansSpec).at F).post enc Try.prog Try.f6 false true false false) := by
  refine returnsInHanded_of_cond (C := Try.checked) (s := Rows.OpenSpec.upto Rows.forwardMeansSpec) (k := Rows.uptoSmall) rfl own31 started (by kernel_rfl) Try.func6
    (OpenSpec.witness (enc := enc) (C := Try.checked) (s := Rows.OpenSpec.upto Rows.forwardMeansSpec) (k := Rows.uptoSmall) rfl false ⟨#[], #[.agg #[.int .i64 0, .slice none 0 0], .string ⟨#[]⟩, .int .u8 0], []⟩ 8 (by kernel_rfl) (by kernel_rfl) (by kernel_rfl)
      (x := ([.agg [.lit (.int .i64 0), .nil], .lit (.string []), .lit (.int .u8 0)], [], [])) (by kernel_rfl) rfl (by kernel_rfl)) ?_
  intro W base args ds gs before hval hW _ hk _
  exact contract6 hC hall H enc W base args ds gs before hval hW hk
theorem said6 {call : Orc} (hC : DatOk Try.prog call) (hall : ∀ (x0 : Prg) (x1 : ByteArray) (x2 : Int), x0.wf 1048576 → x1.size ≤ 1048576 → (Lit.int .u8 x2).wf = true → call.dat 6 [.agg x0.row, .sc (.string x1), .sc (.int .u8 x2)] = some [.sc (.bool true)]) : Rows.ForwardMeansUptoSaid :=
  OpenClaim.holds_of_cond 6 Try.f6 rfl rfl rfl rfl rfl rfl rfl ⟨rfl, rfl, rfl, rfl, rfl⟩ rfl rfl rfl rfl rfl (by kernel_rfl) Try.func6 (by kernel_rfl)
    (of_decide_eq_true (by kernel_rfl)) (by unfold Func.isWrapper; first | (rw [if_pos (by decide +kernel)]; kernel_rfl) | (rw [if_neg (by decide +kernel)]; exact ⟨rfl, rfl⟩))
    (fun os started H enc _ F => lifted6 hC hall os started H enc F)
end Go.Proofs.Ytmfhdhiaokejdaa

namespace Go.Proofs.Ytmfhdhiaokejdaa
open Go Go.Ab
set_option linter.unusedSimpArgs false
set_option linter.unusedVariables false
theorem u8_range {n : Int} (h : (Lit.int .u8 n).wf = true) : 0 ≤ n ∧ n < 256 := by
  have e : IntKind.u8.min = 0 := rfl
  have e2 : IntKind.u8.max = 255 := rfl
  simp [Lit.wf] at h
  first | omega | (simp [IntKind.inRange, e, e2] at h; omega)
theorem means_holds : Rows.ForwardMeansUptoSaid := said6 L31_ok fun p inp fuel hp hi hf => by
  obtain ⟨h1, h2⟩ := u8_range hf
  exact d6 p.nw p.fs inp fuel hp.fs.1 hp.fs.2 hi h1 h2
end Go.Proofs.Ytmfhdhiaokejdaa
