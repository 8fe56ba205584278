/- A part of the proof: Vk. -/
import Derived.Test.YtaeeffddinppeaaGreatDoorR36
import Derived.Test.YtaeeffddinppeaaGreatDoorR37
import Derived.Test.YtaeeffddinppeaaGreatDoorR21
import Derived.Test.YtaeeffddinppeaaGreatDoorR15
set_option linter.unusedSimpArgs false
set_option linter.unusedVariables false
namespace Go.Proofs.YtaeeffddinppeaaGreatDoor
open Go Go.Ab
attribute [-simp] Prog.bind getCs putCs
attribute [local simp ↓] run_bind
attribute [local simp ↓] runF_bind
attribute [local simp] run_getCsN runF_getCsN facetsC putCs_one run_putCsN runF_putCsN facetsW facetsH
attribute [local simp] take1 br_len br_reg br_regg bt_reg bt_pc bt_rd bt_steps bt_en bt_out br_0 bh_0 br_17 bh_17 br_18 bh_18 br_19 bh_19 br_20 bh_20 br_21 bh_21 br_22 bh_22 br_23 bh_23 br_24 bh_24 br_25 bh_25 br_26 bh_26 br_27 bh_27
def RunS (t : Ma.PS) (rs : List AV) : Prop := ∃ cs : List AV, rs = [.agg (iv t.pc :: (t.rg.map uv ++ [.vec 1 (rowW t.mem), iv t.rd, .sc (.string (outT t.out)), iv t.steps, iv t.en])), .vec 1 (cs.map fun x => [x])]
theorem bxR_eq {code : List Int} {inp : ByteArray} {pc : Int} {rg : List Int} {gm nm : Nat} {rd steps en : Int} {go no gc gk gn n : Nat} : bxR code inp pc rg gm nm rd steps en go no gc gk gn n = iv pc :: (rg.map uv ++ [.own ⟨0, 13, 18⟩ gm nm, iv rd, .sc (.string ⟨#[]⟩), iv steps, iv en, .own ⟨0, 13, 23⟩ go no, .own ⟨0, 13, 24⟩ gc n, .own ⟨0, 13, 25⟩ gk n, .sl false 1 (rowW code), .sc (.string inp), .own ⟨0, 13, 28⟩ gn n]) := rfl
set_option maxRecDepth 20000 in
set_option maxHeartbeats 8000000 in
theorem s114 (code mem : List Int) (inp : ByteArray) (fuel dd : Int) (hl : code.length ≤ 1048576) (hU : ∀ x ∈ code, U x) (hmU : ∀ x ∈ mem, Ma.U x) (hml : mem.length ≤ 1048576) (hil : inp.size ≤ 1048576) (hf : fuel ≤ 4611686018427387904) :
    ∃ rs, (lim Tryz.prog E47 X47).dat 114 [.agg [.sl false 1 (rowW code), iv dd], .sc (.string inp), .agg (stA mem), iv fuel] = some rs ∧ RunS (Ma.runP code (inpF inp) fuel.toNat (startM mem)) rs := by
  refine fnR Tryz.func114 rfl rfl bodyOk_114 rfl rtys_114 rfl ?_
  have h161 := d38 code dd hl hU
  have hDl : (rowD code).length = code.length := by simp
  have hKl : (rowK code).length = code.length := by simp
  have n1 : (code.length : Int) * 8 ≤ 140737488355328 := by omega
  have n2 : (code.length : Int) ≤ 140737488355328 := by omega
  have n3 : (code.length : Int) ≤ 9223372036854775807 := by omega
  have n4 : mem.length * 4 ≤ 140737488355328 := by omega
  have n5 : mem.length ≤ 9223372036854775807 := by omega
  have hmrl : (rowW mem).length = mem.length := List.length_map ..
  have hmU' := Lib.hid hmU
  have hUU := Lib.hid hU
  clear hmU hU
  generalize hD : rowD code = RD at h161 hDl
  generalize hK : rowK code = RK at h161 hKl
  generalize hRM : rowW mem = RM at hmrl
  have hst : stA mem = [iv 0, uv 0, uv 0, uv 0, uv 0, uv 0, uv 0, uv 0, uv 0, uv 0, uv 0, uv 0, uv 0, uv 0, uv 0, uv 0, uv 0, .sl false 1 RM, iv 0, .sc (.string ⟨#[]⟩), iv 0, iv 0] := by rw [← hRM]; rfl
  rw [hst]
  clear hst
  refine sgo0 ?_
  refine W_loopS (n := fuel.toNat + 1) (fun s0 m q => ∃ k t go, m = fuel.toNat + 1 - k ∧ Ma.Run code (inpF inp) inp.size fuel.toNat (startM mem) k t ∧ RSt code inp t 2 go q.hp ∧ q.fr 14 = iv k ∧ q.fr 13 = s0.fr 13 ∧ q.fr 3 = s0.fr 3 ∧ q.fr 8 = s0.fr 8 ∧ q.fr 9 = s0.fr 9 ∧ ∀ y : Nm, y.d = 0 → y.i ≠ 13 → q.hp y = s0.hp y)
    ⟨0, startM mem, 2, by simp, .start _ (startM_ok hmU'.out), ⟨by simp [bxR_eq, startM], by simp [startM, hRM], by simp [startM], by simp [hD], by simp [hK], ⟨List.replicate code.length 0, by simp, by simp⟩⟩, by simp, by simp, by simp, by simp, by simp, fun y _ _ => rfl⟩ ?_
  rintro m ⟨fr, hp⟩ ⟨k, t, go', rfl, R, M', hs14, hs13, hs3, hs8, hs9, hoth⟩
  simp at hs14 hs13 hs3 hs8 hs9
  dsimp only at M' hoth
  have h80 := hoth ⟨0, 8, 0⟩ rfl (by decide)
  have h818 := hoth ⟨0, 8, 18⟩ rfl (by decide)
  have h90 := hoth ⟨0, 9, 0⟩ rfl (by decide)
  simp at h80 h818 h90
  have hx := M'.bx
  have hrl := R.ok.rl
  have hkF := R.le
  have hmt := R.mem
  have hstt := R.st
  have hsts : (startM mem).steps = 0 := rfl
  have hstm : (startM mem).mem.length = mem.length := rfl
  have hw := wrapN (k := k) (by omega)
  by_cases hlt : (k : Int) < fuel
  · by_cases he : t.en = 0
    · have hb := beq_dec t.en 0
      simp only [he, decide_true] at hb
      have hnx := Lib.hid (R.next (by omega) he (by omega) hUU.out (inpF_spec inp))
      obtain ⟨hp2, go2, h162, M2, h32⟩ := s162 R.ok he (by omega) hil hl (by omega) hUU.out M' 60
      have M2' := Lib.hid M2
      have h32' := Lib.hid h32
      have hoth' := Lib.hid hoth
      clear R M2 h32 hoth M'
      repeat' (first | ((with_reducible first | apply Wo_u | apply Wo_n | apply ex2 | apply W_sc | apply W_c | apply Wd_u | apply Wd_n | apply ex4 | apply EndQ_ret | apply EndQ_normal); (conv => lhs; simp -implicitDefEqProofs [*]) <;> exact rfl) | (with_reducible first | apply Wo_nil | apply W_ss | apply W_srl | apply W_rl | apply W_sblock | apply W_block | apply W_sskip | apply W_skip | apply W_sret | apply W_ret | apply W_sexit | apply W_exit | apply thenW_n | apply thenW_r | apply thenW_e | apply inB_n | apply inB_r | apply inB_e) | ((with_reducible apply Wo_gt); (exact rfl); ((conv => lhs; simp -implicitDefEqProofs [*]) <;> exact rfl); (conv => lhs; simp -implicitDefEqProofs [*]) <;> exact rfl) | ((with_reducible apply Wo_gf); (exact rfl); ((conv => lhs; simp -implicitDefEqProofs [*]) <;> exact rfl); (exact rfl)) | ((with_reducible apply Wo_gx); (exact rfl); ((conv => lhs; simp -implicitDefEqProofs [*]) <;> exact rfl)) | ((with_reducible apply Wo_gsT); (exact rfl); ((conv => lhs; simp -implicitDefEqProofs [*]) <;> exact rfl)) | ((with_reducible apply Wo_gsF); (exact rfl); ((conv => lhs; simp -implicitDefEqProofs [*]) <;> exact rfl)) | ((with_reducible apply Wd_gsT); (exact rfl); ((conv => lhs; simp -implicitDefEqProofs [*]) <;> exact rfl)) | ((with_reducible apply Wd_gsF); (exact rfl); ((conv => lhs; simp -implicitDefEqProofs [*]) <;> exact rfl)) | ((with_reducible first | apply W_srdl | apply W_rdl); kernel_rfl) | ((with_reducible apply Wd_nil); kernel_rfl) | ((with_reducible apply inB_o); rotate_left; exact rfl) | (intro h h'; try simp [*, -h] at h') | ((with_reducible apply Wd_gx); (exact rfl); ((conv => lhs; simp -implicitDefEqProofs [*]) <;> exact rfl)))
      all_goals
        have h32 := h32'.out
        have hoth := hoth'.out
        exact ⟨_, by omega, k + 1, _, go2, rfl, hnx.out, by simpa using M2'.out, by simp [*], by simp [*], by simp [*], by simp [*], by simp [*], fun y h0 h1 => (h32 y h0 h1).trans (hoth y h0 h1)⟩
    · have hb := beq_dec t.en 0
      simp only [he, decide_false] at hb
      have HD := Lib.hid (R.done (.inr he))
      obtain ⟨cs, hcl0, hcN⟩ := M'.ct
      have hmm := M'.mem
      have hmo := M'.out
      obtain ⟨pc, rg, tmem, rd, out, steps, en, own⟩ := t
      obtain ⟨x0, x1, x2, x3, x4, x5, x6, x7, x8, x9, x10, x11, x12, x13, x14, x15, rfl⟩ := reg16 hrl
      simp only at hx hmm hmo hmt
      rw [bxR_eq] at hx
      simp only [List.map_cons, List.map_nil, List.cons_append, List.nil_append] at hx
      have hbr := bytes_rowB out
      have htk : (rowB out).take out.length = rowB out := List.take_of_length_le (by simp)
      have htn : (rowIx cs).take code.length = rowIx cs := List.take_of_length_le (by simp [hcl0])
      have hnl2 : (rowIx cs).length = code.length := by simp [hcl0]
      have htm : (rowW tmem).take tmem.length = rowW tmem := List.take_of_length_le (by simp)
      have hml2 : (rowW tmem).length = tmem.length := List.length_map ..
      have hbl : (rowB out).length = out.length := List.length_map ..
      clear R M' hoth hUU hmU'
      generalize hRW : rowW tmem = RW at *
      generalize hRI : rowIx cs = RI at *
      generalize hRB : rowB out = RB at *
      repeat' (first | ((with_reducible apply Wo_u); (conv => lhs; simp -implicitDefEqProofs [*]) <;> exact rfl) | ((with_reducible apply Wo_n); (conv => lhs; simp -implicitDefEqProofs [*]) <;> exact rfl) | (with_reducible apply Wo_nil) | ((with_reducible apply Wo_gt); (exact rfl); ((conv => lhs; simp -implicitDefEqProofs [*]) <;> exact rfl); (conv => lhs; simp -implicitDefEqProofs [*]) <;> exact rfl) | ((with_reducible apply Wo_gf); (exact rfl); ((conv => lhs; simp -implicitDefEqProofs [*]) <;> exact rfl); (exact rfl)) | ((with_reducible apply Wo_gx); (exact rfl); ((conv => lhs; simp -implicitDefEqProofs [*]) <;> exact rfl)) | ((with_reducible apply Wo_gsT); (exact rfl); ((conv => lhs; simp -implicitDefEqProofs [*]) <;> exact rfl)) | ((with_reducible apply Wo_gsF); (exact rfl); ((conv => lhs; simp -implicitDefEqProofs [*]) <;> exact rfl)) | ((with_reducible apply ex2); (conv => lhs; simp -implicitDefEqProofs [*]) <;> exact rfl) | (with_reducible apply W_ss) | (with_reducible apply W_srl) | (with_reducible apply W_rl) | ((with_reducible apply W_sc); (conv => lhs; simp -implicitDefEqProofs [*]) <;> exact rfl) | ((with_reducible apply W_c); (conv => lhs; simp -implicitDefEqProofs [*]) <;> exact rfl) | ((with_reducible apply W_srdl); kernel_rfl) | ((with_reducible apply W_rdl); kernel_rfl) | ((with_reducible apply Wd_u); (conv => lhs; simp -implicitDefEqProofs [*]) <;> exact rfl) | ((with_reducible apply Wd_n); (conv => lhs; simp -implicitDefEqProofs [*]) <;> exact rfl) | ((with_reducible apply Wd_nil); kernel_rfl) | ((with_reducible apply Wd_gsT); (exact rfl); ((conv => lhs; simp -implicitDefEqProofs [*]) <;> exact rfl)) | ((with_reducible apply Wd_gsF); (exact rfl); ((conv => lhs; simp -implicitDefEqProofs [*]) <;> exact rfl)) | ((with_reducible apply ex4); (conv => lhs; simp -implicitDefEqProofs [*]) <;> exact rfl) | (with_reducible apply W_sblock) | (with_reducible apply W_block) | (with_reducible apply W_sskip) | (with_reducible apply W_skip) | (with_reducible apply W_sret) | (with_reducible apply W_ret) | (with_reducible apply W_sexit) | (with_reducible apply W_exit) | (with_reducible apply thenW_n) | (with_reducible apply thenW_r) | (with_reducible apply thenW_e) | (with_reducible apply inB_n) | (with_reducible apply inB_r) | (with_reducible apply inB_e) | ((with_reducible apply inB_o); rotate_left; exact rfl) | ((with_reducible apply EndQ_ret); (conv => lhs; simp -implicitDefEqProofs [*]) <;> exact rfl) | ((with_reducible apply EndQ_normal); (conv => lhs; simp -implicitDefEqProofs [*]) <;> exact rfl) | (intro h h'; try simp [*, -h] at h') | ((with_reducible apply Wd_gx); (exact rfl); ((conv => lhs; simp -implicitDefEqProofs [*]) <;> exact rfl)))
      all_goals
        have hd := HD.out
        rw [← hd, ← hRW, ← hRI]
        exact ⟨cs.map iv, by simp [outT]⟩
  · have HD := Lib.hid (R.done (.inl (by omega)))
    obtain ⟨cs, hcl0, hcN⟩ := M'.ct
    have hmm := M'.mem
    have hmo := M'.out
    obtain ⟨pc, rg, tmem, rd, out, steps, en, own⟩ := t
    obtain ⟨x0, x1, x2, x3, x4, x5, x6, x7, x8, x9, x10, x11, x12, x13, x14, x15, rfl⟩ := reg16 hrl
    simp only at hx hmm hmo hmt
    rw [bxR_eq] at hx
    simp only [List.map_cons, List.map_nil, List.cons_append, List.nil_append] at hx
    have hbr := bytes_rowB out
    have htk : (rowB out).take out.length = rowB out := List.take_of_length_le (by simp)
    have htn : (rowIx cs).take code.length = rowIx cs := List.take_of_length_le (by simp [hcl0])
    have hnl2 : (rowIx cs).length = code.length := by simp [hcl0]
    have htm : (rowW tmem).take tmem.length = rowW tmem := List.take_of_length_le (by simp)
    have hml2 : (rowW tmem).length = tmem.length := List.length_map ..
    have hbl : (rowB out).length = out.length := List.length_map ..
    clear R M' hoth hUU hmU'
    generalize hRW : rowW tmem = RW at *
    generalize hRI : rowIx cs = RI at *
    generalize hRB : rowB out = RB at *
    repeat' (first | ((with_reducible apply Wo_u); (conv => lhs; simp -implicitDefEqProofs [*]) <;> exact rfl) | ((with_reducible apply Wo_n); (conv => lhs; simp -implicitDefEqProofs [*]) <;> exact rfl) | (with_reducible apply Wo_nil) | ((with_reducible apply Wo_gt); (exact rfl); ((conv => lhs; simp -implicitDefEqProofs [*]) <;> exact rfl); (conv => lhs; simp -implicitDefEqProofs [*]) <;> exact rfl) | ((with_reducible apply Wo_gf); (exact rfl); ((conv => lhs; simp -implicitDefEqProofs [*]) <;> exact rfl); (exact rfl)) | ((with_reducible apply Wo_gx); (exact rfl); ((conv => lhs; simp -implicitDefEqProofs [*]) <;> exact rfl)) | ((with_reducible apply Wo_gsT); (exact rfl); ((conv => lhs; simp -implicitDefEqProofs [*]) <;> exact rfl)) | ((with_reducible apply Wo_gsF); (exact rfl); ((conv => lhs; simp -implicitDefEqProofs [*]) <;> exact rfl)) | ((with_reducible apply ex2); (conv => lhs; simp -implicitDefEqProofs [*]) <;> exact rfl) | (with_reducible apply W_ss) | (with_reducible apply W_srl) | (with_reducible apply W_rl) | ((with_reducible apply W_sc); (conv => lhs; simp -implicitDefEqProofs [*]) <;> exact rfl) | ((with_reducible apply W_c); (conv => lhs; simp -implicitDefEqProofs [*]) <;> exact rfl) | ((with_reducible apply W_srdl); kernel_rfl) | ((with_reducible apply W_rdl); kernel_rfl) | ((with_reducible apply Wd_u); (conv => lhs; simp -implicitDefEqProofs [*]) <;> exact rfl) | ((with_reducible apply Wd_n); (conv => lhs; simp -implicitDefEqProofs [*]) <;> exact rfl) | ((with_reducible apply Wd_nil); kernel_rfl) | ((with_reducible apply Wd_gsT); (exact rfl); ((conv => lhs; simp -implicitDefEqProofs [*]) <;> exact rfl)) | ((with_reducible apply Wd_gsF); (exact rfl); ((conv => lhs; simp -implicitDefEqProofs [*]) <;> exact rfl)) | ((with_reducible apply ex4); (conv => lhs; simp -implicitDefEqProofs [*]) <;> exact rfl) | (with_reducible apply W_sblock) | (with_reducible apply W_block) | (with_reducible apply W_sskip) | (with_reducible apply W_skip) | (with_reducible apply W_sret) | (with_reducible apply W_ret) | (with_reducible apply W_sexit) | (with_reducible apply W_exit) | (with_reducible apply thenW_n) | (with_reducible apply thenW_r) | (with_reducible apply thenW_e) | (with_reducible apply inB_n) | (with_reducible apply inB_r) | (with_reducible apply inB_e) | ((with_reducible apply inB_o); rotate_left; exact rfl) | ((with_reducible apply EndQ_ret); (conv => lhs; simp -implicitDefEqProofs [*]) <;> exact rfl) | ((with_reducible apply EndQ_normal); (conv => lhs; simp -implicitDefEqProofs [*]) <;> exact rfl) | (intro h h'; try simp [*, -h] at h') | ((with_reducible apply Wd_gx); (exact rfl); ((conv => lhs; simp -implicitDefEqProofs [*]) <;> exact rfl)))
    all_goals
      have hd := HD.out
      rw [← hd, ← hRW, ← hRI]
      exact ⟨cs.map iv, by simp [outT]⟩
end Go.Proofs.YtaeeffddinppeaaGreatDoor
