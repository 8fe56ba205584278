/- A part of the proof: Mn, Mo, Mp6, Mq6, Mr6, Ms6. -/
import Derived.Test.YtaeeffddinppeaaGreatDoorR14
import Derived.Test.YtaeeffddinppeaaGreatDoorR15
import Derived.Test.YtaeeffddinppeaaGreatDoorR16
import Derived.Shelf.Abstract
set_option linter.unusedSimpArgs false
set_option linter.unusedVariables false
namespace Go.Proofs.YtaeeffddinppeaaGreatDoor
open Go Go.Ab Go.Ma
attribute [-simp] Prog.bind getCs putCs
attribute [local simp ↓] run_bind
attribute [local simp ↓] runF_bind
attribute [local simp] run_getCsN runF_getCsN facetsC putCs_one run_putCsN
attribute [local simp] take1 bx_len bx_0 bx_1 bx_2 bx_19 bx_20 bx_21 bx_22 bx_23 bx_24 bx_25 bx_reg bs_2 bs_19 bs_20 bs_22 bs_23 bs_24 bs_25 bs_reg bx_regg bg_0 bg_1 bg_2 bg_19 bg_20 bg_21 bg_22 bg_23 bg_24 bg_25
theorem inpF_spec (inp : ByteArray) : ∀ k b, inpF inp k = some b → k < inp.size ∧ 0 ≤ b ∧ b < 256 := by
  intro k b h
  unfold inpF at h
  cases hd : inp.data[k]? with
  | none => rw [hd] at h; cases h
  | some x =>
    rw [hd] at h
    cases h
    have := x.toNat_lt
    exact ⟨(Array.getElem?_eq_some_iff.1 hd).1, Int.natCast_nonneg _, (by omega : (x.toNat : Int) < 256)⟩
theorem m287 {code : List Int} {inp : ByteArray} {s : PS} {go gm : Nat} (hs : Ma.Ok inp.size s) (hen : s.en = 0) (hml : s.mem.length ≤ 1048576) (hil : inp.size ≤ 1048576) (hcl : code.length ≤ 1048576) (hst1 : s.steps < 9223372036854775806) (hcU : ∀ x ∈ code, Ma.U x)
    {hp1 : Hp} (M : Mst code inp s go gm hp1) (d : Nat) :
    ∃ b hp' go' gm', (lim Tryz.prog E00 X00).hpc 1 d 287 [.ptr ⟨0, 13, 0⟩ 1 0] hp1 = some (bv b, hp') ∧ Mst code inp (stepP code (inpF inp) s) go' gm' hp' ∧ ∀ y : Nm, y.d = 0 → y.i ≠ 13 → hp' y = hp1 y := by
  have h0 := hs.pc0
  have hpt := Int.toNat_of_nonneg h0
  unfold stepP
  rw [if_neg (by omega)]
  cases hw : code[s.pc.toNat]? with
  | none =>
    have hcx : (code.length : Int) ≤ s.pc := by have := List.getElem?_eq_none_iff.1 hw; omega
    obtain ⟨hp', h1, h2, h3⟩ := m287_o hcx h0 (hs.pc1) hen hs.rl d hp1 M.bx
    exact ⟨false, hp', go, gm, h1, fin1 M h2 rfl rfl rfl h3⟩
  | some w =>
    have hwU := hcU w (List.mem_of_getElem? hw)
    have hlt := (List.getElem?_eq_some_iff.1 hw).1
    simp only [Option.elim_some]
    cases hr : rightI (insW w) with
    | false =>
      obtain ⟨hp', h1, h2, h3⟩ := m287_b s.pc.toNat hpt.symm w hw hwU hr s.steps rfl hst1 h0 (hs.pc1) hen hs.rl d hp1 M.bx
      exact ⟨true, hp', go, gm, h1, fin1 M (t := { s with steps := s.steps + 1, en := 6 }) h2 rfl rfl rfl h3⟩
    | true =>
      obtain ⟨hp', go', gm', h1, h2, h3⟩ := m287_d w hw hwU hr hs hen hml hil hcl hst1 M hcU (inpF_spec inp) d
      exact ⟨true, hp', go', gm', h1, h2, h3⟩
theorem Wo_step {code : List Int} {inp : ByteArray} {s : PS} {go gm : Nat} (hs : Ma.Ok inp.size s) (hen : s.en = 0) (hml : s.mem.length ≤ 1048576) (hil : inp.size ≤ 1048576) (hcl : code.length ≤ 1048576) (hst1 : s.steps < 9223372036854775806) (hcU : ∀ x ∈ code, Ma.U x)
    {l : Nat} {all : Array Oper} {os : List Oper} {fr : Nat → AV} {hp : Hp} {Q : AS → Prop} {pos : String} {aft : Array Edge} (M : Mst code inp s go gm hp) (h17 : fr 17 = .ptr ⟨0, 13, 0⟩ 1 0)
    (rest : ∀ b hp' go' gm', Mst code inp (stepP code (inpF inp) s) go' gm' hp' → (∀ y : Nm, y.d = 0 → y.i ≠ 13 → hp' y = hp y) → Wo Tryz.prog (E0y l) 1 (lim Tryz.prog E00 X00) all os ⟨setd fr (some 18) (bv b), hp'⟩ Q) :
    Wo Tryz.prog (E0y l) 1 (lim Tryz.prog E00 X00) all (⟨some 18, .call { callee := .value (.func 287), args := #[.tmp 17], argTypes := #[345] }, 4, pos, aft, none⟩ :: os) ⟨fr, hp⟩ Q := by
  obtain ⟨b, hp', go', gm', h1, M', h3⟩ := m287 hs hen hml hil hcl hst1 hcU M 18
  refine Wo_u ?_ (rest b hp' go' gm' M' h3)
  simp only [evOp, opA, callP, okFn_287, if_true, E0y_hp, List.map_cons, List.map_nil, h17, List.append_nil, Option.getD_some]
  simp [Prog.run, h1]
set_option maxHeartbeats 4000000 in
theorem m285 {code : List Int} {inp : ByteArray} {pc : Int} {rg : List Int} {M : AV} {rd steps en : Int} {o : Bool} {go no : Nat} (hrl : rg.length = 16) (d : Nat) (hp1 : Hp) (hx : hp1 ⟨0, 13, 0⟩ = .box 1 (bxP code inp pc rg M rd steps en o go no) false) : (lim Tryz.prog E00 X00).hpc 1 d 285 [.ptr ⟨0, 13, 0⟩ 1 0] hp1 = some (bv (en == 0), hp1) := by
  have key : ∃ z hp', (lim Tryz.prog E00 X00).hpc 1 d 285 [.ptr ⟨0, 13, 0⟩ 1 0] hp1 = some (z, hp') ∧ (z = bv (en == 0) ∧ hp' = hp1) := by
    refine lim_hpcW (R := fun z hp' => z = bv (en == 0) ∧ hp' = hp1) Tryz.func285 rfl rfl bodyOk_285 rfl rfl ?_
    exact step6
  obtain ⟨z, hp', h1, rfl, rfl⟩ := key
  exact h1
set_option maxHeartbeats 4000000 in
theorem m286 {code : List Int} {inp : ByteArray} {pc : Int} {rg : List Int} {M : AV} {rd steps en : Int} {o : Bool} {go no : Nat} (hrl : rg.length = 16) (d : Nat) (hp1 : Hp) (hx : hp1 ⟨0, 13, 0⟩ = .box 1 (bxP code inp pc rg M rd steps en o go no) false) : (lim Tryz.prog E00 X00).hpc 1 d 286 [.ptr ⟨0, 13, 0⟩ 1 0] hp1 = some (iv pc, hp1) := by
  have key : ∃ z hp', (lim Tryz.prog E00 X00).hpc 1 d 286 [.ptr ⟨0, 13, 0⟩ 1 0] hp1 = some (z, hp') ∧ (z = iv pc ∧ hp' = hp1) := by
    refine lim_hpcW (R := fun z hp' => z = iv pc ∧ hp' = hp1) Tryz.func286 rfl rfl bodyOk_286 rfl rfl ?_
    exact step6
  obtain ⟨z, hp', h1, rfl, rfl⟩ := key
  exact h1
end Go.Proofs.YtaeeffddinppeaaGreatDoor
namespace Go.Proofs.YtaeeffddinppeaaGreatDoor
open Go Go.Ab Go.Ma
attribute [-simp] Prog.bind getCs putCs
attribute [local simp ↓] run_bind
attribute [local simp ↓] runF_bind
attribute [local simp] run_getCsN runF_getCsN facetsC putCs_one run_putCsN
attribute [local simp] take1 bx_len bx_0 bx_1 bx_2 bx_19 bx_20 bx_21 bx_22 bx_23 bx_24 bx_25 bx_reg bs_2 bs_19 bs_20 bs_22 bs_23 bs_24 bs_25 bs_reg bx_regg bg_0 bg_1 bg_2 bg_19 bg_20 bg_21 bg_22 bg_23 bg_24 bg_25
set_option maxHeartbeats 8000000 in
theorem w284 {code : List Int} {inp : ByteArray} {s : PS} {go gm : Nat} (hs : Ma.Ok inp.size s) (hml : s.mem.length ≤ 1048576) (hil : inp.size ≤ 1048576) (hcl : code.length ≤ 1048576) (fuel : Int) (hf : fuel ≤ 4611686018427387904) (hst : s.steps ≤ 1048576) (hcU : ∀ x ∈ code, Ma.U x)
    {hp0' : Hp} (M : Mst code inp s go gm hp0') (h16 : hp0' ⟨0, 16, 2⟩ = .box 1 [.ptr ⟨0, 13, 0⟩ 1 0] false) (l : Nat) :
    ∃ c, Tryz.f284.body = some c ∧ W Tryz.prog (E0y l) 1 (lim Tryz.prog E00 X00) c ⟨frame0 [.sc (.func (.yield l) #[] #[]), .dp [iv fuel] 0, .ptr ⟨0, 16, 2⟩ 1 0], hp0'⟩
      (fun e q => (e = .normal ∨ e = .ret) ∧ ∃ go gm, Mst code inp (runP code (inpF inp) fuel.toNat s) go gm q.hp ∧ ∀ y : Nm, y.d = 0 → y.i ≠ 13 → q.hp y = hp0' y) := by
  refine ⟨_, rfl, ?_⟩
  refine sgo0 ?_
  refine W_loopS (n := fuel.toNat + 1) (fun s0 m q => ∃ k t go gm, m = fuel.toNat + 1 - k ∧ Ma.Run code (inpF inp) inp.size fuel.toNat s k t ∧ Mst code inp t go gm q.hp ∧ q.fr 4 = iv k ∧ q.fr 0 = s0.fr 0 ∧ q.fr 1 = s0.fr 1 ∧ q.fr 2 = s0.fr 2 ∧ ∀ y : Nm, y.d = 0 → y.i ≠ 13 → q.hp y = s0.hp y) ⟨0, s, go, gm, by simp, .start _ hs, by simpa using M, by simp, by simp, by simp, by simp, fun y h0 h1 => rfl⟩ ?_
  rintro m ⟨fr, hp⟩ ⟨k, t, go', gm', rfl, R, M', hs4, hs0, hs1, hs2, hoth⟩
  simp at hs4 hs0 hs1 hs2
  dsimp only at M' hoth
  have h16' : hp ⟨0, 16, 2⟩ = .box 1 [.ptr ⟨0, 13, 0⟩ 1 0] false := (hoth ⟨0, 16, 2⟩ rfl (by decide)).trans h16
  have hx := M'.bx
  have hrl := R.ok.rl
  have hkF := R.le
  have hmt := R.mem
  have hstt := R.st
  have h285 := fun d hp hx => m285 (code := code) (inp := inp) (pc := t.pc) (rg := t.rg) (M := memA t.own gm' t.mem) (rd := t.rd) (steps := t.steps) (en := t.en) (o := t.own) (go := go') (no := t.out.length) hrl d hp hx
  have h286 := fun d hp hx => m286 (code := code) (inp := inp) (pc := t.pc) (rg := t.rg) (M := memA t.own gm' t.mem) (rd := t.rd) (steps := t.steps) (en := t.en) (o := t.own) (go := go') (no := t.out.length) hrl d hp hx
  have hw := wrapN (k := k) (by omega)
  by_cases hlt : (k : Int) < fuel
  · by_cases he : t.en = 0
    · have hb := beq_dec t.en 0
      simp only [he, decide_true] at hb
      have hnx := R.next (by omega) he (by omega) hcU (inpF_spec inp)
      have hok := R.ok
      clear R
      repeat' (first | ((with_reducible first | apply Wo_u | apply Wo_n | apply ex2 | apply W_sc | apply W_c | apply Wd_u | apply Wd_n | apply ex4 | apply EndQ_ret | apply EndQ_normal); (conv => lhs; simp -implicitDefEqProofs [*]) <;> exact rfl) | (with_reducible first | apply Wo_nil | apply W_ss | apply W_srl | apply W_rl | apply W_sblock | apply W_block | apply W_sskip | apply W_skip | apply W_sret | apply W_ret | apply W_sexit | apply W_exit | apply thenW_n | apply thenW_r | apply thenW_e | apply inB_n | apply inB_r | apply inB_e) | ((with_reducible apply Wo_gt); (exact rfl); ((conv => lhs; simp -implicitDefEqProofs [*]) <;> exact rfl); (conv => lhs; simp -implicitDefEqProofs [*]) <;> exact rfl) | ((with_reducible apply Wo_gf); (exact rfl); ((conv => lhs; simp -implicitDefEqProofs [*]) <;> exact rfl); (exact rfl)) | ((with_reducible apply Wo_gx); (exact rfl); ((conv => lhs; simp -implicitDefEqProofs [*]) <;> exact rfl)) | ((with_reducible apply Wo_gsT); (exact rfl); ((conv => lhs; simp -implicitDefEqProofs [*]) <;> exact rfl)) | ((with_reducible apply Wo_gsF); (exact rfl); ((conv => lhs; simp -implicitDefEqProofs [*]) <;> exact rfl)) | ((with_reducible apply Wd_gsT); (exact rfl); ((conv => lhs; simp -implicitDefEqProofs [*]) <;> exact rfl)) | ((with_reducible apply Wd_gsF); (exact rfl); ((conv => lhs; simp -implicitDefEqProofs [*]) <;> exact rfl)) | ((with_reducible first | apply W_srdl | apply W_rdl); kernel_rfl) | ((with_reducible apply Wd_nil); kernel_rfl) | ((with_reducible apply inB_o); rotate_left; exact rfl) | (intro h h'; try simp [*, -h] at h') | ((with_reducible apply Wd_gx); (exact rfl); ((conv => lhs; simp -implicitDefEqProofs [*]) <;> exact rfl)))
      all_goals
        refine Wo_step (s := t) hok he (by omega) hil hcl (by omega) hcU (code := code) (inp := inp) (go := go') (gm := gm') ⟨by simp [*, M'.bx], by simp [M'.out], fun h => by simp [M'.mem h]⟩ (by simp) ?_
        intro b hp2 go2 gm2 M2 h32
        cases b
        all_goals
          refine sgo0 ?_
          exact ⟨_, by omega, k + 1, _, go2, gm2, rfl, hnx, by simpa using M2, by simp [*], by simp [*], by simp [*], by simp [*], fun y h0 h1 => (h32 y h0 h1).trans (hoth y h0 h1)⟩
    · have hb := beq_dec t.en 0
      simp only [he, decide_false] at hb
      have HD := Lib.hid (R.done (.inr he))
      clear R
      repeat' (first | ((with_reducible first | apply Wo_u | apply Wo_n | apply ex2 | apply W_sc | apply W_c | apply Wd_u | apply Wd_n | apply ex4 | apply EndQ_ret | apply EndQ_normal); (conv => lhs; simp -implicitDefEqProofs [*]) <;> exact rfl) | (with_reducible first | apply Wo_nil | apply W_ss | apply W_srl | apply W_rl | apply W_sblock | apply W_block | apply W_sskip | apply W_skip | apply W_sret | apply W_ret | apply W_sexit | apply W_exit | apply thenW_n | apply thenW_r | apply thenW_e | apply inB_n | apply inB_r | apply inB_e) | ((with_reducible apply Wo_gt); (exact rfl); ((conv => lhs; simp -implicitDefEqProofs [*]) <;> exact rfl); (conv => lhs; simp -implicitDefEqProofs [*]) <;> exact rfl) | ((with_reducible apply Wo_gf); (exact rfl); ((conv => lhs; simp -implicitDefEqProofs [*]) <;> exact rfl); (exact rfl)) | ((with_reducible apply Wo_gx); (exact rfl); ((conv => lhs; simp -implicitDefEqProofs [*]) <;> exact rfl)) | ((with_reducible apply Wo_gsT); (exact rfl); ((conv => lhs; simp -implicitDefEqProofs [*]) <;> exact rfl)) | ((with_reducible apply Wo_gsF); (exact rfl); ((conv => lhs; simp -implicitDefEqProofs [*]) <;> exact rfl)) | ((with_reducible apply Wd_gsT); (exact rfl); ((conv => lhs; simp -implicitDefEqProofs [*]) <;> exact rfl)) | ((with_reducible apply Wd_gsF); (exact rfl); ((conv => lhs; simp -implicitDefEqProofs [*]) <;> exact rfl)) | ((with_reducible first | apply W_srdl | apply W_rdl); kernel_rfl) | ((with_reducible apply Wd_nil); kernel_rfl) | ((with_reducible apply inB_o); rotate_left; exact rfl) | (intro h h'; try simp [*, -h] at h') | ((with_reducible apply Wd_gx); (exact rfl); ((conv => lhs; simp -implicitDefEqProofs [*]) <;> exact rfl)))
      all_goals
        have hd := HD.out
        subst hd
        exact ⟨.inl rfl, go', gm', by simpa using M', fun y h0 h1 => hoth y h0 h1⟩
  · have HD := Lib.hid (R.done (.inl (by omega)))
    clear R
    repeat' (first | ((with_reducible first | apply Wo_u | apply Wo_n | apply ex2 | apply W_sc | apply W_c | apply Wd_u | apply Wd_n | apply ex4 | apply EndQ_ret | apply EndQ_normal); (conv => lhs; simp -implicitDefEqProofs [*]) <;> exact rfl) | (with_reducible first | apply Wo_nil | apply W_ss | apply W_srl | apply W_rl | apply W_sblock | apply W_block | apply W_sskip | apply W_skip | apply W_sret | apply W_ret | apply W_sexit | apply W_exit | apply thenW_n | apply thenW_r | apply thenW_e | apply inB_n | apply inB_r | apply inB_e) | ((with_reducible apply Wo_gt); (exact rfl); ((conv => lhs; simp -implicitDefEqProofs [*]) <;> exact rfl); (conv => lhs; simp -implicitDefEqProofs [*]) <;> exact rfl) | ((with_reducible apply Wo_gf); (exact rfl); ((conv => lhs; simp -implicitDefEqProofs [*]) <;> exact rfl); (exact rfl)) | ((with_reducible apply Wo_gx); (exact rfl); ((conv => lhs; simp -implicitDefEqProofs [*]) <;> exact rfl)) | ((with_reducible apply Wo_gsT); (exact rfl); ((conv => lhs; simp -implicitDefEqProofs [*]) <;> exact rfl)) | ((with_reducible apply Wo_gsF); (exact rfl); ((conv => lhs; simp -implicitDefEqProofs [*]) <;> exact rfl)) | ((with_reducible apply Wd_gsT); (exact rfl); ((conv => lhs; simp -implicitDefEqProofs [*]) <;> exact rfl)) | ((with_reducible apply Wd_gsF); (exact rfl); ((conv => lhs; simp -implicitDefEqProofs [*]) <;> exact rfl)) | ((with_reducible first | apply W_srdl | apply W_rdl); kernel_rfl) | ((with_reducible apply Wd_nil); kernel_rfl) | ((with_reducible apply inB_o); rotate_left; exact rfl) | (intro h h'; try simp [*, -h] at h') | ((with_reducible apply Wd_gx); (exact rfl); ((conv => lhs; simp -implicitDefEqProofs [*]) <;> exact rfl)))
    all_goals
      have hd := HD.out
      subst hd
      exact ⟨.inl rfl, go', gm', by simpa using M', fun y h0 h1 => hoth y h0 h1⟩
end Go.Proofs.YtaeeffddinppeaaGreatDoor
namespace Go.Proofs.YtaeeffddinppeaaGreatDoor
open Go Go.Ab Go.Ma
attribute [-simp] Prog.bind getCs putCs
attribute [local simp ↓] run_bind
attribute [local simp ↓] runF_bind
attribute [local simp] run_getCsN runF_getCsN facetsC putCs_one run_putCsN
set_option maxHeartbeats 4000000 in
theorem m211 {code mem : List Int} {inp : ByteArray} {data : Int} (hp1 : Hp) (h0 : hp1 ⟨0, 13, 0⟩ = .no 0) (h1 : hp1 ⟨0, 13, 26⟩ = .no 0) :
    ∃ hp', (lim Tryz.prog E00 X00).hpc 0 13 211 [.agg [.sl false 1 (rowW code), iv data], .sc (.string inp), .agg [iv 0, uv 0, uv 0, uv 0, uv 0, uv 0, uv 0, uv 0, uv 0, uv 0, uv 0, uv 0, uv 0, uv 0, uv 0, uv 0, uv 0, .sl false 1 (rowW mem), iv 0, .sc (.string ⟨#[]⟩), iv 0, iv 0]] hp1 = some (.ptr ⟨0, 13, 0⟩ 1 0, hp') ∧ hp' ⟨0, 13, 0⟩ = .box 1 (bxP code inp 0 [0, 0, 0, 0, 0, 0, 0, 0, 0, 0, 0, 0, 0, 0, 0, 0] (.sl false 1 (rowW mem)) 0 0 0 false 1 0) false ∧ hp' ⟨0, 13, 26⟩ = .arr 1 1 5 [] false ∧ ∀ y : Nm, y.d = 0 → y.i ≠ 13 → hp' y = hp1 y := by
  refine unkey ?_
  refine lim_hpcW Tryz.func211 rfl rfl bodyOk_211 rfl rfl ?_
  repeat' (first | ((with_reducible first | apply Wo_u | apply Wo_n | apply ex2 | apply W_sc | apply W_c | apply Wd_u | apply Wd_n | apply ex4 | apply EndQ_ret | apply EndQ_normal); (conv => lhs; simp -implicitDefEqProofs [*]) <;> exact rfl) | (with_reducible first | apply Wo_nil | apply W_ss | apply W_srl | apply W_rl | apply W_sblock | apply W_block | apply W_sskip | apply W_skip | apply W_sret | apply W_ret | apply W_sexit | apply W_exit | apply thenW_n | apply thenW_r | apply thenW_e | apply inB_n | apply inB_r | apply inB_e) | ((with_reducible apply Wo_gt); (exact rfl); ((conv => lhs; simp -implicitDefEqProofs [*]) <;> exact rfl); (conv => lhs; simp -implicitDefEqProofs [*]) <;> exact rfl) | ((with_reducible apply Wo_gf); (exact rfl); ((conv => lhs; simp -implicitDefEqProofs [*]) <;> exact rfl); (exact rfl)) | ((with_reducible apply Wo_gx); (exact rfl); ((conv => lhs; simp -implicitDefEqProofs [*]) <;> exact rfl)) | ((with_reducible apply Wo_gsT); (exact rfl); ((conv => lhs; simp -implicitDefEqProofs [*]) <;> exact rfl)) | ((with_reducible apply Wo_gsF); (exact rfl); ((conv => lhs; simp -implicitDefEqProofs [*]) <;> exact rfl)) | ((with_reducible apply Wd_gsT); (exact rfl); ((conv => lhs; simp -implicitDefEqProofs [*]) <;> exact rfl)) | ((with_reducible apply Wd_gsF); (exact rfl); ((conv => lhs; simp -implicitDefEqProofs [*]) <;> exact rfl)) | ((with_reducible first | apply W_srdl | apply W_rdl); kernel_rfl) | ((with_reducible apply Wd_nil); kernel_rfl) | ((with_reducible apply inB_o); rotate_left; exact rfl) | (intro h h'; try simp [*, -h] at h') | ((with_reducible apply Wd_gx); (exact rfl); ((conv => lhs; simp -implicitDefEqProofs [*]) <;> exact rfl)))
  all_goals refine ⟨by simp, ?_⟩
  all_goals (with_reducible apply ex2)
  all_goals first
    | ((conv => lhs; simp -implicitDefEqProofs [*, lowerRes, lowerV, resultV, lowerC, escC, escL, moveB, lowerL, lowerAll]) <;> exact rfl)
    | exact ⟨rfl, by simp [bxP], by simp, fun y h0 h1 => (by have e1 : ∀ k i c, y ≠ ⟨k + 1, i, c⟩ := fun k i c e => (by subst e; simp at h0); have e2 : ∀ i c, y ≠ ⟨1, i, c⟩ := fun i c => e1 0 i c; have e6 : ∀ c, y ≠ ⟨0, 13, c⟩ := fun c => ne13 h1 rfl; simp [*])⟩
set_option maxHeartbeats 4000000 in
theorem m212 {cells : List AV} {fuel : Int} (hp1 : Hp) (h0 : hp1 ⟨0, 13, 0⟩ = .box 1 cells false) (h1 : hp1 ⟨0, 16, 2⟩ = .no 0) :
    ∃ hp', (lim Tryz.prog E00 X00).hpc 0 16 212 [.ptr ⟨0, 13, 0⟩ 1 0, iv fuel] hp1 = some (.fn 284 [.dp [iv fuel] 0, .ptr ⟨0, 16, 2⟩ 1 0], hp') ∧ hp' ⟨0, 16, 2⟩ = .box 1 [.ptr ⟨0, 13, 0⟩ 1 0] false ∧ ∀ y : Nm, y.d = 0 → y ≠ ⟨0, 16, 2⟩ → hp' y = hp1 y := by
  refine unkey ?_
  refine lim_hpcW Tryz.func212 rfl rfl bodyOk_212 rfl rfl ?_
  repeat' (first | ((with_reducible first | apply Wo_u | apply Wo_n | apply ex2 | apply W_sc | apply W_c | apply Wd_u | apply Wd_n | apply ex4 | apply EndQ_ret | apply EndQ_normal); (conv => lhs; simp -implicitDefEqProofs [*]) <;> exact rfl) | (with_reducible first | apply Wo_nil | apply W_ss | apply W_srl | apply W_rl | apply W_sblock | apply W_block | apply W_sskip | apply W_skip | apply W_sret | apply W_ret | apply W_sexit | apply W_exit | apply thenW_n | apply thenW_r | apply thenW_e | apply inB_n | apply inB_r | apply inB_e) | ((with_reducible apply Wo_gt); (exact rfl); ((conv => lhs; simp -implicitDefEqProofs [*]) <;> exact rfl); (conv => lhs; simp -implicitDefEqProofs [*]) <;> exact rfl) | ((with_reducible apply Wo_gf); (exact rfl); ((conv => lhs; simp -implicitDefEqProofs [*]) <;> exact rfl); (exact rfl)) | ((with_reducible apply Wo_gx); (exact rfl); ((conv => lhs; simp -implicitDefEqProofs [*]) <;> exact rfl)) | ((with_reducible apply Wo_gsT); (exact rfl); ((conv => lhs; simp -implicitDefEqProofs [*]) <;> exact rfl)) | ((with_reducible apply Wo_gsF); (exact rfl); ((conv => lhs; simp -implicitDefEqProofs [*]) <;> exact rfl)) | ((with_reducible apply Wd_gsT); (exact rfl); ((conv => lhs; simp -implicitDefEqProofs [*]) <;> exact rfl)) | ((with_reducible apply Wd_gsF); (exact rfl); ((conv => lhs; simp -implicitDefEqProofs [*]) <;> exact rfl)) | ((with_reducible first | apply W_srdl | apply W_rdl); kernel_rfl) | ((with_reducible apply Wd_nil); kernel_rfl) | ((with_reducible apply inB_o); rotate_left; exact rfl) | (intro h h'; try simp [*, -h] at h') | ((with_reducible apply Wd_gx); (exact rfl); ((conv => lhs; simp -implicitDefEqProofs [*]) <;> exact rfl)))
  all_goals refine ⟨by simp, ?_⟩
  all_goals (with_reducible apply ex2)
  all_goals first
    | ((conv => lhs; simp -implicitDefEqProofs [*, lowerRes, lowerV, resultV, lowerC, escC, escL, moveB, lowerL, lowerAll]) <;> exact rfl)
    | exact ⟨rfl, by simp, fun y h0 h1 => (by have e1 : ∀ k i c, y ≠ ⟨k + 1, i, c⟩ := fun k i c e => (by subst e; simp at h0); have e2 : ∀ i c, y ≠ ⟨1, i, c⟩ := fun i c => e1 0 i c;  simp [*])⟩
end Go.Proofs.YtaeeffddinppeaaGreatDoor
namespace Go.Proofs.YtaeeffddinppeaaGreatDoor
open Go Go.Ab Go.Ma
attribute [-simp] Prog.bind getCs putCs
attribute [local simp ↓] run_bind
attribute [local simp ↓] runF_bind
attribute [local simp] run_getCsN runF_getCsN facetsC putCs_one run_putCsN
theorem empty_app (b : ByteArray) : (⟨#[]⟩ : ByteArray) ++ b = b := by
  apply ByteArray.ext
  simp [ByteArray.data_append]
def outT (out : List Int) : ByteArray := ⟨⟨toBytes out⟩⟩
attribute [local simp] empty_app empty_size bytes_rowB
set_option maxHeartbeats 4000000 in
theorem m213se {code mem out : List Int} {inp : ByteArray} {pc rd steps en : Int} {x0 x1 x2 x3 x4 x5 x6 x7 x8 x9 x10 x11 x12 x13 x14 x15 : Int} {gm go : Nat} (hp1 : Hp) (hx : hp1 ⟨0, 13, 0⟩ = .box 1 (bxP code inp pc [x0, x1, x2, x3, x4, x5, x6, x7, x8, x9, x10, x11, x12, x13, x14, x15] (.sl false 1 (rowW mem)) rd steps en false go 0) false) (hmo : hp1 ⟨0, 13, 26⟩ = .arr go 1 5 [] false) :
    ∃ hp', (lim Tryz.prog E00 X00).hpc 0 19 213 [.ptr ⟨0, 13, 0⟩ 1 0] hp1 = some (.agg (iv pc :: uv x0 :: uv x1 :: uv x2 :: uv x3 :: uv x4 :: uv x5 :: uv x6 :: uv x7 :: uv x8 :: uv x9 :: uv x10 :: uv x11 :: uv x12 :: uv x13 :: uv x14 :: uv x15 :: .sl false 1 (rowW mem) :: iv rd :: .sc (.string (outT [])) :: iv steps :: iv en :: []), hp') ∧ ∀ y : Nm, y.d = 0 → y.i ≠ 13 → y.i ≠ 19 → hp' y = hp1 y := by
  refine unkey ?_
  refine lim_hpcW Tryz.func213 rfl rfl bodyOk_213 rfl rfl ?_
  unfold bxP at hx
  simp only [List.map_cons, List.map_nil, List.cons_append, List.nil_append] at hx
  repeat' (first | ((with_reducible first | apply Wo_u | apply Wo_n | apply ex2 | apply W_sc | apply W_c | apply Wd_u | apply Wd_n | apply ex4 | apply EndQ_ret | apply EndQ_normal); (conv => lhs; simp -implicitDefEqProofs [*]) <;> exact rfl) | (with_reducible first | apply Wo_nil | apply W_ss | apply W_srl | apply W_rl | apply W_sblock | apply W_block | apply W_sskip | apply W_skip | apply W_sret | apply W_ret | apply W_sexit | apply W_exit | apply thenW_n | apply thenW_r | apply thenW_e | apply inB_n | apply inB_r | apply inB_e) | ((with_reducible apply Wo_gt); (exact rfl); ((conv => lhs; simp -implicitDefEqProofs [*]) <;> exact rfl); (conv => lhs; simp -implicitDefEqProofs [*]) <;> exact rfl) | ((with_reducible apply Wo_gf); (exact rfl); ((conv => lhs; simp -implicitDefEqProofs [*]) <;> exact rfl); (exact rfl)) | ((with_reducible apply Wo_gx); (exact rfl); ((conv => lhs; simp -implicitDefEqProofs [*]) <;> exact rfl)) | ((with_reducible apply Wo_gsT); (exact rfl); ((conv => lhs; simp -implicitDefEqProofs [*]) <;> exact rfl)) | ((with_reducible apply Wo_gsF); (exact rfl); ((conv => lhs; simp -implicitDefEqProofs [*]) <;> exact rfl)) | ((with_reducible apply Wd_gsT); (exact rfl); ((conv => lhs; simp -implicitDefEqProofs [*]) <;> exact rfl)) | ((with_reducible apply Wd_gsF); (exact rfl); ((conv => lhs; simp -implicitDefEqProofs [*]) <;> exact rfl)) | ((with_reducible first | apply W_srdl | apply W_rdl); kernel_rfl) | ((with_reducible apply Wd_nil); kernel_rfl) | ((with_reducible apply inB_o); rotate_left; exact rfl) | (intro h h'; try simp [*, -h] at h') | ((with_reducible apply Wd_gx); (exact rfl); ((conv => lhs; simp -implicitDefEqProofs [*]) <;> exact rfl)))
  all_goals refine ⟨by simp, ?_⟩
  all_goals (with_reducible apply ex2)
  all_goals first
    | ((conv => lhs; simp -implicitDefEqProofs [*, lowerRes, lowerV, resultV, lowerC, escC, escL, moveB, lowerL, lowerAll]) <;> exact rfl)
    | exact ⟨by simp [outT, toBytes], fun y h0 h1 h2 => (by have e1 : ∀ k i c, y ≠ ⟨k + 1, i, c⟩ := fun k i c e => (by subst e; simp at h0); have e2 : ∀ i c, y ≠ ⟨1, i, c⟩ := fun i c => e1 0 i c; have e6 : ∀ c, y ≠ ⟨0, 13, c⟩ := fun c => ne13 h1 rfl; have e7 : ∀ c, y ≠ ⟨0, 19, c⟩ := fun c e => h2 (by rw [e]); simp [*])⟩
set_option maxHeartbeats 4000000 in
theorem m213sn {code mem out : List Int} {inp : ByteArray} {pc rd steps en : Int} {x0 x1 x2 x3 x4 x5 x6 x7 x8 x9 x10 x11 x12 x13 x14 x15 : Int} {gm go : Nat} (hp1 : Hp) (hx : hp1 ⟨0, 13, 0⟩ = .box 1 (bxP code inp pc [x0, x1, x2, x3, x4, x5, x6, x7, x8, x9, x10, x11, x12, x13, x14, x15] (.sl false 1 (rowW mem)) rd steps en false go out.length) false) (hmo : hp1 ⟨0, 13, 26⟩ = .arr go 1 5 (rowB out) false) (hout : 0 < out.length) (hol : out.length ≤ 65536) :
    ∃ hp', (lim Tryz.prog E00 X00).hpc 0 19 213 [.ptr ⟨0, 13, 0⟩ 1 0] hp1 = some (.agg (iv pc :: uv x0 :: uv x1 :: uv x2 :: uv x3 :: uv x4 :: uv x5 :: uv x6 :: uv x7 :: uv x8 :: uv x9 :: uv x10 :: uv x11 :: uv x12 :: uv x13 :: uv x14 :: uv x15 :: .sl false 1 (rowW mem) :: iv rd :: .sc (.string (outT out)) :: iv steps :: iv en :: []), hp') ∧ ∀ y : Nm, y.d = 0 → y.i ≠ 13 → y.i ≠ 19 → hp' y = hp1 y := by
  refine unkey ?_
  refine lim_hpcW Tryz.func213 rfl rfl bodyOk_213 rfl rfl ?_
  unfold bxP at hx
  simp only [List.map_cons, List.map_nil, List.cons_append, List.nil_append] at hx
  have v0 : (0 : Int) < out.length := by omega
  have v1 : out.length ≤ 9223372036854775807 := by omega
  have v2 : (⟨⟨toBytes out⟩⟩ : ByteArray).size = out.length := by show (toBytes out).length = _; simp [toBytes]
  have v3 : (rowB out).take out.length = rowB out := List.take_of_length_le (by simp)
  have v4 : bytesOfRows (rowB out) = some (toBytes out) := bytes_rowB out
  have v5 : (rowB out).length = out.length := List.length_map ..
  have v6 : rowB out ≠ [] := fun h => by rw [h] at v5; simp at v5; omega
  generalize rowB out = RB at *
  repeat' (first | ((with_reducible first | apply Wo_u | apply Wo_n | apply ex2 | apply W_sc | apply W_c | apply Wd_u | apply Wd_n | apply ex4 | apply EndQ_ret | apply EndQ_normal); (conv => lhs; simp -implicitDefEqProofs [*]) <;> exact rfl) | (with_reducible first | apply Wo_nil | apply W_ss | apply W_srl | apply W_rl | apply W_sblock | apply W_block | apply W_sskip | apply W_skip | apply W_sret | apply W_ret | apply W_sexit | apply W_exit | apply thenW_n | apply thenW_r | apply thenW_e | apply inB_n | apply inB_r | apply inB_e) | ((with_reducible apply Wo_gt); (exact rfl); ((conv => lhs; simp -implicitDefEqProofs [*]) <;> exact rfl); (conv => lhs; simp -implicitDefEqProofs [*]) <;> exact rfl) | ((with_reducible apply Wo_gf); (exact rfl); ((conv => lhs; simp -implicitDefEqProofs [*]) <;> exact rfl); (exact rfl)) | ((with_reducible apply Wo_gx); (exact rfl); ((conv => lhs; simp -implicitDefEqProofs [*]) <;> exact rfl)) | ((with_reducible apply Wo_gsT); (exact rfl); ((conv => lhs; simp -implicitDefEqProofs [*]) <;> exact rfl)) | ((with_reducible apply Wo_gsF); (exact rfl); ((conv => lhs; simp -implicitDefEqProofs [*]) <;> exact rfl)) | ((with_reducible apply Wd_gsT); (exact rfl); ((conv => lhs; simp -implicitDefEqProofs [*]) <;> exact rfl)) | ((with_reducible apply Wd_gsF); (exact rfl); ((conv => lhs; simp -implicitDefEqProofs [*]) <;> exact rfl)) | ((with_reducible first | apply W_srdl | apply W_rdl); kernel_rfl) | ((with_reducible apply Wd_nil); kernel_rfl) | ((with_reducible apply inB_o); rotate_left; exact rfl) | (intro h h'; try simp [*, -h] at h') | ((with_reducible apply Wd_gx); (exact rfl); ((conv => lhs; simp -implicitDefEqProofs [*]) <;> exact rfl)))
  all_goals refine ⟨by simp, ?_⟩
  all_goals (with_reducible apply ex2)
  all_goals first
    | ((conv => lhs; simp -implicitDefEqProofs [*, lowerRes, lowerV, resultV, lowerC, escC, escL, moveB, lowerL, lowerAll]) <;> exact rfl)
    | exact ⟨by simp [outT, toBytes], fun y h0 h1 h2 => (by have e1 : ∀ k i c, y ≠ ⟨k + 1, i, c⟩ := fun k i c e => (by subst e; simp at h0); have e2 : ∀ i c, y ≠ ⟨1, i, c⟩ := fun i c => e1 0 i c; have e6 : ∀ c, y ≠ ⟨0, 13, c⟩ := fun c => ne13 h1 rfl; have e7 : ∀ c, y ≠ ⟨0, 19, c⟩ := fun c e => h2 (by rw [e]); simp [*])⟩
set_option maxHeartbeats 4000000 in
theorem m213we {code mem out : List Int} {inp : ByteArray} {pc rd steps en : Int} {x0 x1 x2 x3 x4 x5 x6 x7 x8 x9 x10 x11 x12 x13 x14 x15 : Int} {gm go : Nat} (hp1 : Hp) (hx : hp1 ⟨0, 13, 0⟩ = .box 1 (bxP code inp pc [x0, x1, x2, x3, x4, x5, x6, x7, x8, x9, x10, x11, x12, x13, x14, x15] (.own ⟨0, 13, 20⟩ gm mem.length) rd steps en true go 0) false) (hmo : hp1 ⟨0, 13, 26⟩ = .arr go 1 5 [] false) (hm : hp1 ⟨0, 13, 20⟩ = .arr gm 1 32 (rowW mem) false) (h19 : hp1 ⟨0, 19, 18⟩ = .no 0) :
    ∃ hp', (lim Tryz.prog E00 X00).hpc 0 19 213 [.ptr ⟨0, 13, 0⟩ 1 0] hp1 = some (.agg (iv pc :: uv x0 :: uv x1 :: uv x2 :: uv x3 :: uv x4 :: uv x5 :: uv x6 :: uv x7 :: uv x8 :: uv x9 :: uv x10 :: uv x11 :: uv x12 :: uv x13 :: uv x14 :: uv x15 :: .own ⟨0, 19, 18⟩ 1 mem.length :: iv rd :: .sc (.string (outT [])) :: iv steps :: iv en :: []), hp') ∧ hp' ⟨0, 19, 18⟩ = .arr 1 1 32 (rowW mem) false ∧ ∀ y : Nm, y.d = 0 → y.i ≠ 13 → y.i ≠ 19 → hp' y = hp1 y := by
  refine unkey ?_
  refine lim_hpcW Tryz.func213 rfl rfl bodyOk_213 rfl rfl ?_
  unfold bxP at hx
  simp only [List.map_cons, List.map_nil, List.cons_append, List.nil_append] at hx
  have w5 : (rowW mem).length = mem.length := List.length_map ..
  generalize rowW mem = RM at *
  repeat' (first | ((with_reducible first | apply Wo_u | apply Wo_n | apply ex2 | apply W_sc | apply W_c | apply Wd_u | apply Wd_n | apply ex4 | apply EndQ_ret | apply EndQ_normal); (conv => lhs; simp -implicitDefEqProofs [*]) <;> exact rfl) | (with_reducible first | apply Wo_nil | apply W_ss | apply W_srl | apply W_rl | apply W_sblock | apply W_block | apply W_sskip | apply W_skip | apply W_sret | apply W_ret | apply W_sexit | apply W_exit | apply thenW_n | apply thenW_r | apply thenW_e | apply inB_n | apply inB_r | apply inB_e) | ((with_reducible apply Wo_gt); (exact rfl); ((conv => lhs; simp -implicitDefEqProofs [*]) <;> exact rfl); (conv => lhs; simp -implicitDefEqProofs [*]) <;> exact rfl) | ((with_reducible apply Wo_gf); (exact rfl); ((conv => lhs; simp -implicitDefEqProofs [*]) <;> exact rfl); (exact rfl)) | ((with_reducible apply Wo_gx); (exact rfl); ((conv => lhs; simp -implicitDefEqProofs [*]) <;> exact rfl)) | ((with_reducible apply Wo_gsT); (exact rfl); ((conv => lhs; simp -implicitDefEqProofs [*]) <;> exact rfl)) | ((with_reducible apply Wo_gsF); (exact rfl); ((conv => lhs; simp -implicitDefEqProofs [*]) <;> exact rfl)) | ((with_reducible apply Wd_gsT); (exact rfl); ((conv => lhs; simp -implicitDefEqProofs [*]) <;> exact rfl)) | ((with_reducible apply Wd_gsF); (exact rfl); ((conv => lhs; simp -implicitDefEqProofs [*]) <;> exact rfl)) | ((with_reducible first | apply W_srdl | apply W_rdl); kernel_rfl) | ((with_reducible apply Wd_nil); kernel_rfl) | ((with_reducible apply inB_o); rotate_left; exact rfl) | (intro h h'; try simp [*, -h] at h') | ((with_reducible apply Wd_gx); (exact rfl); ((conv => lhs; simp -implicitDefEqProofs [*]) <;> exact rfl)))
  all_goals refine ⟨by simp, ?_⟩
  all_goals (with_reducible apply ex2)
  all_goals first
    | ((conv => lhs; simp -implicitDefEqProofs [*, lowerRes, lowerV, resultV, lowerC, escC, escL, moveB, lowerL, lowerAll]) <;> exact rfl)
    | exact ⟨by simp [outT, toBytes], by simp, fun y h0 h1 h2 => (by have e1 : ∀ k i c, y ≠ ⟨k + 1, i, c⟩ := fun k i c e => (by subst e; simp at h0); have e2 : ∀ i c, y ≠ ⟨1, i, c⟩ := fun i c => e1 0 i c; have e6 : ∀ c, y ≠ ⟨0, 13, c⟩ := fun c => ne13 h1 rfl; have e7 : ∀ c, y ≠ ⟨0, 19, c⟩ := fun c e => h2 (by rw [e]); simp [*])⟩
set_option maxHeartbeats 4000000 in
theorem m213wn {code mem out : List Int} {inp : ByteArray} {pc rd steps en : Int} {x0 x1 x2 x3 x4 x5 x6 x7 x8 x9 x10 x11 x12 x13 x14 x15 : Int} {gm go : Nat} (hp1 : Hp) (hx : hp1 ⟨0, 13, 0⟩ = .box 1 (bxP code inp pc [x0, x1, x2, x3, x4, x5, x6, x7, x8, x9, x10, x11, x12, x13, x14, x15] (.own ⟨0, 13, 20⟩ gm mem.length) rd steps en true go out.length) false) (hmo : hp1 ⟨0, 13, 26⟩ = .arr go 1 5 (rowB out) false) (hout : 0 < out.length) (hol : out.length ≤ 65536) (hm : hp1 ⟨0, 13, 20⟩ = .arr gm 1 32 (rowW mem) false) (h19 : hp1 ⟨0, 19, 18⟩ = .no 0) :
    ∃ hp', (lim Tryz.prog E00 X00).hpc 0 19 213 [.ptr ⟨0, 13, 0⟩ 1 0] hp1 = some (.agg (iv pc :: uv x0 :: uv x1 :: uv x2 :: uv x3 :: uv x4 :: uv x5 :: uv x6 :: uv x7 :: uv x8 :: uv x9 :: uv x10 :: uv x11 :: uv x12 :: uv x13 :: uv x14 :: uv x15 :: .own ⟨0, 19, 18⟩ 1 mem.length :: iv rd :: .sc (.string (outT out)) :: iv steps :: iv en :: []), hp') ∧ hp' ⟨0, 19, 18⟩ = .arr 1 1 32 (rowW mem) false ∧ ∀ y : Nm, y.d = 0 → y.i ≠ 13 → y.i ≠ 19 → hp' y = hp1 y := by
  refine unkey ?_
  refine lim_hpcW Tryz.func213 rfl rfl bodyOk_213 rfl rfl ?_
  unfold bxP at hx
  simp only [List.map_cons, List.map_nil, List.cons_append, List.nil_append] at hx
  have v0 : (0 : Int) < out.length := by omega
  have v1 : out.length ≤ 9223372036854775807 := by omega
  have v2 : (⟨⟨toBytes out⟩⟩ : ByteArray).size = out.length := by show (toBytes out).length = _; simp [toBytes]
  have v3 : (rowB out).take out.length = rowB out := List.take_of_length_le (by simp)
  have v4 : bytesOfRows (rowB out) = some (toBytes out) := bytes_rowB out
  have v5 : (rowB out).length = out.length := List.length_map ..
  have v6 : rowB out ≠ [] := fun h => by rw [h] at v5; simp at v5; omega
  generalize rowB out = RB at *
  have w5 : (rowW mem).length = mem.length := List.length_map ..
  generalize rowW mem = RM at *
  repeat' (first | ((with_reducible first | apply Wo_u | apply Wo_n | apply ex2 | apply W_sc | apply W_c | apply Wd_u | apply Wd_n | apply ex4 | apply EndQ_ret | apply EndQ_normal); (conv => lhs; simp -implicitDefEqProofs [*]) <;> exact rfl) | (with_reducible first | apply Wo_nil | apply W_ss | apply W_srl | apply W_rl | apply W_sblock | apply W_block | apply W_sskip | apply W_skip | apply W_sret | apply W_ret | apply W_sexit | apply W_exit | apply thenW_n | apply thenW_r | apply thenW_e | apply inB_n | apply inB_r | apply inB_e) | ((with_reducible apply Wo_gt); (exact rfl); ((conv => lhs; simp -implicitDefEqProofs [*]) <;> exact rfl); (conv => lhs; simp -implicitDefEqProofs [*]) <;> exact rfl) | ((with_reducible apply Wo_gf); (exact rfl); ((conv => lhs; simp -implicitDefEqProofs [*]) <;> exact rfl); (exact rfl)) | ((with_reducible apply Wo_gx); (exact rfl); ((conv => lhs; simp -implicitDefEqProofs [*]) <;> exact rfl)) | ((with_reducible apply Wo_gsT); (exact rfl); ((conv => lhs; simp -implicitDefEqProofs [*]) <;> exact rfl)) | ((with_reducible apply Wo_gsF); (exact rfl); ((conv => lhs; simp -implicitDefEqProofs [*]) <;> exact rfl)) | ((with_reducible apply Wd_gsT); (exact rfl); ((conv => lhs; simp -implicitDefEqProofs [*]) <;> exact rfl)) | ((with_reducible apply Wd_gsF); (exact rfl); ((conv => lhs; simp -implicitDefEqProofs [*]) <;> exact rfl)) | ((with_reducible first | apply W_srdl | apply W_rdl); kernel_rfl) | ((with_reducible apply Wd_nil); kernel_rfl) | ((with_reducible apply inB_o); rotate_left; exact rfl) | (intro h h'; try simp [*, -h] at h') | ((with_reducible apply Wd_gx); (exact rfl); ((conv => lhs; simp -implicitDefEqProofs [*]) <;> exact rfl)))
  all_goals refine ⟨by simp, ?_⟩
  all_goals (with_reducible apply ex2)
  all_goals first
    | ((conv => lhs; simp -implicitDefEqProofs [*, lowerRes, lowerV, resultV, lowerC, escC, escL, moveB, lowerL, lowerAll]) <;> exact rfl)
    | exact ⟨by simp [outT, toBytes], by simp, fun y h0 h1 h2 => (by have e1 : ∀ k i c, y ≠ ⟨k + 1, i, c⟩ := fun k i c e => (by subst e; simp at h0); have e2 : ∀ i c, y ≠ ⟨1, i, c⟩ := fun i c => e1 0 i c; have e6 : ∀ c, y ≠ ⟨0, 13, c⟩ := fun c => ne13 h1 rfl; have e7 : ∀ c, y ≠ ⟨0, 19, c⟩ := fun c e => h2 (by rw [e]); simp [*])⟩
end Go.Proofs.YtaeeffddinppeaaGreatDoor
namespace Go.Proofs.YtaeeffddinppeaaGreatDoor
open Go Go.Ab Go.Ma
attribute [-simp] Prog.bind getCs putCs
attribute [local simp ↓] run_bind
attribute [local simp ↓] runF_bind
attribute [local simp] run_getCsN runF_getCsN facetsC putCs_one run_putCsN
theorem exH {α β : Type} {p : Option (α × β)} {v : α} {h : β} (e : p = some (v, h)) : ∃ h, p = some (v, h) := ⟨h, e⟩
def startM (mem : List Int) : PS := ⟨0, [0, 0, 0, 0, 0, 0, 0, 0, 0, 0, 0, 0, 0, 0, 0, 0], mem, 0, [], 0, 0, false⟩
def stA (mem : List Int) : List AV := [iv 0, uv 0, uv 0, uv 0, uv 0, uv 0, uv 0, uv 0, uv 0, uv 0, uv 0, uv 0, uv 0, uv 0, uv 0, uv 0, uv 0, .sl false 1 (rowW mem), iv 0, .sc (.string ⟨#[]⟩), iv 0, iv 0]
def resS (s : PS) : AV := .agg (iv s.pc :: (s.rg.map uv ++ [if s.own then .vec 1 (rowW s.mem) else .sl false 1 (rowW s.mem), iv s.rd, .sc (.string (outT s.out)), iv s.steps, iv s.en]))
theorem Wo_new {code mem : List Int} {inp : ByteArray} {data : Int} {all : Array Oper} {os : List Oper} {fr : Nat → AV} {hp : Hp} {Q : AS → Prop} {pos : String} {aft : Array Edge} (h0 : hp ⟨0, 13, 0⟩ = .no 0) (h1 : hp ⟨0, 13, 26⟩ = .no 0)
    (h10 : fr 10 = .agg [.sl false 1 (rowW code), iv data]) (h11 : fr 11 = .sc (.string inp)) (h12 : fr 12 = .agg (stA mem))
    (rest : ∀ hp', hp' ⟨0, 13, 0⟩ = .box 1 (bxP code inp 0 [0, 0, 0, 0, 0, 0, 0, 0, 0, 0, 0, 0, 0, 0, 0, 0] (.sl false 1 (rowW mem)) 0 0 0 false 1 0) false → hp' ⟨0, 13, 26⟩ = .arr 1 1 5 [] false → (∀ y : Nm, y.d = 0 → y.i ≠ 13 → hp' y = hp y) → Wo Tryz.prog E00 0 (lim Tryz.prog E00 X00) all os ⟨setd fr (some 13) (.ptr ⟨0, 13, 0⟩ 1 0), hp'⟩ Q) :
    Wo Tryz.prog E00 0 (lim Tryz.prog E00 X00) all (⟨some 13, .call { callee := .value (.func 211), args := #[.tmp 10, .tmp 11, .tmp 12], argTypes := #[28, 9, 135] }, 345, pos, aft, none⟩ :: os) ⟨fr, hp⟩ Q := by
  obtain ⟨hp', e1, e2, e3, e4⟩ := m211 (code := code) (mem := mem) (inp := inp) (data := data) hp h0 h1
  refine Wo_u ?_ (rest hp' e2 e3 e4)
  simp only [evOp, opA, callP, okFn_211, if_true, E00_hp, List.map_cons, List.map_nil, h10, h11, h12, List.append_nil, Option.getD_some]
  unfold stA
  simp [Prog.run, e1]
theorem Wo_steps {cells : List AV} {fuel : Int} {all : Array Oper} {os : List Oper} {fr : Nat → AV} {hp : Hp} {Q : AS → Prop} {pos : String} {aft : Array Edge} (h0 : hp ⟨0, 13, 0⟩ = .box 1 cells false) (h1 : hp ⟨0, 16, 2⟩ = .no 0)
    (h14 : fr 14 = .ptr ⟨0, 13, 0⟩ 1 0) (h15 : fr 15 = iv fuel)
    (rest : ∀ hp', hp' ⟨0, 16, 2⟩ = .box 1 [.ptr ⟨0, 13, 0⟩ 1 0] false → (∀ y : Nm, y.d = 0 → y ≠ ⟨0, 16, 2⟩ → hp' y = hp y) → Wo Tryz.prog E00 0 (lim Tryz.prog E00 X00) all os ⟨setd fr (some 16) (.fn 284 [.dp [iv fuel] 0, .ptr ⟨0, 16, 2⟩ 1 0]), hp'⟩ Q) :
    Wo Tryz.prog E00 0 (lim Tryz.prog E00 X00) all (⟨some 16, .call { callee := .value (.func 212), args := #[.tmp 14, .tmp 15], argTypes := #[345, 3] }, 348, pos, aft, none⟩ :: os) ⟨fr, hp⟩ Q := by
  obtain ⟨hp', e1, e2, e3⟩ := m212 (cells := cells) (fuel := fuel) hp h0 h1
  refine Wo_u ?_ (rest hp' e2 e3)
  simp only [evOp, opA, callP, okFn_212, if_true, E00_hp, List.map_cons, List.map_nil, h14, h15, List.append_nil, Option.getD_some]
  simp [Prog.run, e1]
structure Go1 (code mem : List Int) (inp : ByteArray) (fuel : Int) (q : AS) : Prop where
  f16 : q.fr 16 = .fn 284 [.dp [iv fuel] 0, .ptr ⟨0, 16, 2⟩ 1 0]
  f9 : q.fr 9 = .ptr ⟨0, 13, 0⟩ 1 0
  f8 : q.fr 8 = .ptr ⟨0, 8, 0⟩ 1 0
  bx : Mst code inp (startM mem) 1 0 q.hp
  b16 : q.hp ⟨0, 16, 2⟩ = .box 1 [.ptr ⟨0, 13, 0⟩ 1 0] false
  b8 : ∃ gz, q.hp ⟨0, 8, 0⟩ = .box 1 [.sc (.int .i64 0), .sc (.int .u32 0), .sc (.int .u32 0), .sc (.int .u32 0), .sc (.int .u32 0), .sc (.int .u32 0), .sc (.int .u32 0), .sc (.int .u32 0), .sc (.int .u32 0), .sc (.int .u32 0), .sc (.int .u32 0), .sc (.int .u32 0), .sc (.int .u32 0), .sc (.int .u32 0), .sc (.int .u32 0), .sc (.int .u32 0), .sc (.int .u32 0), .own ⟨0, 8, 18⟩ gz 0, .sc (.int .i64 0), .sc (.string ⟨#[]⟩), .sc (.int .i64 0), .sc (.int .i64 0)] false
  n19 : q.hp ⟨0, 19, 18⟩ = .no 0
set_option maxHeartbeats 8000000 in
theorem w155a {code mem : List Int} {inp : ByteArray} {data fuel : Int} : ∃ R0 R1 R2 R3, Tryz.f155.body = some (.seq R0 (.seq R1 (.seq (.seq R2 (.block 0 (.rangeFunc (.tmp 16) #[17] .skip (.block 1 .skip)))) (.seq R3 .ret)))) ∧
    W Tryz.prog E00 0 (lim Tryz.prog E00 X00) (.seq R0 (.seq R1 R2)) ⟨frame0 [.agg [.sl false 1 (rowW code), iv data], .sc (.string inp), .agg (stA mem), iv fuel], hp0⟩ (fun e q => e = .normal ∧ Go1 code mem inp fuel q) := by
  refine ⟨_, _, _, _, rfl, ?_⟩
  have hp00 : ∀ y, hp0 y = .no 0 := fun _ => rfl
  generalize hST : stA mem = SA
  have hSA : SA = [iv 0, uv 0, uv 0, uv 0, uv 0, uv 0, uv 0, uv 0, uv 0, uv 0, uv 0, uv 0, uv 0, uv 0, uv 0, uv 0, uv 0, .sl false 1 (rowW mem), iv 0, .sc (.string ⟨#[]⟩), iv 0, iv 0] := hST.symm
  clear hST
  repeat' (first | ((with_reducible first | apply Wo_u | apply Wo_n | apply ex2 | apply W_sc | apply W_c | apply Wd_u | apply Wd_n | apply ex4 | apply EndQ_ret | apply EndQ_normal); (conv => lhs; simp -implicitDefEqProofs [*]) <;> exact rfl) | (with_reducible first | apply Wo_nil | apply W_ss | apply W_srl | apply W_rl | apply W_sblock | apply W_block | apply W_sskip | apply W_skip | apply W_sret | apply W_ret | apply W_sexit | apply W_exit | apply thenW_n | apply thenW_r | apply thenW_e | apply inB_n | apply inB_r | apply inB_e) | ((with_reducible apply Wo_gt); (exact rfl); ((conv => lhs; simp -implicitDefEqProofs [*]) <;> exact rfl); (conv => lhs; simp -implicitDefEqProofs [*]) <;> exact rfl) | ((with_reducible apply Wo_gf); (exact rfl); ((conv => lhs; simp -implicitDefEqProofs [*]) <;> exact rfl); (exact rfl)) | ((with_reducible apply Wo_gx); (exact rfl); ((conv => lhs; simp -implicitDefEqProofs [*]) <;> exact rfl)) | ((with_reducible apply Wo_gsT); (exact rfl); ((conv => lhs; simp -implicitDefEqProofs [*]) <;> exact rfl)) | ((with_reducible apply Wo_gsF); (exact rfl); ((conv => lhs; simp -implicitDefEqProofs [*]) <;> exact rfl)) | ((with_reducible apply Wd_gsT); (exact rfl); ((conv => lhs; simp -implicitDefEqProofs [*]) <;> exact rfl)) | ((with_reducible apply Wd_gsF); (exact rfl); ((conv => lhs; simp -implicitDefEqProofs [*]) <;> exact rfl)) | ((with_reducible first | apply W_srdl | apply W_rdl); kernel_rfl) | ((with_reducible apply Wd_nil); kernel_rfl) | ((with_reducible apply inB_o); rotate_left; exact rfl) | (intro h h'; try simp [*, -h] at h') | ((with_reducible apply Wd_gx); (exact rfl); ((conv => lhs; simp -implicitDefEqProofs [*]) <;> exact rfl)))
  all_goals
    refine Wo_new (code := code) (mem := mem) (inp := inp) (data := data) (by simp [hp00]) (by simp [hp00]) (by simp [hSA]) (by simp) (by simp [hSA, stA]) ?_
    intro hp1 hx hmo hoth
    have h16 : hp1 ⟨0, 16, 2⟩ = .no 0 := by rw [hoth _ rfl (by decide)]; simp [hp00]
    have h19 : hp1 ⟨0, 19, 18⟩ = .no 0 := by rw [hoth _ rfl (by decide)]; simp [hp00]
    have h8 := hoth ⟨0, 8, 0⟩ rfl (by decide)
    simp [hp00] at h8
    clear hoth hp00
    repeat' (first | ((with_reducible first | apply Wo_u | apply Wo_n | apply ex2 | apply W_sc | apply W_c | apply Wd_u | apply Wd_n | apply ex4 | apply EndQ_ret | apply EndQ_normal); (conv => lhs; simp -implicitDefEqProofs [*]) <;> exact rfl) | (with_reducible first | apply Wo_nil | apply W_ss | apply W_srl | apply W_rl | apply W_sblock | apply W_block | apply W_sskip | apply W_skip | apply W_sret | apply W_ret | apply W_sexit | apply W_exit | apply thenW_n | apply thenW_r | apply thenW_e | apply inB_n | apply inB_r | apply inB_e) | ((with_reducible apply Wo_gt); (exact rfl); ((conv => lhs; simp -implicitDefEqProofs [*]) <;> exact rfl); (conv => lhs; simp -implicitDefEqProofs [*]) <;> exact rfl) | ((with_reducible apply Wo_gf); (exact rfl); ((conv => lhs; simp -implicitDefEqProofs [*]) <;> exact rfl); (exact rfl)) | ((with_reducible apply Wo_gx); (exact rfl); ((conv => lhs; simp -implicitDefEqProofs [*]) <;> exact rfl)) | ((with_reducible apply Wo_gsT); (exact rfl); ((conv => lhs; simp -implicitDefEqProofs [*]) <;> exact rfl)) | ((with_reducible apply Wo_gsF); (exact rfl); ((conv => lhs; simp -implicitDefEqProofs [*]) <;> exact rfl)) | ((with_reducible apply Wd_gsT); (exact rfl); ((conv => lhs; simp -implicitDefEqProofs [*]) <;> exact rfl)) | ((with_reducible apply Wd_gsF); (exact rfl); ((conv => lhs; simp -implicitDefEqProofs [*]) <;> exact rfl)) | ((with_reducible first | apply W_srdl | apply W_rdl); kernel_rfl) | ((with_reducible apply Wd_nil); kernel_rfl) | ((with_reducible apply inB_o); rotate_left; exact rfl) | (intro h h'; try simp [*, -h] at h') | ((with_reducible apply Wd_gx); (exact rfl); ((conv => lhs; simp -implicitDefEqProofs [*]) <;> exact rfl)))
    all_goals
      refine Wo_steps (cells := bxP code inp 0 [0, 0, 0, 0, 0, 0, 0, 0, 0, 0, 0, 0, 0, 0, 0, 0] (.sl false 1 (rowW mem)) 0 0 0 false 1 0) (fuel := fuel) (by simp [hx]) (by simp [h16]) (by simp) (by simp) ?_
      intro hp2 hb16 hoth2
      have hx2 := (hoth2 ⟨0, 13, 0⟩ rfl (by decide)).trans hx
      have hmo2 := (hoth2 ⟨0, 13, 26⟩ rfl (by decide)).trans hmo
      have h82 := (hoth2 ⟨0, 8, 0⟩ rfl (by decide)).trans h8
      have h192 := (hoth2 ⟨0, 19, 18⟩ rfl (by decide)).trans h19
      clear hoth2 hx hmo h8 h19 h16
      repeat' (first | ((with_reducible first | apply Wo_u | apply Wo_n | apply ex2 | apply W_sc | apply W_c | apply Wd_u | apply Wd_n | apply ex4 | apply EndQ_ret | apply EndQ_normal); (conv => lhs; simp -implicitDefEqProofs [*]) <;> exact rfl) | (with_reducible first | apply Wo_nil | apply W_ss | apply W_srl | apply W_rl | apply W_sblock | apply W_block | apply W_sskip | apply W_skip | apply W_sret | apply W_ret | apply W_sexit | apply W_exit | apply thenW_n | apply thenW_r | apply thenW_e | apply inB_n | apply inB_r | apply inB_e) | ((with_reducible apply Wo_gt); (exact rfl); ((conv => lhs; simp -implicitDefEqProofs [*]) <;> exact rfl); (conv => lhs; simp -implicitDefEqProofs [*]) <;> exact rfl) | ((with_reducible apply Wo_gf); (exact rfl); ((conv => lhs; simp -implicitDefEqProofs [*]) <;> exact rfl); (exact rfl)) | ((with_reducible apply Wo_gx); (exact rfl); ((conv => lhs; simp -implicitDefEqProofs [*]) <;> exact rfl)) | ((with_reducible apply Wo_gsT); (exact rfl); ((conv => lhs; simp -implicitDefEqProofs [*]) <;> exact rfl)) | ((with_reducible apply Wo_gsF); (exact rfl); ((conv => lhs; simp -implicitDefEqProofs [*]) <;> exact rfl)) | ((with_reducible apply Wd_gsT); (exact rfl); ((conv => lhs; simp -implicitDefEqProofs [*]) <;> exact rfl)) | ((with_reducible apply Wd_gsF); (exact rfl); ((conv => lhs; simp -implicitDefEqProofs [*]) <;> exact rfl)) | ((with_reducible first | apply W_srdl | apply W_rdl); kernel_rfl) | ((with_reducible apply Wd_nil); kernel_rfl) | ((with_reducible apply inB_o); rotate_left; exact rfl) | (intro h h'; try simp [*, -h] at h') | ((with_reducible apply Wd_gx); (exact rfl); ((conv => lhs; simp -implicitDefEqProofs [*]) <;> exact rfl)))
      all_goals exact ⟨rfl, ⟨by simp, by simp, by simp, ⟨by simpa [startM, memA] using hx2, by simpa [startM] using hmo2, fun h => by simp [startM] at h⟩, hb16, ⟨_, h82⟩, h192⟩⟩
set_option maxHeartbeats 8000000 in
theorem w155b {code : List Int} {inp : ByteArray} {s : PS} {go gm gz : Nat} {fr : Nat → AV} {hp : Hp} (M : Mst code inp s go gm hp) (hrl : s.rg.length = 16) (hol : s.out.length ≤ 65536) (f9 : fr 9 = .ptr ⟨0, 13, 0⟩ 1 0) (f8 : fr 8 = .ptr ⟨0, 8, 0⟩ 1 0) (h8 : hp ⟨0, 8, 0⟩ = .box 1 [.sc (.int .i64 0), .sc (.int .u32 0), .sc (.int .u32 0), .sc (.int .u32 0), .sc (.int .u32 0), .sc (.int .u32 0), .sc (.int .u32 0), .sc (.int .u32 0), .sc (.int .u32 0), .sc (.int .u32 0), .sc (.int .u32 0), .sc (.int .u32 0), .sc (.int .u32 0), .sc (.int .u32 0), .sc (.int .u32 0), .sc (.int .u32 0), .sc (.int .u32 0), .own ⟨0, 8, 18⟩ gz 0, .sc (.int .i64 0), .sc (.string ⟨#[]⟩), .sc (.int .i64 0), .sc (.int .i64 0)] false) (h19 : hp ⟨0, 19, 18⟩ = .no 0)
    {R0 R1 R2 R3 : Code} (hb : Tryz.f155.body = some (.seq R0 (.seq R1 (.seq (.seq R2 (.block 0 (.rangeFunc (.tmp 16) #[17] .skip (.block 1 .skip)))) (.seq R3 .ret))))) :
    W Tryz.prog E00 0 (lim Tryz.prog E00 X00) (.seq R3 .ret) ⟨fr, hp⟩ (fun e q => e = .ret ∧ ∃ hpf, (resultsP Tryz.prog q.fr Tryz.f155.resultTypes.toList Tryz.f155.results.toList).run q.hp = some ([resS s], hpf)) := by
  have hb' := Option.some.inj hb
  simp only [Code.seq.injEq] at hb'
  obtain ⟨-, -, -, rfl, -⟩ := hb'
  clear hb
  obtain ⟨pc, rg, mem, rd, out, steps, en, own⟩ := s
  obtain ⟨x0, x1, x2, x3, x4, x5, x6, x7, x8, x9, x10, x11, x12, x13, x14, x15, rfl⟩ := reg16 hrl
  have hx := M.bx
  have hmo := M.out
  have hm := M.mem
  simp only at hx hmo hm hol
  have key : ∃ M1 hp', (lim Tryz.prog E00 X00).hpc 0 19 213 [.ptr ⟨0, 13, 0⟩ 1 0] hp = some (.agg (iv pc :: uv x0 :: uv x1 :: uv x2 :: uv x3 :: uv x4 :: uv x5 :: uv x6 :: uv x7 :: uv x8 :: uv x9 :: uv x10 :: uv x11 :: uv x12 :: uv x13 :: uv x14 :: uv x15 :: M1 :: iv rd :: .sc (.string (outT out)) :: iv steps :: iv en :: []), hp') ∧ (own = false → M1 = .sl false 1 (rowW mem)) ∧ (own = true → M1 = .own ⟨0, 19, 18⟩ 1 mem.length ∧ hp' ⟨0, 19, 18⟩ = .arr 1 1 32 (rowW mem) false) ∧ ∀ y : Nm, y.d = 0 → y.i ≠ 13 → y.i ≠ 19 → hp' y = hp y := by
    rcases Nat.eq_zero_or_pos out.length with h0 | h0
    · obtain rfl := List.eq_nil_of_length_eq_zero h0
      cases own with
      | false =>
        obtain ⟨hp', e1, e2⟩ := m213se (gm := gm) (out := []) hp hx hmo
        exact ⟨_, hp', e1, fun _ => rfl, fun h => (nomatch h), e2⟩
      | true =>
        obtain ⟨hp', e1, e2, e3⟩ := m213we (out := []) hp hx hmo (hm rfl) h19
        exact ⟨_, hp', e1, fun h => (nomatch h), fun _ => ⟨rfl, e2⟩, e3⟩
    · cases own with
      | false =>
        obtain ⟨hp', e1, e2⟩ := m213sn (gm := gm) hp hx hmo h0 hol
        exact ⟨_, hp', e1, fun _ => rfl, fun h => (nomatch h), e2⟩
      | true =>
        obtain ⟨hp', e1, e2, e3⟩ := m213wn hp hx hmo h0 hol (hm rfl) h19
        exact ⟨_, hp', e1, fun h => (nomatch h), fun _ => ⟨rfl, e2⟩, e3⟩
  obtain ⟨M1, hp', e1, e2, e3, e4⟩ := key
  have h82 := (e4 ⟨0, 8, 0⟩ rfl (by decide) (by decide)).trans h8
  clear e4 hx hmo hm M h8 h19 hol
  unfold resS
  simp only [List.map_cons, List.map_nil, List.cons_append, List.nil_append]
  have hml : (rowW mem).length = mem.length := List.length_map ..
  have htk : (rowW mem).take mem.length = rowW mem := List.take_of_length_le (by simp)
  generalize rowW mem = RM at *
  cases own
  · have e5 := e2 rfl
    subst e5
    clear e2 e3
    repeat' (first | ((with_reducible first | apply Wo_u | apply Wo_n | apply ex2 | apply W_sc | apply W_c | apply Wd_u | apply Wd_n | apply ex4 | apply EndQ_ret | apply EndQ_normal); (conv => lhs; simp -implicitDefEqProofs [*]) <;> exact rfl) | (with_reducible first | apply Wo_nil | apply W_ss | apply W_srl | apply W_rl | apply W_sblock | apply W_block | apply W_sskip | apply W_skip | apply W_sret | apply W_ret | apply W_sexit | apply W_exit | apply thenW_n | apply thenW_r | apply thenW_e | apply inB_n | apply inB_r | apply inB_e) | ((with_reducible apply Wo_gt); (exact rfl); ((conv => lhs; simp -implicitDefEqProofs [*]) <;> exact rfl); (conv => lhs; simp -implicitDefEqProofs [*]) <;> exact rfl) | ((with_reducible apply Wo_gf); (exact rfl); ((conv => lhs; simp -implicitDefEqProofs [*]) <;> exact rfl); (exact rfl)) | ((with_reducible apply Wo_gx); (exact rfl); ((conv => lhs; simp -implicitDefEqProofs [*]) <;> exact rfl)) | ((with_reducible apply Wo_gsT); (exact rfl); ((conv => lhs; simp -implicitDefEqProofs [*]) <;> exact rfl)) | ((with_reducible apply Wo_gsF); (exact rfl); ((conv => lhs; simp -implicitDefEqProofs [*]) <;> exact rfl)) | ((with_reducible apply Wd_gsT); (exact rfl); ((conv => lhs; simp -implicitDefEqProofs [*]) <;> exact rfl)) | ((with_reducible apply Wd_gsF); (exact rfl); ((conv => lhs; simp -implicitDefEqProofs [*]) <;> exact rfl)) | ((with_reducible first | apply W_srdl | apply W_rdl); kernel_rfl) | ((with_reducible apply Wd_nil); kernel_rfl) | ((with_reducible apply inB_o); rotate_left; exact rfl) | (intro h h'; try simp [*, -h] at h') | ((with_reducible apply Wd_gx); (exact rfl); ((conv => lhs; simp -implicitDefEqProofs [*]) <;> exact rfl)))
    all_goals refine ⟨rfl, ?_⟩
    all_goals rw [show Tryz.f155.resultTypes.toList = [135] from rfl, show Tryz.f155.results.toList = [.cell 8 135] from rfl]
    all_goals (with_reducible apply exH)
    all_goals (conv => lhs; simp -implicitDefEqProofs [*]) <;> exact rfl
  · obtain ⟨e5, e6⟩ := e3 rfl
    subst e5
    clear e2 e3
    repeat' (first | ((with_reducible first | apply Wo_u | apply Wo_n | apply ex2 | apply W_sc | apply W_c | apply Wd_u | apply Wd_n | apply ex4 | apply EndQ_ret | apply EndQ_normal); (conv => lhs; simp -implicitDefEqProofs [*]) <;> exact rfl) | (with_reducible first | apply Wo_nil | apply W_ss | apply W_srl | apply W_rl | apply W_sblock | apply W_block | apply W_sskip | apply W_skip | apply W_sret | apply W_ret | apply W_sexit | apply W_exit | apply thenW_n | apply thenW_r | apply thenW_e | apply inB_n | apply inB_r | apply inB_e) | ((with_reducible apply Wo_gt); (exact rfl); ((conv => lhs; simp -implicitDefEqProofs [*]) <;> exact rfl); (conv => lhs; simp -implicitDefEqProofs [*]) <;> exact rfl) | ((with_reducible apply Wo_gf); (exact rfl); ((conv => lhs; simp -implicitDefEqProofs [*]) <;> exact rfl); (exact rfl)) | ((with_reducible apply Wo_gx); (exact rfl); ((conv => lhs; simp -implicitDefEqProofs [*]) <;> exact rfl)) | ((with_reducible apply Wo_gsT); (exact rfl); ((conv => lhs; simp -implicitDefEqProofs [*]) <;> exact rfl)) | ((with_reducible apply Wo_gsF); (exact rfl); ((conv => lhs; simp -implicitDefEqProofs [*]) <;> exact rfl)) | ((with_reducible apply Wd_gsT); (exact rfl); ((conv => lhs; simp -implicitDefEqProofs [*]) <;> exact rfl)) | ((with_reducible apply Wd_gsF); (exact rfl); ((conv => lhs; simp -implicitDefEqProofs [*]) <;> exact rfl)) | ((with_reducible first | apply W_srdl | apply W_rdl); kernel_rfl) | ((with_reducible apply Wd_nil); kernel_rfl) | ((with_reducible apply inB_o); rotate_left; exact rfl) | (intro h h'; try simp [*, -h] at h') | ((with_reducible apply Wd_gx); (exact rfl); ((conv => lhs; simp -implicitDefEqProofs [*]) <;> exact rfl)))
    all_goals refine ⟨rfl, ?_⟩
    all_goals rw [show Tryz.f155.resultTypes.toList = [135] from rfl, show Tryz.f155.results.toList = [.cell 8 135] from rfl]
    all_goals (with_reducible apply exH)
    all_goals (conv => lhs; simp -implicitDefEqProofs [*]) <;> exact rfl
end Go.Proofs.YtaeeffddinppeaaGreatDoor
namespace Go.Proofs.YtaeeffddinppeaaGreatDoor
open Go Go.Ab Go.Ma
theorem X00_ok : OrcOk Tryz.prog X00 := ⟨fun f args rs h => by simp [X00] at h, fun k d f args hp v hp' h => by simp [X00] at h⟩
theorem mixed6 : Tryz.prog.follows .mixedOrders = true := by kernel_rfl
theorem E00_law : EqLaw Tryz.prog E00.eq := fun t h => by simp at h
theorem E00_all : ELaw Tryz.prog E00 := ⟨E00_law, fun _ => rfl⟩
theorem E0y_law (l : Nat) : EqLaw Tryz.prog (E0y l).eq := fun t h => by simp at h
theorem L0_ok : OrcOk Tryz.prog (lim Tryz.prog E00 X00) := lim_ok mixed6 E00_all X00_ok
theorem startM_ok {n : Nat} {mem : List Int} (h : ∀ x ∈ mem, Ma.U x) : Ma.Ok n (startM mem) :=
  { pc0 := Int.le_refl 0, pc1 := (by decide : (0 : Int) ≤ 4294967296), rl := rfl
    ru := fun x hx => by simp [startM] at hx; subst hx; exact ⟨by decide, by decide⟩
    mu := h, rd := Nat.zero_le _, ou := fun x hx => by simp [startM] at hx, ol := Nat.zero_le _, en0 := Int.le_refl 0, en1 := (by decide : (0 : Int) ≤ 8) }
set_option maxRecDepth 200000 in
theorem go_calls {code mem : List Int} {inp : ByteArray} {data fuel : Int} (hcU : ∀ x ∈ code, Ma.U x) (hmU : ∀ x ∈ mem, Ma.U x) (hml : mem.length ≤ 1048576) (hil : inp.size ≤ 1048576) (hcl : code.length ≤ 1048576) (hf : fuel ≤ 4611686018427387904)
    {I : Nat → Prop} {w : World} {us : List Value} (hI : ∀ b, I b → b < w.heap.size) (hgl : GlOk I w) (ha : AllR (RepA I w) [.agg [.sl false 1 (rowW code), iv data], .sc (.string inp), .agg (stA mem), iv fuel] us) :
    Calls Tryz.prog 155 ⟨us⟩ w (fun e w' => ∃ u, e = .returned u ∧ CallPost Tryz.prog I w (rtys Tryz.prog 155) [resS (runP code (inpF inp) fuel.toNat (startM mem))] u w') := by
  obtain ⟨R0, R1, R2, R3, hb, hW⟩ := w155a (code := code) (mem := mem) (inp := inp) (data := data) (fuel := fuel)
  have hsl : slotsIn Tryz.f155.ntmps (.seq R0 (.seq R1 (.seq (.seq R2 (.block 0 (.rangeFunc (.tmp 16) #[17] .skip (.block 1 .skip)))) (.seq R3 .ret)))) = true := by
    have h := bodyOk_155
    unfold bodyOk at h
    rw [hb] at h
    simp only [Bool.and_eq_true] at h
    exact h.1.1
  simp only [slotsIn, Bool.and_eq_true] at hsl
  obtain ⟨hs0, hs1, ⟨hs2, _⟩, hs3, _⟩ := hsl
  refine fnM_ok Tryz.func155 hb bodyOk_155 rfl hI hgl ha fun a S0 => ?_
  refine wpIn_seq (W.wpIn mixed6 E00_all L0_ok (W_seq_inv hW) hs0 S0 ?_)
  rintro e s a1 w1 hR S1
  cases e with
  | exit i => exact nomatch hR.1
  | ret => exact nomatch hR.1
  | normal =>
  refine wpIn_seq (W.wpIn mixed6 E00_all L0_ok (W_seq_inv hR) hs1 S1 ?_)
  rintro e s a2 w2 hR S2
  cases e with
  | exit i => exact nomatch hR.1
  | ret => exact nomatch hR.1
  | normal =>
  refine wpIn_seq (wpIn_seq (W.wpIn mixed6 E00_all L0_ok hR hs2 S2 ?_))
  rintro e s a3 w3 ⟨rfl, G⟩ S3
  obtain ⟨gz, h8⟩ := G.b8
  have hok : Ma.Ok inp.size (startM mem) := startM_ok hmU
  refine wpIn_block (range_idle (g := .tmp 16) (HP := fun hp' => ∃ go gm, Mst code inp (runP code (inpF inp) fuel.toNat (startM mem)) go gm hp' ∧ ∀ y : Nm, y.d = 0 → y.i ≠ 13 → hp' y = s.hp y) Tryz.func284 (Go.Proofs.enters_of Tryz.func284 (by kernel_rfl) rfl) S3 G.f16 ?_ ?_)
  · intro l r I' K' m us' w1' G' ha' hk hL hid
    obtain ⟨c, hc, hw⟩ := w284 (code := code) (inp := inp) (s := startM mem) hok hml hil hcl fuel hf (Nat.zero_le _) hcU G.bx G.b16 l
    exact iter_ok (E := E0y l) (call := lim Tryz.prog E00 X00) Tryz.func284 hc bodyOk_284 rfl rfl G' ha' mixed6 (E0y_law l) L0_ok (fun l' h => by
      have e : l' = l := by simpa using h
      subst e
      exact ⟨hk, r, hL, hid⟩) hw
  · rintro D I' m' hp' a' w' ⟨go', gm', M', hoth⟩ hD hnI hnK hE' S'
    have hrok := runP_ok (n := inp.size) (code := code) (inp := inpF inp) (by omega) hcU (inpF_spec inp) fuel.toNat hok
    have hw := w155b M' hrok.rl hrok.ol G.f9 G.f8 ((hoth _ rfl (by decide)).trans h8) ((hoth _ rfl (by decide)).trans G.n19) hb
    refine W.wpIn mixed6 E00_all L0_ok hw (by simp only [slotsIn, Bool.and_eq_true]; exact ⟨hs3, trivial⟩) S' ?_
    rintro e q a4 w4 ⟨rfl, hpf, hres⟩ S4
    exact ⟨.inr rfl, D, I', m', hp', w', q, hpf, hD, hnK, hE', S4, hres⟩
end Go.Proofs.YtaeeffddinppeaaGreatDoor
