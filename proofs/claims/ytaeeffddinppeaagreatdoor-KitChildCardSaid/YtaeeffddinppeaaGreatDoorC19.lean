/- A part of the proof: Mr6, Ms6. -/
import Derived.Test.YtaeeffddinppeaaGreatDoorC18
import Derived.Test.YtaeeffddinppeaaGreatDoorC17
import Derived.Shelf.Abstract
set_option linter.unusedSimpArgs false
set_option linter.unusedVariables false
namespace Go.Proofs.YtaeeffddinppeaaGreatDoor
open Go Go.Ab Go.Ma
attribute [-simp] Prog.bind getCs putCs
attribute [local simp ↓] run_bind
attribute [local simp ↓] runF_bind
attribute [local simp] run_getCsN runF_getCsN facetsC putCs_one run_putCsN
theorem exH {α β : Type} {p : Option (α × β)} {v : α} {h : β} (e : p = some (v, h)) : ∃ h, p = some (v, h) := ⟨h, e⟩
def startM (mem : List Int) : PS := ⟨0, [0, 0, 0, 0, 0, 0, 0, 0, 0, 0, 0, 0, 0, 0, 0, 0], mem, 0, [], 0, 0, false⟩
def stA (mem : List Int) : List AV := [iv 0, uv 0, uv 0, uv 0, uv 0, uv 0, uv 0, uv 0, uv 0, uv 0, uv 0, uv 0, uv 0, uv 0, uv 0, uv 0, uv 0, .sl false 1 (rowW mem), iv 0, .sc (.string ⟨#[]⟩), iv 0, iv 0]
def resS (s : PS) : AV := .agg (iv s.pc :: (s.rg.map uv ++ [if s.own then .vec 1 (rowW s.mem) else .sl false 1 (rowW s.mem), iv s.rd, .sc (.string (outT s.out)), iv s.steps, iv s.en]))
theorem Wo_new {code mem : List Int} {inp : ByteArray} {data : Int} {all : Array Oper} {os : List Oper} {fr : Nat → AV} {hp : Hp} {Q : AS → Prop} {pos : String} {aft : Array Edge} (h0 : hp ⟨0, 13, 0⟩ = .no 0) (h1 : hp ⟨0, 13, 26⟩ = .no 0)
    (h10 : fr 10 = .agg [.sl false 1 (rowW code), iv data]) (h11 : fr 11 = .sc (.string inp)) (h12 : fr 12 = .agg (stA mem))
    (rest : ∀ hp', hp' ⟨0, 13, 0⟩ = .box 1 (bxP code inp 0 [0, 0, 0, 0, 0, 0, 0, 0, 0, 0, 0, 0, 0, 0, 0, 0] (.sl false 1 (rowW mem)) 0 0 0 false 1 0) false → hp' ⟨0, 13, 26⟩ = .arr 1 1 5 [] false → (∀ y : Nm, y.d = 0 → y.i ≠ 13 → hp' y = hp y) → Wo Tryz.prog E00 0 (lim Tryz.prog E00 X00) all os ⟨setd fr (some 13) (.ptr ⟨0, 13, 0⟩ 1 0), hp'⟩ Q) :
    Wo Tryz.prog E00 0 (lim Tryz.prog E00 X00) all (⟨some 13, .call { callee := .value (.func 211), args := #[.tmp 10, .tmp 11, .tmp 12], argTypes := #[28, 9, 135] }, 345, pos, aft, none⟩ :: os) ⟨fr, hp⟩ Q := by
  obtain ⟨hp', e1, e2, e3, e4⟩ := m211 (code := code) (mem := mem) (inp := inp) (data := data) hp h0 h1
  refine Wo_u ?_ (rest hp' e2 e3 e4)
  simp only [evOp, opA, callP, okFn_211, if_true, E00_hp, List.map_cons, List.map_nil, h10, h11, h12, List.append_nil, Option.getD_some]
  unfold stA
  simp [Prog.run, e1]
theorem Wo_steps {cells : List AV} {fuel : Int} {all : Array Oper} {os : List Oper} {fr : Nat → AV} {hp : Hp} {Q : AS → Prop} {pos : String} {aft : Array Edge} (h0 : hp ⟨0, 13, 0⟩ = .box 1 cells false) (h1 : hp ⟨0, 16, 2⟩ = .no 0)
    (h14 : fr 14 = .ptr ⟨0, 13, 0⟩ 1 0) (h15 : fr 15 = iv fuel)
    (rest : ∀ hp', hp' ⟨0, 16, 2⟩ = .box 1 [.ptr ⟨0, 13, 0⟩ 1 0] false → (∀ y : Nm, y.d = 0 → y ≠ ⟨0, 16, 2⟩ → hp' y = hp y) → Wo Tryz.prog E00 0 (lim Tryz.prog E00 X00) all os ⟨setd fr (some 16) (.fn 284 [.dp [iv fuel] 0, .ptr ⟨0, 16, 2⟩ 1 0]), hp'⟩ Q) :
    Wo Tryz.prog E00 0 (lim Tryz.prog E00 X00) all (⟨some 16, .call { callee := .value (.func 212), args := #[.tmp 14, .tmp 15], argTypes := #[345, 3] }, 348, pos, aft, none⟩ :: os) ⟨fr, hp⟩ Q := by
  obtain ⟨hp', e1, e2, e3⟩ := m212 (cells := cells) (fuel := fuel) hp h0 h1
  refine Wo_u ?_ (rest hp' e2 e3)
  simp only [evOp, opA, callP, okFn_212, if_true, E00_hp, List.map_cons, List.map_nil, h14, h15, List.append_nil, Option.getD_some]
  simp [Prog.run, e1]
structure Go1 (code mem : List Int) (inp : ByteArray) (fuel : Int) (q : AS) : Prop where
  f16 : q.fr 16 = .fn 284 [.dp [iv fuel] 0, .ptr ⟨0, 16, 2⟩ 1 0]
  f9 : q.fr 9 = .ptr ⟨0, 13, 0⟩ 1 0
  f8 : q.fr 8 = .ptr ⟨0, 8, 0⟩ 1 0
  bx : Mst code inp (startM mem) 1 0 q.hp
  b16 : q.hp ⟨0, 16, 2⟩ = .box 1 [.ptr ⟨0, 13, 0⟩ 1 0] false
  b8 : ∃ gz, q.hp ⟨0, 8, 0⟩ = .box 1 [.sc (.int .i64 0), .sc (.int .u32 0), .sc (.int .u32 0), .sc (.int .u32 0), .sc (.int .u32 0), .sc (.int .u32 0), .sc (.int .u32 0), .sc (.int .u32 0), .sc (.int .u32 0), .sc (.int .u32 0), .sc (.int .u32 0), .sc (.int .u32 0), .sc (.int .u32 0), .sc (.int .u32 0), .sc (.int .u32 0), .sc (.int .u32 0), .sc (.int .u32 0), .own ⟨0, 8, 18⟩ gz 0, .sc (.int .i64 0), .sc (.string ⟨#[]⟩), .sc (.int .i64 0), .sc (.int .i64 0)] false
  n19 : q.hp ⟨0, 19, 18⟩ = .no 0
set_option maxHeartbeats 8000000 in
theorem w155a {code mem : List Int} {inp : ByteArray} {data fuel : Int} : ∃ R0 R1 R2 R3, Tryz.f155.body = some (.seq R0 (.seq R1 (.seq (.seq R2 (.block 0 (.rangeFunc (.tmp 16) #[17] .skip (.block 1 .skip)))) (.seq R3 .ret)))) ∧
    W Tryz.prog E00 0 (lim Tryz.prog E00 X00) (.seq R0 (.seq R1 R2)) ⟨frame0 [.agg [.sl false 1 (rowW code), iv data], .sc (.string inp), .agg (stA mem), iv fuel], hp0⟩ (fun e q => e = .normal ∧ Go1 code mem inp fuel q) := by
  refine ⟨_, _, _, _, rfl, ?_⟩
  have hp00 : ∀ y, hp0 y = .no 0 := fun _ => rfl
  generalize hST : stA mem = SA
  have hSA : SA = [iv 0, uv 0, uv 0, uv 0, uv 0, uv 0, uv 0, uv 0, uv 0, uv 0, uv 0, uv 0, uv 0, uv 0, uv 0, uv 0, uv 0, .sl false 1 (rowW mem), iv 0, .sc (.string ⟨#[]⟩), iv 0, iv 0] := hST.symm
  clear hST
  repeat' (first | ((with_reducible first | apply Wo_u | apply Wo_n | apply ex2 | apply W_sc | apply W_c | apply Wd_u | apply Wd_n | apply ex4 | apply EndQ_ret | apply EndQ_normal); (conv => lhs; simp -implicitDefEqProofs [*]) <;> exact rfl) | (with_reducible first | apply Wo_nil | apply W_ss | apply W_srl | apply W_rl | apply W_sblock | apply W_block | apply W_sskip | apply W_skip | apply W_sret | apply W_ret | apply W_sexit | apply W_exit | apply thenW_n | apply thenW_r | apply thenW_e | apply inB_n | apply inB_r | apply inB_e) | ((with_reducible apply Wo_gt); (exact rfl); ((conv => lhs; simp -implicitDefEqProofs [*]) <;> exact rfl); (conv => lhs; simp -implicitDefEqProofs [*]) <;> exact rfl) | ((with_reducible apply Wo_gf); (exact rfl); ((conv => lhs; simp -implicitDefEqProofs [*]) <;> exact rfl); (exact rfl)) | ((with_reducible apply Wo_gx); (exact rfl); ((conv => lhs; simp -implicitDefEqProofs [*]) <;> exact rfl)) | ((with_reducible apply Wo_gsT); (exact rfl); ((conv => lhs; simp -implicitDefEqProofs [*]) <;> exact rfl)) | ((with_reducible apply Wo_gsF); (exact rfl); ((conv => lhs; simp -implicitDefEqProofs [*]) <;> exact rfl)) | ((with_reducible apply Wd_gsT); (exact rfl); ((conv => lhs; simp -implicitDefEqProofs [*]) <;> exact rfl)) | ((with_reducible apply Wd_gsF); (exact rfl); ((conv => lhs; simp -implicitDefEqProofs [*]) <;> exact rfl)) | ((with_reducible first | apply W_srdl | apply W_rdl); kernel_rfl) | ((with_reducible apply Wd_nil); kernel_rfl) | ((with_reducible apply inB_o); rotate_left; exact rfl) | (intro h h'; try simp [*, -h] at h') | ((with_reducible apply Wd_gx); (exact rfl); ((conv => lhs; simp -implicitDefEqProofs [*]) <;> exact rfl)))
  all_goals
    refine Wo_new (code := code) (mem := mem) (inp := inp) (data := data) (by simp [hp00]) (by simp [hp00]) (by simp [hSA]) (by simp) (by simp [hSA, stA]) ?_
    intro hp1 hx hmo hoth
    have h16 : hp1 ⟨0, 16, 2⟩ = .no 0 := by rw [hoth _ rfl (by decide)]; simp [hp00]
    have h19 : hp1 ⟨0, 19, 18⟩ = .no 0 := by rw [hoth _ rfl (by decide)]; simp [hp00]
    have h8 := hoth ⟨0, 8, 0⟩ rfl (by decide)
    simp [hp00] at h8
    clear hoth hp00
    repeat' (first | ((with_reducible first | apply Wo_u | apply Wo_n | apply ex2 | apply W_sc | apply W_c | apply Wd_u | apply Wd_n | apply ex4 | apply EndQ_ret | apply EndQ_normal); (conv => lhs; simp -implicitDefEqProofs [*]) <;> exact rfl) | (with_reducible first | apply Wo_nil | apply W_ss | apply W_srl | apply W_rl | apply W_sblock | apply W_block | apply W_sskip | apply W_skip | apply W_sret | apply W_ret | apply W_sexit | apply W_exit | apply thenW_n | apply thenW_r | apply thenW_e | apply inB_n | apply inB_r | apply inB_e) | ((with_reducible apply Wo_gt); (exact rfl); ((conv => lhs; simp -implicitDefEqProofs [*]) <;> exact rfl); (conv => lhs; simp -implicitDefEqProofs [*]) <;> exact rfl) | ((with_reducible apply Wo_gf); (exact rfl); ((conv => lhs; simp -implicitDefEqProofs [*]) <;> exact rfl); (exact rfl)) | ((with_reducible apply Wo_gx); (exact rfl); ((conv => lhs; simp -implicitDefEqProofs [*]) <;> exact rfl)) | ((with_reducible apply Wo_gsT); (exact rfl); ((conv => lhs; simp -implicitDefEqProofs [*]) <;> exact rfl)) | ((with_reducible apply Wo_gsF); (exact rfl); ((conv => lhs; simp -implicitDefEqProofs [*]) <;> exact rfl)) | ((with_reducible apply Wd_gsT); (exact rfl); ((conv => lhs; simp -implicitDefEqProofs [*]) <;> exact rfl)) | ((with_reducible apply Wd_gsF); (exact rfl); ((conv => lhs; simp -implicitDefEqProofs [*]) <;> exact rfl)) | ((with_reducible first | apply W_srdl | apply W_rdl); kernel_rfl) | ((with_reducible apply Wd_nil); kernel_rfl) | ((with_reducible apply inB_o); rotate_left; exact rfl) | (intro h h'; try simp [*, -h] at h') | ((with_reducible apply Wd_gx); (exact rfl); ((conv => lhs; simp -implicitDefEqProofs [*]) <;> exact rfl)))
    all_goals
      refine Wo_steps (cells := bxP code inp 0 [0, 0, 0, 0, 0, 0, 0, 0, 0, 0, 0, 0, 0, 0, 0, 0] (.sl false 1 (rowW mem)) 0 0 0 false 1 0) (fuel := fuel) (by simp [hx]) (by simp [h16]) (by simp) (by simp) ?_
      intro hp2 hb16 hoth2
      have hx2 := (hoth2 ⟨0, 13, 0⟩ rfl (by decide)).trans hx
      have hmo2 := (hoth2 ⟨0, 13, 26⟩ rfl (by decide)).trans hmo
      have h82 := (hoth2 ⟨0, 8, 0⟩ rfl (by decide)).trans h8
      have h192 := (hoth2 ⟨0, 19, 18⟩ rfl (by decide)).trans h19
      clear hoth2 hx hmo h8 h19 h16
      repeat' (first | ((with_reducible first | apply Wo_u | apply Wo_n | apply ex2 | apply W_sc | apply W_c | apply Wd_u | apply Wd_n | apply ex4 | apply EndQ_ret | apply EndQ_normal); (conv => lhs; simp -implicitDefEqProofs [*]) <;> exact rfl) | (with_reducible first | apply Wo_nil | apply W_ss | apply W_srl | apply W_rl | apply W_sblock | apply W_block | apply W_sskip | apply W_skip | apply W_sret | apply W_ret | apply W_sexit | apply W_exit | apply thenW_n | apply thenW_r | apply thenW_e | apply inB_n | apply inB_r | apply inB_e) | ((with_reducible apply Wo_gt); (exact rfl); ((conv => lhs; simp -implicitDefEqProofs [*]) <;> exact rfl); (conv => lhs; simp -implicitDefEqProofs [*]) <;> exact rfl) | ((with_reducible apply Wo_gf); (exact rfl); ((conv => lhs; simp -implicitDefEqProofs [*]) <;> exact rfl); (exact rfl)) | ((with_reducible apply Wo_gx); (exact rfl); ((conv => lhs; simp -implicitDefEqProofs [*]) <;> exact rfl)) | ((with_reducible apply Wo_gsT); (exact rfl); ((conv => lhs; simp -implicitDefEqProofs [*]) <;> exact rfl)) | ((with_reducible apply Wo_gsF); (exact rfl); ((conv => lhs; simp -implicitDefEqProofs [*]) <;> exact rfl)) | ((with_reducible apply Wd_gsT); (exact rfl); ((conv => lhs; simp -implicitDefEqProofs [*]) <;> exact rfl)) | ((with_reducible apply Wd_gsF); (exact rfl); ((conv => lhs; simp -implicitDefEqProofs [*]) <;> exact rfl)) | ((with_reducible first | apply W_srdl | apply W_rdl); kernel_rfl) | ((with_reducible apply Wd_nil); kernel_rfl) | ((with_reducible apply inB_o); rotate_left; exact rfl) | (intro h h'; try simp [*, -h] at h') | ((with_reducible apply Wd_gx); (exact rfl); ((conv => lhs; simp -implicitDefEqProofs [*]) <;> exact rfl)))
      all_goals exact ⟨rfl, ⟨by simp, by simp, by simp, ⟨by simpa [startM, memA] using hx2, by simpa [startM] using hmo2, fun h => by simp [startM] at h⟩, hb16, ⟨_, h82⟩, h192⟩⟩
set_option maxHeartbeats 8000000 in
theorem w155b {code : List Int} {inp : ByteArray} {s : PS} {go gm gz : Nat} {fr : Nat → AV} {hp : Hp} (M : Mst code inp s go gm hp) (hrl : s.rg.length = 16) (hol : s.out.length ≤ 65536) (f9 : fr 9 = .ptr ⟨0, 13, 0⟩ 1 0) (f8 : fr 8 = .ptr ⟨0, 8, 0⟩ 1 0) (h8 : hp ⟨0, 8, 0⟩ = .box 1 [.sc (.int .i64 0), .sc (.int .u32 0), .sc (.int .u32 0), .sc (.int .u32 0), .sc (.int .u32 0), .sc (.int .u32 0), .sc (.int .u32 0), .sc (.int .u32 0), .sc (.int .u32 0), .sc (.int .u32 0), .sc (.int .u32 0), .sc (.int .u32 0), .sc (.int .u32 0), .sc (.int .u32 0), .sc (.int .u32 0), .sc (.int .u32 0), .sc (.int .u32 0), .own ⟨0, 8, 18⟩ gz 0, .sc (.int .i64 0), .sc (.string ⟨#[]⟩), .sc (.int .i64 0), .sc (.int .i64 0)] false) (h19 : hp ⟨0, 19, 18⟩ = .no 0)
    {R0 R1 R2 R3 : Code} (hb : Tryz.f155.body = some (.seq R0 (.seq R1 (.seq (.seq R2 (.block 0 (.rangeFunc (.tmp 16) #[17] .skip (.block 1 .skip)))) (.seq R3 .ret))))) :
    W Tryz.prog E00 0 (lim Tryz.prog E00 X00) (.seq R3 .ret) ⟨fr, hp⟩ (fun e q => e = .ret ∧ ∃ hpf, (resultsP Tryz.prog q.fr Tryz.f155.resultTypes.toList Tryz.f155.results.toList).run q.hp = some ([resS s], hpf)) := by
  have hb' := Option.some.inj hb
  simp only [Code.seq.injEq] at hb'
  obtain ⟨-, -, -, rfl, -⟩ := hb'
  clear hb
  obtain ⟨pc, rg, mem, rd, out, steps, en, own⟩ := s
  obtain ⟨x0, x1, x2, x3, x4, x5, x6, x7, x8, x9, x10, x11, x12, x13, x14, x15, rfl⟩ := reg16 hrl
  have hx := M.bx
  have hmo := M.out
  have hm := M.mem
  simp only at hx hmo hm hol
  have key : ∃ M1 hp', (lim Tryz.prog E00 X00).hpc 0 19 213 [.ptr ⟨0, 13, 0⟩ 1 0] hp = some (.agg (iv pc :: uv x0 :: uv x1 :: uv x2 :: uv x3 :: uv x4 :: uv x5 :: uv x6 :: uv x7 :: uv x8 :: uv x9 :: uv x10 :: uv x11 :: uv x12 :: uv x13 :: uv x14 :: uv x15 :: M1 :: iv rd :: .sc (.string (outT out)) :: iv steps :: iv en :: []), hp') ∧ (own = false → M1 = .sl false 1 (rowW mem)) ∧ (own = true → M1 = .own ⟨0, 19, 18⟩ 1 mem.length ∧ hp' ⟨0, 19, 18⟩ = .arr 1 1 32 (rowW mem) false) ∧ ∀ y : Nm, y.d = 0 → y.i ≠ 13 → y.i ≠ 19 → hp' y = hp y := by
    rcases Nat.eq_zero_or_pos out.length with h0 | h0
    · obtain rfl := List.eq_nil_of_length_eq_zero h0
      cases own with
      | false =>
        obtain ⟨hp', e1, e2⟩ := m213se (gm := gm) (out := []) hp hx hmo
        exact ⟨_, hp', e1, fun _ => rfl, fun h => (nomatch h), e2⟩
      | true =>
        obtain ⟨hp', e1, e2, e3⟩ := m213we (out := []) hp hx hmo (hm rfl) h19
        exact ⟨_, hp', e1, fun h => (nomatch h), fun _ => ⟨rfl, e2⟩, e3⟩
    · cases own with
      | false =>
        obtain ⟨hp', e1, e2⟩ := m213sn (gm := gm) hp hx hmo h0 hol
        exact ⟨_, hp', e1, fun _ => rfl, fun h => (nomatch h), e2⟩
      | true =>
        obtain ⟨hp', e1, e2, e3⟩ := m213wn hp hx hmo h0 hol (hm rfl) h19
        exact ⟨_, hp', e1, fun h => (nomatch h), fun _ => ⟨rfl, e2⟩, e3⟩
  obtain ⟨M1, hp', e1, e2, e3, e4⟩ := key
  have h82 := (e4 ⟨0, 8, 0⟩ rfl (by decide) (by decide)).trans h8
  clear e4 hx hmo hm M h8 h19 hol
  unfold resS
  simp only [List.map_cons, List.map_nil, List.cons_append, List.nil_append]
  have hml : (rowW mem).length = mem.length := List.length_map ..
  have htk : (rowW mem).take mem.length = rowW mem := List.take_of_length_le (by simp)
  generalize rowW mem = RM at *
  cases own
  · have e5 := e2 rfl
    subst e5
    clear e2 e3
    repeat' (first | ((with_reducible first | apply Wo_u | apply Wo_n | apply ex2 | apply W_sc | apply W_c | apply Wd_u | apply Wd_n | apply ex4 | apply EndQ_ret | apply EndQ_normal); (conv => lhs; simp -implicitDefEqProofs [*]) <;> exact rfl) | (with_reducible first | apply Wo_nil | apply W_ss | apply W_srl | apply W_rl | apply W_sblock | apply W_block | apply W_sskip | apply W_skip | apply W_sret | apply W_ret | apply W_sexit | apply W_exit | apply thenW_n | apply thenW_r | apply thenW_e | apply inB_n | apply inB_r | apply inB_e) | ((with_reducible apply Wo_gt); (exact rfl); ((conv => lhs; simp -implicitDefEqProofs [*]) <;> exact rfl); (conv => lhs; simp -implicitDefEqProofs [*]) <;> exact rfl) | ((with_reducible apply Wo_gf); (exact rfl); ((conv => lhs; simp -implicitDefEqProofs [*]) <;> exact rfl); (exact rfl)) | ((with_reducible apply Wo_gx); (exact rfl); ((conv => lhs; simp -implicitDefEqProofs [*]) <;> exact rfl)) | ((with_reducible apply Wo_gsT); (exact rfl); ((conv => lhs; simp -implicitDefEqProofs [*]) <;> exact rfl)) | ((with_reducible apply Wo_gsF); (exact rfl); ((conv => lhs; simp -implicitDefEqProofs [*]) <;> exact rfl)) | ((with_reducible apply Wd_gsT); (exact rfl); ((conv => lhs; simp -implicitDefEqProofs [*]) <;> exact rfl)) | ((with_reducible apply Wd_gsF); (exact rfl); ((conv => lhs; simp -implicitDefEqProofs [*]) <;> exact rfl)) | ((with_reducible first | apply W_srdl | apply W_rdl); kernel_rfl) | ((with_reducible apply Wd_nil); kernel_rfl) | ((with_reducible apply inB_o); rotate_left; exact rfl) | (intro h h'; try simp [*, -h] at h') | ((with_reducible apply Wd_gx); (exact rfl); ((conv => lhs; simp -implicitDefEqProofs [*]) <;> exact rfl)))
    all_goals refine ⟨rfl, ?_⟩
    all_goals rw [show Tryz.f155.resultTypes.toList = [135] from rfl, show Tryz.f155.results.toList = [.cell 8 135] from rfl]
    all_goals (with_reducible apply exH)
    all_goals (conv => lhs; simp -implicitDefEqProofs [*]) <;> exact rfl
  · obtain ⟨e5, e6⟩ := e3 rfl
    subst e5
    clear e2 e3
    repeat' (first | ((with_reducible first | apply Wo_u | apply Wo_n | apply ex2 | apply W_sc | apply W_c | apply Wd_u | apply Wd_n | apply ex4 | apply EndQ_ret | apply EndQ_normal); (conv => lhs; simp -implicitDefEqProofs [*]) <;> exact rfl) | (with_reducible first | apply Wo_nil | apply W_ss | apply W_srl | apply W_rl | apply W_sblock | apply W_block | apply W_sskip | apply W_skip | apply W_sret | apply W_ret | apply W_sexit | apply W_exit | apply thenW_n | apply thenW_r | apply thenW_e | apply inB_n | apply inB_r | apply inB_e) | ((with_reducible apply Wo_gt); (exact rfl); ((conv => lhs; simp -implicitDefEqProofs [*]) <;> exact rfl); (conv => lhs; simp -implicitDefEqProofs [*]) <;> exact rfl) | ((with_reducible apply Wo_gf); (exact rfl); ((conv => lhs; simp -implicitDefEqProofs [*]) <;> exact rfl); (exact rfl)) | ((with_reducible apply Wo_gx); (exact rfl); ((conv => lhs; simp -implicitDefEqProofs [*]) <;> exact rfl)) | ((with_reducible apply Wo_gsT); (exact rfl); ((conv => lhs; simp -implicitDefEqProofs [*]) <;> exact rfl)) | ((with_reducible apply Wo_gsF); (exact rfl); ((conv => lhs; simp -implicitDefEqProofs [*]) <;> exact rfl)) | ((with_reducible apply Wd_gsT); (exact rfl); ((conv => lhs; simp -implicitDefEqProofs [*]) <;> exact rfl)) | ((with_reducible apply Wd_gsF); (exact rfl); ((conv => lhs; simp -implicitDefEqProofs [*]) <;> exact rfl)) | ((with_reducible first | apply W_srdl | apply W_rdl); kernel_rfl) | ((with_reducible apply Wd_nil); kernel_rfl) | ((with_reducible apply inB_o); rotate_left; exact rfl) | (intro h h'; try simp [*, -h] at h') | ((with_reducible apply Wd_gx); (exact rfl); ((conv => lhs; simp -implicitDefEqProofs [*]) <;> exact rfl)))
    all_goals refine ⟨rfl, ?_⟩
    all_goals rw [show Tryz.f155.resultTypes.toList = [135] from rfl, show Tryz.f155.results.toList = [.cell 8 135] from rfl]
    all_goals (with_reducible apply exH)
    all_goals (conv => lhs; simp -implicitDefEqProofs [*]) <;> exact rfl
end Go.Proofs.YtaeeffddinppeaaGreatDoor
namespace Go.Proofs.YtaeeffddinppeaaGreatDoor
open Go Go.Ab Go.Ma
theorem X00_ok : OrcOk Tryz.prog X00 := ⟨fun f args rs h => by simp [X00] at h, fun k d f args hp v hp' h => by simp [X00] at h⟩
theorem mixed6 : Tryz.prog.follows .mixedOrders = true := by kernel_rfl
theorem E00_law : EqLaw Tryz.prog E00.eq := fun t h => by simp at h
theorem E00_all : ELaw Tryz.prog E00 := ⟨E00_law, fun _ => rfl⟩
theorem E0y_law (l : Nat) : EqLaw Tryz.prog (E0y l).eq := fun t h => by simp at h
theorem L0_ok : OrcOk Tryz.prog (lim Tryz.prog E00 X00) := lim_ok mixed6 E00_all X00_ok
theorem startM_ok {n : Nat} {mem : List Int} (h : ∀ x ∈ mem, Ma.U x) : Ma.Ok n (startM mem) :=
  { pc0 := Int.le_refl 0, pc1 := (by decide : (0 : Int) ≤ 4294967296), rl := rfl
    ru := fun x hx => by simp [startM] at hx; subst hx; exact ⟨by decide, by decide⟩
    mu := h, rd := Nat.zero_le _, ou := fun x hx => by simp [startM] at hx, ol := Nat.zero_le _, en0 := Int.le_refl 0, en1 := (by decide : (0 : Int) ≤ 8) }
set_option maxRecDepth 200000 in
theorem go_calls {code mem : List Int} {inp : ByteArray} {data fuel : Int} (hcU : ∀ x ∈ code, Ma.U x) (hmU : ∀ x ∈ mem, Ma.U x) (hml : mem.length ≤ 1048576) (hil : inp.size ≤ 1048576) (hcl : code.length ≤ 1048576) (hf : fuel ≤ 4611686018427387904)
    {I : Nat → Prop} {w : World} {us : List Value} (hI : ∀ b, I b → b < w.heap.size) (hgl : GlOk I w) (ha : AllR (RepA I w) [.agg [.sl false 1 (rowW code), iv data], .sc (.string inp), .agg (stA mem), iv fuel] us) :
    Calls Tryz.prog 155 ⟨us⟩ w (fun e w' => ∃ u, e = .returned u ∧ CallPost Tryz.prog I w (rtys Tryz.prog 155) [resS (runP code (inpF inp) fuel.toNat (startM mem))] u w') := by
  obtain ⟨R0, R1, R2, R3, hb, hW⟩ := w155a (code := code) (mem := mem) (inp := inp) (data := data) (fuel := fuel)
  have hsl : slotsIn Tryz.f155.ntmps (.seq R0 (.seq R1 (.seq (.seq R2 (.block 0 (.rangeFunc (.tmp 16) #[17] .skip (.block 1 .skip)))) (.seq R3 .ret)))) = true := by
    have h := bodyOk_155
    unfold bodyOk at h
    rw [hb] at h
    simp only [Bool.and_eq_true] at h
    exact h.1.1
  simp only [slotsIn, Bool.and_eq_true] at hsl
  obtain ⟨hs0, hs1, ⟨hs2, _⟩, hs3, _⟩ := hsl
  refine fnM_ok Tryz.func155 hb bodyOk_155 rfl hI hgl ha fun a S0 => ?_
  refine wpIn_seq (W.wpIn mixed6 E00_all L0_ok (W_seq_inv hW) hs0 S0 ?_)
  rintro e s a1 w1 hR S1
  cases e with
  | exit i => exact nomatch hR.1
  | ret => exact nomatch hR.1
  | normal =>
  refine wpIn_seq (W.wpIn mixed6 E00_all L0_ok (W_seq_inv hR) hs1 S1 ?_)
  rintro e s a2 w2 hR S2
  cases e with
  | exit i => exact nomatch hR.1
  | ret => exact nomatch hR.1
  | normal =>
  refine wpIn_seq (wpIn_seq (W.wpIn mixed6 E00_all L0_ok hR hs2 S2 ?_))
  rintro e s a3 w3 ⟨rfl, G⟩ S3
  obtain ⟨gz, h8⟩ := G.b8
  have hok : Ma.Ok inp.size (startM mem) := startM_ok hmU
  refine wpIn_block (range_idle (g := .tmp 16) (HP := fun hp' => ∃ go gm, Mst code inp (runP code (inpF inp) fuel.toNat (startM mem)) go gm hp' ∧ ∀ y : Nm, y.d = 0 → y.i ≠ 13 → hp' y = s.hp y) Tryz.func284 (Go.Proofs.enters_of Tryz.func284 (by kernel_rfl) rfl) S3 G.f16 ?_ ?_)
  · intro l r I' K' m us' w1' G' ha' hk hL hid
    obtain ⟨c, hc, hw⟩ := w284 (code := code) (inp := inp) (s := startM mem) hok hml hil hcl fuel hf (Nat.zero_le _) hcU G.bx G.b16 l
    exact iter_ok (E := E0y l) (call := lim Tryz.prog E00 X00) Tryz.func284 hc bodyOk_284 rfl rfl G' ha' mixed6 (E0y_law l) L0_ok (fun l' h => by
      have e : l' = l := by simpa using h
      subst e
      exact ⟨hk, r, hL, hid⟩) hw
  · rintro D I' m' hp' a' w' ⟨go', gm', M', hoth⟩ hD hnI hnK hE' S'
    have hrok := runP_ok (n := inp.size) (code := code) (inp := inpF inp) (by omega) hcU (inpF_spec inp) fuel.toNat hok
    have hw := w155b M' hrok.rl hrok.ol G.f9 G.f8 ((hoth _ rfl (by decide)).trans h8) ((hoth _ rfl (by decide)).trans G.n19) hb
    refine W.wpIn mixed6 E00_all L0_ok hw (by simp only [slotsIn, Bool.and_eq_true]; exact ⟨hs3, trivial⟩) S' ?_
    rintro e q a4 w4 ⟨rfl, hpf, hres⟩ S4
    exact ⟨.inr rfl, D, I', m', hp', w', q, hpf, hD, hnK, hE', S4, hres⟩
end Go.Proofs.YtaeeffddinppeaaGreatDoor
