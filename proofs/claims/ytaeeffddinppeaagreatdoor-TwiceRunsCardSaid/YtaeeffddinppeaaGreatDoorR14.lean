/- A part of the proof: Mk, Ml, Mm. -/
import Derived.Test.YtaeeffddinppeaaGreatDoorR13
set_option linter.unusedSimpArgs false
set_option linter.unusedVariables false
namespace Go.Proofs.YtaeeffddinppeaaGreatDoor
open Go Go.Ab Go.Ma
theorem mem_ne {c : Nat} (h : c ≠ 0) : (⟨0, 13, c⟩ : Nm) ≠ ⟨0, 13, 0⟩ := fun e => h (by simpa using e)
theorem ne13 {y z : Nm} (h : y.i ≠ 13) (hz : z.i = 13) : y ≠ z := fun e => h (by rw [e]; exact hz)
theorem fin1 {code : List Int} {inp : ByteArray} {s t : PS} {go gm : Nat} {hp1 hp' : Hp} (M : Mst code inp s go gm hp1) (hx : hp' ⟨0, 13, 0⟩ = .box 1 (bxP code inp t.pc t.rg (memA t.own gm t.mem) t.rd t.steps t.en t.own go t.out.length) false)
    (ho : t.out = s.out) (hm : t.mem = s.mem) (hw : t.own = s.own) (h3 : ∀ y : Nm, y.d = 0 → y ≠ ⟨0, 13, 0⟩ → hp' y = hp1 y) : Mst code inp t go gm hp' ∧ ∀ y : Nm, y.d = 0 → y.i ≠ 13 → hp' y = hp1 y :=
  ⟨⟨hx, by rw [h3 _ rfl (mem_ne (by decide)), M.out, ho], fun h => by rw [h3 _ rfl (mem_ne (by decide)), hm]; exact M.mem (hw ▸ h)⟩, fun y h0 h1 => h3 y h0 (ne13 h1 rfl)⟩
theorem at_of (x : Int) (n : Nat) : (x + n) % 4294967296 = (((x + n) % 4294967296).toNat : Int) := by omega
set_option maxHeartbeats 4000000 in
theorem m363 {code : List Int} {inp : ByteArray} {s : PS} {go gm : Nat} {hp1 : Hp} (op na nb nc : Nat) (hs : Ma.Ok inp.size s) (hen : s.en = 0) (hr : rightI ⟨op, na, nb, nc⟩ = true) (hpc : s.pc ≤ 4294967295) (hml : s.mem.length ≤ 1048576) (hil : inp.size ≤ 1048576) (hst : s.out.length ≤ 65536)
    (M : Mst code inp s go gm hp1) (d : Nat) :
    ∃ hp' go' gm', (lim Tryz.prog E00 X00).hpc 2 d 363 [.ptr ⟨0, 13, 0⟩ 1 0, .agg [iv op, iv na, iv nb, iv nc]] hp1 = some (iv (doP code (inpF inp) s ⟨op, na, nb, nc⟩).en, hp') ∧
      Mst code inp { doP code (inpF inp) s ⟨op, na, nb, nc⟩ with en := 0 } go' gm' hp' ∧ ∀ y : Nm, y.d = 0 → y.i ≠ 13 → hp' y = hp1 y := by
  obtain ⟨⟨o1, o2⟩, ⟨_, a1⟩, ⟨_, b1⟩, ⟨_, c1⟩, c2⟩ := right_bounds hr
  simp only at o1 o2 a1 b1 c1 c2
  have ha : na < 16 := by omega
  have hb : nb < 16 := by omega
  have hnc : nc ≤ 65535 := by omega
  have hga := hs.reg (a := (na : Int)) (by omega) (by omega)
  have hgb := hs.reg (a := (nb : Int)) (by omega) (by omega)
  have hrl := hs.rl
  have hpc0 := hs.pc0
  have hpc1 : s.pc ≤ 4294967296 := by omega
  have hol := hs.ol
  have ho1 : (op : Int) ≤ 27 := o2
  obtain ⟨pc, rg, mem, rd, out, steps, en, own⟩ := s
  simp only at hen
  subst hen
  simp only [Int.toNat_natCast] at hga hgb
  simp only at hrl hpc0 hpc1 hpc hml hol hst
  obtain ⟨xa, hxa⟩ : ∃ xa, PS.reg ⟨pc, rg, mem, rd, out, steps, 0, own⟩ na = xa := ⟨_, rfl⟩
  obtain ⟨xb, hxb⟩ : ∃ xb, PS.reg ⟨pc, rg, mem, rd, out, steps, 0, own⟩ nb = xb := ⟨_, rfl⟩
  rw [hxa] at hga
  rw [hxb] at hgb
  obtain ⟨at_, hat⟩ : ∃ at_ : Nat, ((xb + nc) % 4294967296).toNat = at_ := ⟨_, rfl⟩
  have hat' : (xb + nc) % 4294967296 = (at_ : Int) := by rw [← hat]; exact at_of xb nc
  by_cases h415 : 4 ≤ op ∧ op ≤ 15
  · have hc16 : nc < 16 := by have := c2 (by omega) (by omega); omega
    have hgc := hs.reg (a := (nc : Int)) (by omega) (by omega)
    simp only [Int.toNat_natCast] at hgc
    obtain ⟨xc, hxc⟩ : ∃ xc, PS.reg ⟨pc, rg, mem, rd, out, steps, 0, own⟩ nc = xc := ⟨_, rfl⟩
    rw [hxc] at hgc
    have hd : doP code (inpF inp) ⟨pc, rg, mem, rd, out, steps, 0, own⟩ ⟨op, na, nb, nc⟩ = (apP op xb xc).elim (PS.stop ⟨pc, rg, mem, rd, out, steps, 0, own⟩ 2) fun x => PS.setR ⟨pc, rg, mem, rd, out, steps, 0, own⟩ na x := by
      unfold doP
      simp only [hxb, hxc]
      rw [if_neg (by omega), if_neg (by omega), if_neg (by omega), if_neg (by omega), if_neg (by omega), if_neg (by omega), if_neg (by omega), if_neg (by omega), if_neg (by omega), if_neg (by omega), if_neg (by omega), if_neg (by omega), if_neg (by omega), if_neg (by omega), if_neg (by omega)]
    rw [hd]
    cases hv : apP op xb xc with
    | none =>
      obtain ⟨hp', h1, h2, h3⟩ := m363_opo op na nb nc h415.1 h415.2 xb xc hgb.2 hgc.2 hv hpc0 hpc1 hrl d hp1 M.bx ha hb hc16 hgb.1 hgc.1
      exact ⟨hp', go, gm, h1, fin1 M h2 rfl rfl rfl h3⟩
    | some v =>
      obtain ⟨hp', h1, h2, h3⟩ := m363_opi op na nb nc h415.1 h415.2 xb xc hgb.2 hgc.2 v hv hpc0 hpc1 hrl d hp1 M.bx ha hb hc16 hgb.1 hgc.1
      exact ⟨hp', go, gm, h1, fin1 M h2 rfl rfl rfl h3⟩
  have hop : op = 1 ∨ op = 2 ∨ op = 3 ∨ op = 16 ∨ op = 17 ∨ op = 18 ∨ op = 19 ∨ op = 20 ∨ op = 21 ∨ op = 22 ∨ op = 23 ∨ op = 24 ∨ op = 25 ∨ op = 26 ∨ op = 27 := by omega
  rcases hop with rfl | rfl | rfl | rfl | rfl | rfl | rfl | rfl | rfl | rfl | rfl | rfl | rfl | rfl | rfl
  · obtain ⟨hp', h1, h2, h3⟩ := m363_1 na nb nc hnc hpc0 hpc1 hrl d hp1 M.bx ha
    exact ⟨hp', go, gm, h1, fin1 M h2 rfl rfl rfl h3⟩
  · have hd : doP code (inpF inp) ⟨pc, rg, mem, rd, out, steps, 0, own⟩ ⟨(2 : Nat), na, nb, nc⟩ = PS.setR ⟨pc, rg, mem, rd, out, steps, 0, own⟩ na (xa % 65536 + (nc : Int) * 65536) := by rw [← hxa]; rfl
    rw [hd]
    obtain ⟨hp', h1, h2, h3⟩ := m363_2 na nb nc xa hga.2 hnc hpc0 hpc1 hrl d hp1 M.bx ha hga.1
    exact ⟨hp', go, gm, h1, fin1 M h2 rfl rfl rfl h3⟩
  · have hd : doP code (inpF inp) ⟨pc, rg, mem, rd, out, steps, 0, own⟩ ⟨(3 : Nat), na, nb, nc⟩ = PS.setR ⟨pc, rg, mem, rd, out, steps, 0, own⟩ na xb := by rw [← hxb]; rfl
    rw [hd]
    obtain ⟨hp', h1, h2, h3⟩ := m363_3 na nb nc xb hpc0 hpc1 hrl d hp1 M.bx ha hb hgb.1
    exact ⟨hp', go, gm, h1, fin1 M h2 rfl rfl rfl h3⟩
  · have hd : doP code (inpF inp) ⟨pc, rg, mem, rd, out, steps, 0, own⟩ ⟨(16 : Nat), na, nb, nc⟩ = mem[at_]?.elim (PS.stop ⟨pc, rg, mem, rd, out, steps, 0, own⟩ 8) fun x => PS.setR ⟨pc, rg, mem, rd, out, steps, 0, own⟩ na x := by rw [← hat, ← hxb]; rfl
    rw [hd]
    cases hv : mem[at_]? with
    | none =>
      have hcx : mem.length ≤ at_ := List.getElem?_eq_none_iff.1 hv
      cases own with
      | false =>
        obtain ⟨hp', h1, h2, h3⟩ := m363_16os na nb nc at_ xb hnc hat' mem gm rfl hcx hpc0 hpc1 hrl d hp1 M.bx ha hb hgb.1
        exact ⟨hp', go, gm, h1, fin1 M h2 rfl rfl rfl h3⟩
      | true =>
        obtain ⟨hp', h1, h2, h3⟩ := m363_16ow na nb nc at_ xb hnc hat' mem gm rfl hcx hpc0 hpc1 hrl d hp1 M.bx ha hb hgb.1 (M.mem rfl)
        exact ⟨hp', go, gm, h1, fin1 M h2 rfl rfl rfl h3⟩
    | some x =>
      cases own with
      | false =>
        obtain ⟨hp', h1, h2, h3⟩ := m363_16is na nb nc at_ xb hnc hat' mem gm rfl x hv hpc0 hpc1 hrl d hp1 M.bx ha hb hgb.1
        exact ⟨hp', go, gm, h1, fin1 M h2 rfl rfl rfl h3⟩
      | true =>
        obtain ⟨hp', h1, h2, h3⟩ := m363_16iw na nb nc at_ xb hnc hat' mem gm rfl x hv hpc0 hpc1 hrl d hp1 M.bx ha hb hgb.1 (M.mem rfl)
        exact ⟨hp', go, gm, h1, fin1 M h2 rfl rfl rfl h3⟩
  · have hd : doP code (inpF inp) ⟨pc, rg, mem, rd, out, steps, 0, own⟩ ⟨(17 : Nat), na, nb, nc⟩ = if at_ < mem.length then ⟨pc + 1, rg, mem.set at_ xa, rd, out, steps, 0, true⟩ else PS.stop ⟨pc, rg, mem, rd, out, steps, 0, own⟩ 8 := by rw [← hat, ← hxb, ← hxa]; rfl
    rw [hd]
    by_cases hcx : at_ < mem.length
    · rw [if_pos hcx]
      cases own with
      | false =>
        obtain ⟨hp', h1, h2, h4, h3⟩ := m363_17is na nb nc at_ xa xb hnc hat' mem gm rfl rfl hml hcx hpc0 hpc1 hrl d hp1 M.bx ha hb hga.1 hgb.1
        refine ⟨hp', go, _, h1, ⟨?_, ?_, fun _ => h4⟩, fun y h0 h1 => h3 y h0 (ne13 h1 rfl) (ne13 h1 rfl)⟩
        · simpa [memA] using h2
        · rw [h3 _ rfl (mem_ne (by decide)) (by simp)]; exact M.out
      | true =>
        obtain ⟨hp', h1, h2, h4, h3⟩ := m363_17iw na nb nc at_ xa xb hnc hat' mem gm rfl rfl hml hcx hpc0 hpc1 hrl d hp1 M.bx ha hb hga.1 hgb.1 (M.mem rfl)
        refine ⟨hp', go, gm, h1, ⟨?_, ?_, fun _ => h4⟩, fun y h0 h1 => h3 y h0 (ne13 h1 rfl) (ne13 h1 rfl)⟩
        · simpa [memA] using h2
        · rw [h3 _ rfl (mem_ne (by decide)) (by simp)]; exact M.out
    · rw [if_neg hcx]
      have hcx : mem.length ≤ at_ := by omega
      cases own with
      | false =>
        obtain ⟨hp', h1, h2, h3⟩ := m363_17os na nb nc at_ xb hnc hat' mem gm rfl hcx hpc0 hpc1 hrl d hp1 M.bx ha hb hgb.1
        exact ⟨hp', go, gm, h1, fin1 M h2 rfl rfl rfl h3⟩
      | true =>
        obtain ⟨hp', h1, h2, h3⟩ := m363_17ow na nb nc at_ xb hnc hat' mem gm rfl hcx hpc0 hpc1 hrl d hp1 M.bx ha hb hgb.1 (M.mem rfl)
        exact ⟨hp', go, gm, h1, fin1 M h2 rfl rfl rfl h3⟩
  · obtain ⟨hp', h1, h2, h3⟩ := m363_18 na nb nc hpc0 hpc1 hrl d hp1 M.bx
    exact ⟨hp', go, gm, h1, fin1 M h2 rfl rfl rfl h3⟩
  · have hd : doP code (inpF inp) ⟨pc, rg, mem, rd, out, steps, 0, own⟩ ⟨(19 : Nat), na, nb, nc⟩ = PS.goto ⟨pc, rg, mem, rd, out, steps, 0, own⟩ (if xa = 0 then (nc : Int) else pc + 1) := by rw [← hxa]; rfl
    rw [hd]
    obtain ⟨hp', h1, h2, h3⟩ := m363_19 na nb nc xa hpc0 hpc1 hrl d hp1 M.bx ha hga.1
    exact ⟨hp', go, gm, h1, fin1 M h2 rfl rfl rfl h3⟩
  · have hd : doP code (inpF inp) ⟨pc, rg, mem, rd, out, steps, 0, own⟩ ⟨(20 : Nat), na, nb, nc⟩ = PS.goto ⟨pc, rg, mem, rd, out, steps, 0, own⟩ (if xa ≠ 0 then (nc : Int) else pc + 1) := by rw [← hxa]; rfl
    rw [hd]
    obtain ⟨hp', h1, h2, h3⟩ := m363_20 na nb nc xa hpc0 hpc1 hrl d hp1 M.bx ha hga.1
    exact ⟨hp', go, gm, h1, fin1 M h2 rfl rfl rfl h3⟩
  · obtain ⟨hp', h1, h2, h3⟩ := m363_21 na nb nc hpc0 hpc1 hrl d hp1 M.bx ha
    exact ⟨hp', go, gm, h1, fin1 M h2 rfl rfl rfl h3⟩
  · have hd : doP code (inpF inp) ⟨pc, rg, mem, rd, out, steps, 0, own⟩ ⟨(22 : Nat), na, nb, nc⟩ = PS.goto ⟨pc, rg, mem, rd, out, steps, 0, own⟩ xa := by rw [← hxa]; rfl
    rw [hd]
    obtain ⟨hp', h1, h2, h3⟩ := m363_22 na nb nc xa hga.2 hpc0 hpc1 hrl d hp1 M.bx ha hga.1
    exact ⟨hp', go, gm, h1, fin1 M h2 rfl rfl rfl h3⟩
  · have hd : doP code (inpF inp) ⟨pc, rg, mem, rd, out, steps, 0, own⟩ ⟨(23 : Nat), na, nb, nc⟩ = (inpF inp rd).elim (PS.setR ⟨pc, rg, mem, rd, out, steps, 0, own⟩ na 256) fun b => ⟨pc + 1, rg.set na b, mem, rd + 1, out, steps, 0, own⟩ := rfl
    rw [hd]
    unfold inpF
    cases hv : inp.data[rd]? with
    | none =>
      obtain ⟨hp', h1, h2, h3⟩ := m363_23o na nb nc rd rfl (by simpa using hv) hpc0 hpc1 hrl d hp1 M.bx ha
      exact ⟨hp', go, gm, h1, fin1 M h2 rfl rfl rfl h3⟩
    | some b =>
      obtain ⟨hp', h1, h2, h3⟩ := m363_23i na nb nc rd rfl b hv hil hpc0 hpc1 hrl d hp1 M.bx ha
      exact ⟨hp', go, gm, h1, fin1 M h2 rfl rfl rfl h3⟩
  · have hd : doP code (inpF inp) ⟨pc, rg, mem, rd, out, steps, 0, own⟩ ⟨(24 : Nat), na, nb, nc⟩ = if 65536 ≤ out.length then PS.stop ⟨pc, rg, mem, rd, out, steps, 0, own⟩ 4 else ⟨pc + 1, rg, mem, rd, out ++ [xa % 256], steps, 0, own⟩ := by rw [← hxa]; rfl
    rw [hd]
    by_cases hc : 65536 ≤ out.length
    · rw [if_pos hc]
      obtain ⟨hp', h1, h2, h3⟩ := m363_24o na nb nc hc (by omega) out rfl hpc0 hpc1 hrl d hp1 M.bx ha M.out
      exact ⟨hp', go, gm, h1, fin1 M h2 rfl rfl rfl h3⟩
    · rw [if_neg hc]
      obtain ⟨hp', h1, h2, h4, h3⟩ := m363_24i na nb nc xa hga.2 (by omega) out rfl hpc0 hpc1 hrl d hp1 M.bx ha hga.1 M.out
      refine ⟨hp', go + 1, gm, h1, ⟨?_, h4, fun h => ?_⟩, fun y h0 h1 => h3 y h0 (ne13 h1 rfl) (ne13 h1 rfl)⟩
      · simpa using h2
      · rw [h3 _ rfl (mem_ne (by decide)) (by simp)]; exact M.mem h
  · have hd : doP code (inpF inp) ⟨pc, rg, mem, rd, out, steps, 0, own⟩ ⟨(25 : Nat), na, nb, nc⟩ = if (nc : Int) ≤ xa then PS.stop ⟨pc, rg, mem, rd, out, steps, 0, own⟩ 3 else PS.goto ⟨pc, rg, mem, rd, out, steps, 0, own⟩ (pc + 1) := by rw [← hxa]; rfl
    rw [hd]
    by_cases hc : (nc : Int) ≤ xa
    · rw [if_pos hc]
      obtain ⟨hp', h1, h2, h3⟩ := m363_25o na nb nc xa hnc hc hpc0 hpc1 hrl d hp1 M.bx ha hga.1
      exact ⟨hp', go, gm, h1, fin1 M h2 rfl rfl rfl h3⟩
    · rw [if_neg hc]
      obtain ⟨hp', h1, h2, h3⟩ := m363_25i na nb nc xa hnc (by omega) hpc0 hpc1 hrl d hp1 M.bx ha hga.1
      exact ⟨hp', go, gm, h1, fin1 M h2 rfl rfl rfl h3⟩
  · obtain ⟨hp', h1, h2, h3⟩ := m363_26 na nb nc hpc0 hpc1 hrl d hp1 M.bx
    exact ⟨hp', go, gm, h1, fin1 M h2 rfl rfl rfl h3⟩
  · have hd : doP code (inpF inp) ⟨pc, rg, mem, rd, out, steps, 0, own⟩ ⟨(27 : Nat), na, nb, nc⟩ = code[at_]?.elim (PS.stop ⟨pc, rg, mem, rd, out, steps, 0, own⟩ 8) fun x => PS.setR ⟨pc, rg, mem, rd, out, steps, 0, own⟩ na x := by rw [← hat, ← hxb]; rfl
    rw [hd]
    cases hv : code[at_]? with
    | none =>
      obtain ⟨hp', h1, h2, h3⟩ := m363_27o na nb nc at_ xb hnc hat' (List.getElem?_eq_none_iff.1 hv) hpc0 hpc1 hrl d hp1 M.bx ha hb hgb.1
      exact ⟨hp', go, gm, h1, fin1 M h2 rfl rfl rfl h3⟩
    | some x =>
      obtain ⟨hp', h1, h2, h3⟩ := m363_27i na nb nc at_ xb hnc hat' x hv hpc0 hpc1 hrl d hp1 M.bx ha hb hgb.1
      exact ⟨hp', go, gm, h1, fin1 M h2 rfl rfl rfl h3⟩
end Go.Proofs.YtaeeffddinppeaaGreatDoor
namespace Go.Proofs.YtaeeffddinppeaaGreatDoor
open Go Go.Ab Go.Ma
attribute [-simp] Prog.bind getCs putCs
attribute [local simp ↓] run_bind
attribute [local simp ↓] runF_bind
attribute [local simp] run_getCsN runF_getCsN facetsC putCs_one run_putCsN
attribute [local simp] take1 bx_len bx_0 bx_1 bx_2 bx_19 bx_20 bx_21 bx_22 bx_23 bx_24 bx_25 bx_reg bs_2 bs_19 bs_20 bs_22 bs_23 bs_24 bs_25 bs_reg bx_regg bg_0 bg_1 bg_2 bg_19 bg_20 bg_21 bg_22 bg_23 bg_24 bg_25
theorem Wo_do {code : List Int} {inp : ByteArray} {s : PS} {go gm : Nat} (op na nb nc : Nat) (hs : Ma.Ok inp.size s) (hen : s.en = 0) (hr : rightI ⟨op, na, nb, nc⟩ = true) (hpc : s.pc ≤ 4294967295) (hml : s.mem.length ≤ 1048576) (hil : inp.size ≤ 1048576)
    {all : Array Oper} {os : List Oper} {fr : Nat → AV} {hp : Hp} {Q : AS → Prop} {pos : String} {aft : Array Edge} (M : Mst code inp s go gm hp) (h65 : fr 65 = .ptr ⟨0, 13, 0⟩ 1 0) (h66 : fr 66 = .agg [iv op, iv na, iv nb, iv nc])
    (rest : ∀ hp' go' gm', Mst code inp { doP code (inpF inp) s ⟨op, na, nb, nc⟩ with en := 0 } go' gm' hp' → (∀ y : Nm, y.d = 0 → y.i ≠ 13 → hp' y = hp y) → Wo Tryz.prog E00 2 (lim Tryz.prog E00 X00) all os ⟨setd fr (some 67) (iv (doP code (inpF inp) s ⟨op, na, nb, nc⟩).en), hp'⟩ Q) :
    Wo Tryz.prog E00 2 (lim Tryz.prog E00 X00) all (⟨some 67, .call { callee := .value (.func 363), args := #[.tmp 65, .tmp 66], argTypes := #[345, 119] }, 3, pos, aft, none⟩ :: os) ⟨fr, hp⟩ Q := by
  obtain ⟨hp', go', gm', h1, M', h3⟩ := m363 op na nb nc hs hen hr hpc hml hil hs.ol M 67
  refine Wo_u ?_ (rest hp' go' gm' M' h3)
  simp only [evOp, opA, callP, okFn_363, if_true, E00_hp, List.map_cons, List.map_nil, h65, h66, List.append_nil, Option.getD_some]
  simp [Prog.run, h1]
set_option maxHeartbeats 4000000 in
theorem m287_o {code : List Int} {inp : ByteArray} {pc : Int} {rg : List Int} {M : AV} {rd steps en : Int} {o : Bool} {go no : Nat} (hcx : (code.length : Int) ≤ pc) (hpc0 : 0 ≤ pc) (hpc1 : pc ≤ 4294967296) (hen : en = 0)  (hrl : rg.length = 16) (d : Nat) (hp1 : Hp) (hx : hp1 ⟨0, 13, 0⟩ = .box 1 (bxP code inp pc rg M rd steps en o go no) false)  :
    ∃ hp', (lim Tryz.prog E00 X00).hpc 1 d 287 [.ptr ⟨0, 13, 0⟩ 1 0] hp1 = some (bv false, hp') ∧ hp' ⟨0, 13, 0⟩ = .box 1 (bxP code inp pc rg M rd steps 7 o go no) false ∧ ∀ y : Nm, y.d = 0 → y ≠ ⟨0, 13, 0⟩ → hp' y = hp1 y := by
  refine unkey ?_
  refine lim_hpcW Tryz.func287 rfl rfl bodyOk_287 rfl rfl ?_
  have hNA := fun (k : Nat) (h : k < 16) => (⟨by omega, by omega⟩ : 3 + k ≤ 25 ∧ 3 + k < 26)
  try have hA := hNA _ ha
  try have hB := hNA _ hb16
  try have hC := hNA _ hc16
  clear hNA
  try have hga' := getV hga
  try have hgb' := getV hgb
  try have hgc' := getV hgc
  subst hen
  have q0 : ¬ pc < 0 := by omega
  exact step2
set_option maxHeartbeats 4000000 in
theorem m287_b {code : List Int} {inp : ByteArray} {pc : Int} {rg : List Int} {M : AV} {rd steps en : Int} {o : Bool} {go no : Nat} (pn : Nat) (hpn : pc = pn) (w : Int) (hw : code[pn]? = some w) (hwU : Ma.U w) (hr : rightI (insW w) = false) (stn : Nat) (hst : steps = stn) (hst1 : stn < 9223372036854775806) (hpc0 : 0 ≤ pc) (hpc1 : pc ≤ 4294967296) (hen : en = 0)  (hrl : rg.length = 16) (d : Nat) (hp1 : Hp) (hx : hp1 ⟨0, 13, 0⟩ = .box 1 (bxP code inp pc rg M rd steps en o go no) false)  :
    ∃ hp', (lim Tryz.prog E00 X00).hpc 1 d 287 [.ptr ⟨0, 13, 0⟩ 1 0] hp1 = some (bv true, hp') ∧ hp' ⟨0, 13, 0⟩ = .box 1 (bxP code inp pc rg M rd ((stn : Int) + 1) 6 o go no) false ∧ ∀ y : Nm, y.d = 0 → y ≠ ⟨0, 13, 0⟩ → hp' y = hp1 y := by
  refine unkey ?_
  refine lim_hpcW Tryz.func287 rfl rfl bodyOk_287 rfl rfl ?_
  have hNA := fun (k : Nat) (h : k < 16) => (⟨by omega, by omega⟩ : 3 + k ≤ 25 ∧ 3 + k < 26)
  try have hA := hNA _ ha
  try have hB := hNA _ hb16
  try have hC := hNA _ hc16
  clear hNA
  try have hga' := getV hga
  try have hgb' := getV hgb
  try have hgc' := getV hgc
  subst hen hpn hst
  have q0 : ¬ (pn : Int) < 0 := by omega
  have q1 : ¬ (code.length : Int) ≤ pn := by have := (List.getElem?_eq_some_iff.1 hw).1; omega
  have q2 : pn < code.length := (List.getElem?_eq_some_iff.1 hw).1
  have q3 := getV hw
  have q4 := wrapN (k := stn) (by omega)
  have h362 := m362 w hwU
  unfold decP at h362
  rw [hr] at h362
  simp only [Bool.false_eq_true, if_false] at h362
  have q5 : ∀ h, (rowW code)[pn]'h = [uv w] := fun h => by rw [List.getElem_map, q3]
  exact step2
end Go.Proofs.YtaeeffddinppeaaGreatDoor
namespace Go.Proofs.YtaeeffddinppeaaGreatDoor
open Go Go.Ab Go.Ma
attribute [-simp] Prog.bind getCs putCs
attribute [local simp ↓] run_bind
attribute [local simp ↓] runF_bind
attribute [local simp] run_getCsN runF_getCsN facetsC putCs_one run_putCsN
attribute [local simp] take1 bx_len bx_0 bx_1 bx_2 bx_19 bx_20 bx_21 bx_22 bx_23 bx_24 bx_25 bx_reg bs_2 bs_19 bs_20 bs_22 bs_23 bs_24 bs_25 bs_reg bx_regg bg_0 bg_1 bg_2 bg_19 bg_20 bg_21 bg_22 bg_23 bg_24 bg_25
set_option maxHeartbeats 8000000 in
theorem m287_d {code : List Int} {inp : ByteArray} {s : PS} {go gm : Nat} (w : Int) (hw : code[s.pc.toNat]? = some w) (hwU : Ma.U w) (hr : rightI (insW w) = true) (hs : Ma.Ok inp.size s) (hen : s.en = 0) (hml : s.mem.length ≤ 1048576) (hil : inp.size ≤ 1048576) (hcl : code.length ≤ 1048576) (hst1 : s.steps < 9223372036854775806)
    {hp1 : Hp} (M : Mst code inp s go gm hp1) (hcU : ∀ x ∈ code, Ma.U x) (hin : ∀ k b, inpF inp k = some b → k < inp.size ∧ 0 ≤ b ∧ b < 256) (d : Nat) :
    ∃ hp' go' gm', (lim Tryz.prog E00 X00).hpc 1 d 287 [.ptr ⟨0, 13, 0⟩ 1 0] hp1 = some (bv true, hp') ∧ Mst code inp (doP code (inpF inp) { s with steps := s.steps + 1 } (insW w)) go' gm' hp' ∧ ∀ y : Nm, y.d = 0 → y.i ≠ 13 → hp' y = hp1 y := by
  have key : ∃ z hp', (lim Tryz.prog E00 X00).hpc 1 d 287 [.ptr ⟨0, 13, 0⟩ 1 0] hp1 = some (z, hp') ∧ (z = bv true ∧ ∃ go' gm', Mst code inp (doP code (inpF inp) { s with steps := s.steps + 1 } (insW w)) go' gm' hp' ∧ ∀ y : Nm, y.d = 0 → y.i ≠ 13 → hp' y = hp1 y) := by
    refine lim_hpcW (R := fun z hp' => z = bv true ∧ ∃ go' gm', Mst code inp (doP code (inpF inp) { s with steps := s.steps + 1 } (insW w)) go' gm' hp' ∧ ∀ y : Nm, y.d = 0 → y.i ≠ 13 → hp' y = hp1 y) Tryz.func287 rfl rfl bodyOk_287 rfl rfl ?_
    have hs1 : Ma.Ok inp.size { s with steps := s.steps + 1 } := { pc0 := hs.pc0, pc1 := hs.pc1, rl := hs.rl, ru := hs.ru, mu := hs.mu, rd := hs.rd, ou := hs.ou, ol := hs.ol, en0 := hs.en0, en1 := hs.en1 }
    obtain ⟨pn, hpn⟩ : ∃ pn : Nat, s.pc = pn := ⟨s.pc.toNat, (Int.toNat_of_nonneg hs.pc0).symm⟩
    have hx := M.bx
    rw [hpn, Int.toNat_natCast] at hw
    rw [hpn, hen] at hx
    have hrl := hs.rl
    have q0 : ¬ (pn : Int) < 0 := by omega
    have q2 : pn < code.length := (List.getElem?_eq_some_iff.1 hw).1
    have q1 : ¬ (code.length : Int) ≤ pn := by omega
    have q3 := getV hw
    have q4 := wrapN (k := s.steps) (by omega)
    have h362 := m362 w hwU
    have hins : insW w = ⟨((w / 16777216).toNat : Int), ((w / 1048576 % 16).toNat : Int), ((w / 65536 % 16).toNat : Int), ((w % 65536).toNat : Int)⟩ := by
      unfold insW; unfold Ma.U at hwU
      congr 1 <;> omega
    unfold decP at h362
    rw [hr] at h362
    simp only [if_true] at h362
    have hok : Ma.Ok inp.size (doP code (inpF inp) { s with steps := s.steps + 1 } (insW w)) := doP_ok hs1 hcU hin hr (by show s.pc + 1 ≤ _; omega)
    rw [hins] at h362 hr hok ⊢
    simp only at h362
    generalize (w / 16777216).toNat = op at *
    generalize (w / 1048576 % 16).toNat = na at *
    generalize (w / 65536 % 16).toNat = nb at *
    generalize (w % 65536).toNat = nc at *
    clear hins
    have q5 : ∀ h, (rowW code)[pn]'h = [uv w] := fun h => by rw [List.getElem_map, q3]
    have hMo := M.out
    repeat' (first | ((with_reducible first | apply Wo_u | apply Wo_n | apply ex2 | apply W_sc | apply W_c | apply Wd_u | apply Wd_n | apply ex4 | apply EndQ_ret | apply EndQ_normal); (conv => lhs; simp -implicitDefEqProofs [*]) <;> exact rfl) | (with_reducible first | apply Wo_nil | apply W_ss | apply W_srl | apply W_rl | apply W_sblock | apply W_block | apply W_sskip | apply W_skip | apply W_sret | apply W_ret | apply W_sexit | apply W_exit | apply thenW_n | apply thenW_r | apply thenW_e | apply inB_n | apply inB_r | apply inB_e) | ((with_reducible apply Wo_gt); (exact rfl); ((conv => lhs; simp -implicitDefEqProofs [*]) <;> exact rfl); (conv => lhs; simp -implicitDefEqProofs [*]) <;> exact rfl) | ((with_reducible apply Wo_gf); (exact rfl); ((conv => lhs; simp -implicitDefEqProofs [*]) <;> exact rfl); (exact rfl)) | ((with_reducible apply Wo_gx); (exact rfl); ((conv => lhs; simp -implicitDefEqProofs [*]) <;> exact rfl)) | ((with_reducible apply Wo_gsT); (exact rfl); ((conv => lhs; simp -implicitDefEqProofs [*]) <;> exact rfl)) | ((with_reducible apply Wo_gsF); (exact rfl); ((conv => lhs; simp -implicitDefEqProofs [*]) <;> exact rfl)) | ((with_reducible apply Wd_gsT); (exact rfl); ((conv => lhs; simp -implicitDefEqProofs [*]) <;> exact rfl)) | ((with_reducible apply Wd_gsF); (exact rfl); ((conv => lhs; simp -implicitDefEqProofs [*]) <;> exact rfl)) | ((with_reducible first | apply W_srdl | apply W_rdl); kernel_rfl) | ((with_reducible apply Wd_nil); kernel_rfl) | ((with_reducible apply inB_o); rotate_left; exact rfl) | (intro h h'; try simp [*, -h] at h') | ((with_reducible apply Wd_gx); (exact rfl); ((conv => lhs; simp -implicitDefEqProofs [*]) <;> exact rfl)))
    all_goals
      refine Wo_do op na nb nc hs1 hen hr (by show s.pc ≤ _; omega) hml hil (code := code) (go := go) (gm := gm) ⟨by simp [*], by simp [*], fun h => by have := M.mem h; simp [*]⟩ (by simp) (by simp) ?_
      intro hp2 go2 gm2 M2 h32
      have hx2 := M2.bx
      have hrl2 := hok.rl
      have ho2 := M2.out
      have hm2 := M2.mem
      simp only at hx2 ho2 hm2
      clear hs1 hok hcU hin h362 M2 hx
      generalize doP code (inpF inp) { s with steps := s.steps + 1 } ⟨(op : Int), na, nb, nc⟩ = t at *
      have hb := bne_dec t.en 0
      by_cases he : t.en = 0
      all_goals simp only [he, ne_eq, not_true, not_false_iff, decide_true, decide_false] at hb
      all_goals
        repeat' (first | ((with_reducible first | apply Wo_u | apply Wo_n | apply ex2 | apply W_sc | apply W_c | apply Wd_u | apply Wd_n | apply ex4 | apply EndQ_ret | apply EndQ_normal); (conv => lhs; simp -implicitDefEqProofs [*]) <;> exact rfl) | (with_reducible first | apply Wo_nil | apply W_ss | apply W_srl | apply W_rl | apply W_sblock | apply W_block | apply W_sskip | apply W_skip | apply W_sret | apply W_ret | apply W_sexit | apply W_exit | apply thenW_n | apply thenW_r | apply thenW_e | apply inB_n | apply inB_r | apply inB_e) | ((with_reducible apply Wo_gt); (exact rfl); ((conv => lhs; simp -implicitDefEqProofs [*]) <;> exact rfl); (conv => lhs; simp -implicitDefEqProofs [*]) <;> exact rfl) | ((with_reducible apply Wo_gf); (exact rfl); ((conv => lhs; simp -implicitDefEqProofs [*]) <;> exact rfl); (exact rfl)) | ((with_reducible apply Wo_gx); (exact rfl); ((conv => lhs; simp -implicitDefEqProofs [*]) <;> exact rfl)) | ((with_reducible apply Wo_gsT); (exact rfl); ((conv => lhs; simp -implicitDefEqProofs [*]) <;> exact rfl)) | ((with_reducible apply Wo_gsF); (exact rfl); ((conv => lhs; simp -implicitDefEqProofs [*]) <;> exact rfl)) | ((with_reducible apply Wd_gsT); (exact rfl); ((conv => lhs; simp -implicitDefEqProofs [*]) <;> exact rfl)) | ((with_reducible apply Wd_gsF); (exact rfl); ((conv => lhs; simp -implicitDefEqProofs [*]) <;> exact rfl)) | ((with_reducible first | apply W_srdl | apply W_rdl); kernel_rfl) | ((with_reducible apply Wd_nil); kernel_rfl) | ((with_reducible apply inB_o); rotate_left; exact rfl) | (intro h h'; try simp [*, -h] at h') | ((with_reducible apply Wd_gx); (exact rfl); ((conv => lhs; simp -implicitDefEqProofs [*]) <;> exact rfl)))
      · exact ⟨by simp, _, _, rfl, rfl, go2, gm2, ⟨by simp [*], by simp [*], fun h => by have := hm2 h; simp [*]⟩, fun y h0 h1 => by have h3 := h32 y h0 h1; exact (by have e1 : ∀ k i, y ≠ ⟨k + 1, i, 0⟩ := fun k i e => (by subst e; simp at h0); have e2 : ∀ i, y ≠ ⟨1, i, 0⟩ := fun i => e1 0 i; have e3 : ∀ i, y ≠ ⟨2, i, 0⟩ := fun i => e1 1 i; have e4 : ∀ i, y ≠ ⟨3, i, 0⟩ := fun i => e1 2 i; have e5 : ∀ i, y ≠ ⟨4, i, 0⟩ := fun i => e1 3 i; (have e6 : y ≠ ⟨0, 13, 0⟩ := ne13 h1 rfl; simp [*]))⟩
      · exact ⟨by simp, _, _, rfl, rfl, go2, gm2, ⟨by simp [*], by simp [*], fun h => by have := hm2 h; simp [*]⟩, fun y h0 h1 => by have h3 := h32 y h0 h1; exact (by have e1 : ∀ k i, y ≠ ⟨k + 1, i, 0⟩ := fun k i e => (by subst e; simp at h0); have e2 : ∀ i, y ≠ ⟨1, i, 0⟩ := fun i => e1 0 i; have e3 : ∀ i, y ≠ ⟨2, i, 0⟩ := fun i => e1 1 i; have e4 : ∀ i, y ≠ ⟨3, i, 0⟩ := fun i => e1 2 i; have e5 : ∀ i, y ≠ ⟨4, i, 0⟩ := fun i => e1 3 i; (have e6 : y ≠ ⟨0, 13, 0⟩ := ne13 h1 rfl; simp [*]))⟩
  obtain ⟨z, hp', h1, rfl, go', gm', h2⟩ := key
  exact ⟨hp', go', gm', h1, h2⟩
end Go.Proofs.YtaeeffddinppeaaGreatDoor
