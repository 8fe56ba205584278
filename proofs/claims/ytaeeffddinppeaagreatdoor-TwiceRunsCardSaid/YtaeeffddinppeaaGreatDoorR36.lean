/- A part of the proof: Vj. -/
import Derived.Test.YtaeeffddinppeaaGreatDoorR33
import Derived.Test.YtaeeffddinppeaaGreatDoorR34
import Derived.Test.YtaeeffddinppeaaGreatDoorR35
import Derived.Test.YtaeeffddinppeaaGreatDoorR14
set_option linter.unusedSimpArgs false
set_option linter.unusedVariables false
namespace Go.Proofs.YtaeeffddinppeaaGreatDoor
open Go Go.Ab
structure RSt (code : List Int) (inp : ByteArray) (s : Ma.PS) (gm go : Nat) (hp : Hp) : Prop where
  bx : hp ⟨0, 13, 0⟩ = .box 1 (bxR code inp s.pc s.rg gm s.mem.length s.rd s.steps s.en go s.out.length 2 2 2 code.length) false
  mem : hp ⟨0, 13, 18⟩ = .arr gm 1 32 (rowW s.mem) false
  out : hp ⟨0, 13, 23⟩ = .arr go 1 5 (rowB s.out) false
  cd : hp ⟨0, 13, 24⟩ = .arr 2 4 119 (rowD code) false
  ok : hp ⟨0, 13, 25⟩ = .arr 2 1 4 (rowK code) false
  ct : ∃ cs : List Int, cs.length = code.length ∧ hp ⟨0, 13, 28⟩ = .arr 2 1 3 (rowIx cs) false
theorem fin2 {code : List Int} {inp : ByteArray} {s t : Ma.PS} {gm go : Nat} {hp1 hp' : Hp} (M : RSt code inp s gm go hp1) (hct : ∃ cs : List Int, cs.length = code.length ∧ hp' ⟨0, 13, 28⟩ = .arr 2 1 3 (rowIx cs) false)
    (hx : hp' ⟨0, 13, 0⟩ = .box 1 (bxR code inp t.pc t.rg gm t.mem.length t.rd t.steps t.en go t.out.length 2 2 2 code.length) false)
    (ho : t.out = s.out) (hm : t.mem = s.mem) (h3 : ∀ y : Nm, y.d = 0 → y ≠ ⟨0, 13, 0⟩ → y ≠ ⟨0, 13, 28⟩ → hp' y = hp1 y) : RSt code inp t gm go hp' ∧ ∀ y : Nm, y.d = 0 → y.i ≠ 13 → hp' y = hp1 y :=
  ⟨⟨hx, by rw [h3 _ rfl (by simp) (by simp), M.mem, hm], by rw [h3 _ rfl (by simp) (by simp), M.out, ho], by rw [h3 _ rfl (by simp) (by simp), M.cd], by rw [h3 _ rfl (by simp) (by simp), M.ok], hct⟩, fun y h0 h1 => h3 y h0 (ne13 h1 rfl) (ne13 h1 rfl)⟩
set_option maxHeartbeats 8000000 in
theorem s162 {code : List Int} {inp : ByteArray} {s : Ma.PS} {gm go : Nat} {hp1 : Hp} (hs : Ma.Ok inp.size s) (hen : s.en = 0) (hml : s.mem.length ≤ 1048576) (hil : inp.size ≤ 1048576) (hcl : code.length ≤ 1048576) (hst : s.steps < 9223372036854775806) (hcU : ∀ x ∈ code, Ma.U x)
    (M : RSt code inp s gm go hp1) (d : Nat) :
    ∃ hp' go', (lim Tryz.prog E47 X47).hpc 0 d 162 [.ptr ⟨0, 13, 0⟩ 1 0] hp1 = some (.tup [], hp') ∧ RSt code inp (Ma.stepP code (inpF inp) s) gm go' hp' ∧ ∀ y : Nm, y.d = 0 → y.i ≠ 13 → hp' y = hp1 y := by
  have h0 := hs.pc0
  have hrl := hs.rl
  obtain ⟨cs, hcl0, hcN⟩ := M.ct
  have hx := M.bx
  obtain ⟨pn, hpn⟩ : ∃ pn : Nat, (pn : Int) = s.pc := ⟨s.pc.toNat, Int.toNat_of_nonneg h0⟩
  have hpt : s.pc.toNat = pn := by omega
  unfold Ma.stepP
  rw [if_neg (by omega), hpt]
  cases hw : code[pn]? with
  | none =>
    have hcx : (code.length : Int) ≤ s.pc := by have := List.getElem?_eq_none_iff.1 hw; omega
    obtain ⟨hp', h1, h2, h3⟩ := s162_o hp1 hcx h0 hrl hx (rowD code) M.cd d
    exact ⟨hp', go, h1, fin2 (t := s.stop 7) M ⟨cs, hcl0, by rw [h3 _ rfl (by simp)]; exact hcN⟩ h2 rfl rfl (fun y h4 h5 _ => h3 y h4 h5)⟩
  | some w =>
    have hwU := hcU w (List.mem_of_getElem? hw)
    have hpl : pn < code.length := (List.getElem?_eq_some_iff.1 hw).1
    simp only [Option.elim_some]
    have hkp : (rowK code)[pn]? = some [bv (okR w)] := by rw [List.getElem?_map, hw]; rfl
    rw [okR_eq hwU] at hkp
    cases hr : Ma.rightI (Ma.insW w) with
    | false =>
      rw [hr] at hkp
      have hcp : (rowD code)[pn]? = some [iv 0, iv 0, iv 0, iv 0] := by
        rw [List.getElem?_map, hw]
        show some (decR w) = _
        unfold decR
        rw [if_neg (by have := (okR_eq hwU).trans hr; unfold okR at this; rw [this]; simp)]
      obtain ⟨hp', h1, hct, h2, h3⟩ := s162_b hp1 (rowD code) (rowK code) cs pn s.steps 0 0 0 0 hrl hpn.symm rfl hx M.cd (by simp) M.ok (by simp) hcN hcl0 hpl hcl hcp hkp hst d
      refine ⟨hp', go, h1, fin2 (t := { s with steps := s.steps + 1, en := 6 }) M hct ?_ rfl rfl h3⟩
      rw [h2, hpn]
      rfl
    | true =>
      rw [hr] at hkp
      have hcp : (rowD code)[pn]? = some [iv (Ma.insW w).op, iv (Ma.insW w).a, iv (Ma.insW w).b, iv (Ma.insW w).c] := by rw [List.getElem?_map, hw]; exact congrArg some (decR_ok hwU hr)
      simp only [if_true]
      have hins : Ma.insW w = ⟨((w / 16777216).toNat : Int), ((w / 1048576 % 16).toNat : Int), ((w / 65536 % 16).toNat : Int), ((w % 65536).toNat : Int)⟩ := by
        unfold Ma.insW; unfold Ma.U at hwU
        congr 1 <;> omega
      rw [hins] at hcp hr ⊢
      simp only at hcp
      generalize (w / 16777216).toNat = op at *
      generalize (w / 1048576 % 16).toNat = na at *
      generalize (w / 65536 % 16).toNat = nb at *
      generalize (w % 65536).toNat = nc at *
      clear hins hw
      obtain ⟨⟨o1, o2⟩, ⟨_, a1⟩, ⟨_, b1⟩, ⟨_, c1⟩, c2⟩ := Ma.right_bounds hr
      simp only at o1 o2 a1 b1 c1 c2
      have ha : na < 16 := by omega
      have hb : nb < 16 := by omega
      have hnc : nc ≤ 65535 := by omega
      have hga := hs.reg (a := (na : Int)) (by omega) (by omega)
      have hgb := hs.reg (a := (nb : Int)) (by omega) (by omega)
      have hol := hs.ol
      simp only [Int.toNat_natCast] at hga hgb
      obtain ⟨xa, hxa⟩ : ∃ xa, s.reg na = xa := ⟨_, rfl⟩
      obtain ⟨xb, hxb⟩ : ∃ xb, s.reg nb = xb := ⟨_, rfl⟩
      rw [hxa] at hga
      rw [hxb] at hgb
      obtain ⟨at_, hat⟩ : ∃ at_ : Nat, ((xb + nc) % 4294967296).toNat = at_ := ⟨_, rfl⟩
      have hat' : (xb + nc) % 4294967296 = (at_ : Int) := by rw [← hat]; exact at_of xb nc
      have hpc1 : (pn : Int) = s.pc := hpn
      obtain ⟨pc, rg, mem, rd, out, steps, en, own⟩ := s
      simp only at hen hpn hml hst hol hx hrl hga hgb
      subst hen
      subst hpn
      clear hpt hpc1
      by_cases h415 : 4 ≤ op ∧ op ≤ 15
      · have hc16 : nc < 16 := by have := c2 (by omega) (by omega); omega
        have hgc := hs.reg (a := (nc : Int)) (by omega) (by omega)
        simp only [Int.toNat_natCast] at hgc
        obtain ⟨xc, hxc⟩ : ∃ xc, Ma.PS.reg ⟨(pn : Int), rg, mem, rd, out, steps, 0, own⟩ nc = xc := ⟨_, rfl⟩
        rw [hxc] at hgc
        have hd : Ma.doP code (inpF inp) ⟨(pn : Int), rg, mem, rd, out, steps + 1, 0, own⟩ ⟨op, na, nb, nc⟩ = (Ma.apP op xb xc).elim (Ma.PS.stop ⟨(pn : Int), rg, mem, rd, out, steps + 1, 0, own⟩ 2) fun x => Ma.PS.setR ⟨(pn : Int), rg, mem, rd, out, steps + 1, 0, own⟩ na x := by
          have e1 : Ma.PS.reg ⟨(pn : Int), rg, mem, rd, out, steps + 1, 0, own⟩ nb = xb := hxb
          have e2 : Ma.PS.reg ⟨(pn : Int), rg, mem, rd, out, steps + 1, 0, own⟩ nc = xc := hxc
          unfold Ma.doP
          simp only [e1, e2]
          rw [if_neg (by omega), if_neg (by omega), if_neg (by omega), if_neg (by omega), if_neg (by omega), if_neg (by omega), if_neg (by omega), if_neg (by omega), if_neg (by omega), if_neg (by omega), if_neg (by omega), if_neg (by omega), if_neg (by omega), if_neg (by omega), if_neg (by omega)]
        show ∃ hp' go', _ ∧ RSt code inp (Ma.doP code (inpF inp) ⟨(pn : Int), rg, mem, rd, out, steps + 1, 0, own⟩ ⟨op, na, nb, nc⟩) gm go' hp' ∧ _
        rw [hd]
        cases hv : Ma.apP op xb xc with
        | none =>
          obtain ⟨hp', h1, hct, h2, h3⟩ := s162_opo hp1 (rowD code) (rowK code) cs na nb nc pn steps xa xb op h415.1 h415.2 xc hc16 hgc.1 hgb.2 hgc.2 hv hrl rfl rfl hx M.cd (by simp) M.ok (by simp) hcN hcl0 hpl hcl hcp hkp hst ha hb hga.1 hgb.1 d
          exact ⟨hp', go, h1, fin2 (t := Ma.PS.stop ⟨(pn : Int), rg, mem, rd, out, steps + 1, 0, own⟩ 2) M hct (by first | exact h2 | simpa [Ma.PS.stop, Ma.PS.setR, Ma.PS.goto] using h2) rfl rfl h3⟩
        | some v =>
          obtain ⟨hp', h1, hct, h2, h3⟩ := s162_opi hp1 (rowD code) (rowK code) cs na nb nc pn steps xa xb op h415.1 h415.2 xc hc16 hgc.1 hgb.2 hgc.2 v hv hrl rfl rfl hx M.cd (by simp) M.ok (by simp) hcN hcl0 hpl hcl hcp hkp hst ha hb hga.1 hgb.1 d
          exact ⟨hp', go, h1, fin2 (t := Ma.PS.setR ⟨(pn : Int), rg, mem, rd, out, steps + 1, 0, own⟩ na v) M hct (by first | exact h2 | simpa [Ma.PS.stop, Ma.PS.setR, Ma.PS.goto] using h2) rfl rfl h3⟩
      have hop : op = 1 ∨ op = 2 ∨ op = 3 ∨ op = 16 ∨ op = 17 ∨ op = 18 ∨ op = 19 ∨ op = 20 ∨ op = 21 ∨ op = 22 ∨ op = 23 ∨ op = 24 ∨ op = 25 ∨ op = 26 ∨ op = 27 := by omega
      rcases hop with rfl | rfl | rfl | rfl | rfl | rfl | rfl | rfl | rfl | rfl | rfl | rfl | rfl | rfl | rfl
      · have hd : Ma.doP code (inpF inp) ⟨(pn : Int), rg, mem, rd, out, steps + 1, 0, own⟩ ⟨(1 : Nat), na, nb, nc⟩ = Ma.PS.setR ⟨(pn : Int), rg, mem, rd, out, steps + 1, 0, own⟩ na ((nc : Int)) := by rfl
        show ∃ hp' go', _ ∧ RSt code inp (Ma.doP code (inpF inp) ⟨(pn : Int), rg, mem, rd, out, steps + 1, 0, own⟩ ⟨(1 : Nat), na, nb, nc⟩) gm go' hp' ∧ _
        rw [hd]
        obtain ⟨hp', h1, hct, h2, h3⟩ := s162_1 hp1 (rowD code) (rowK code) cs na nb nc pn steps xa xb hnc hrl rfl rfl hx M.cd (by simp) M.ok (by simp) hcN hcl0 hpl hcl hcp hkp hst ha hb hga.1 hgb.1 d
        exact ⟨hp', go, h1, fin2 (t := Ma.PS.setR ⟨(pn : Int), rg, mem, rd, out, steps + 1, 0, own⟩ na ((nc : Int))) M hct (by first | exact h2 | simpa [Ma.PS.stop, Ma.PS.setR, Ma.PS.goto] using h2) rfl rfl h3⟩
      · have hd : Ma.doP code (inpF inp) ⟨(pn : Int), rg, mem, rd, out, steps + 1, 0, own⟩ ⟨(2 : Nat), na, nb, nc⟩ = Ma.PS.setR ⟨(pn : Int), rg, mem, rd, out, steps + 1, 0, own⟩ na (xa % 65536 + (nc : Int) * 65536) := by rw [← hxa]; rfl
        show ∃ hp' go', _ ∧ RSt code inp (Ma.doP code (inpF inp) ⟨(pn : Int), rg, mem, rd, out, steps + 1, 0, own⟩ ⟨(2 : Nat), na, nb, nc⟩) gm go' hp' ∧ _
        rw [hd]
        obtain ⟨hp', h1, hct, h2, h3⟩ := s162_2 hp1 (rowD code) (rowK code) cs na nb nc pn steps xa xb hnc hga.2 hrl rfl rfl hx M.cd (by simp) M.ok (by simp) hcN hcl0 hpl hcl hcp hkp hst ha hb hga.1 hgb.1 d
        exact ⟨hp', go, h1, fin2 (t := Ma.PS.setR ⟨(pn : Int), rg, mem, rd, out, steps + 1, 0, own⟩ na (xa % 65536 + (nc : Int) * 65536)) M hct (by first | exact h2 | simpa [Ma.PS.stop, Ma.PS.setR, Ma.PS.goto] using h2) rfl rfl h3⟩
      · have hd : Ma.doP code (inpF inp) ⟨(pn : Int), rg, mem, rd, out, steps + 1, 0, own⟩ ⟨(3 : Nat), na, nb, nc⟩ = Ma.PS.setR ⟨(pn : Int), rg, mem, rd, out, steps + 1, 0, own⟩ na (xb) := by rw [← hxb]; rfl
        show ∃ hp' go', _ ∧ RSt code inp (Ma.doP code (inpF inp) ⟨(pn : Int), rg, mem, rd, out, steps + 1, 0, own⟩ ⟨(3 : Nat), na, nb, nc⟩) gm go' hp' ∧ _
        rw [hd]
        obtain ⟨hp', h1, hct, h2, h3⟩ := s162_3 hp1 (rowD code) (rowK code) cs na nb nc pn steps xa xb  hrl rfl rfl hx M.cd (by simp) M.ok (by simp) hcN hcl0 hpl hcl hcp hkp hst ha hb hga.1 hgb.1 d
        exact ⟨hp', go, h1, fin2 (t := Ma.PS.setR ⟨(pn : Int), rg, mem, rd, out, steps + 1, 0, own⟩ na (xb)) M hct (by first | exact h2 | simpa [Ma.PS.stop, Ma.PS.setR, Ma.PS.goto] using h2) rfl rfl h3⟩
      · have hd : Ma.doP code (inpF inp) ⟨(pn : Int), rg, mem, rd, out, steps + 1, 0, own⟩ ⟨(16 : Nat), na, nb, nc⟩ = mem[at_]?.elim (Ma.PS.stop ⟨(pn : Int), rg, mem, rd, out, steps + 1, 0, own⟩ 8) fun x => Ma.PS.setR ⟨(pn : Int), rg, mem, rd, out, steps + 1, 0, own⟩ na (x) := by rw [← hat, ← hxb]; rfl
        show ∃ hp' go', _ ∧ RSt code inp (Ma.doP code (inpF inp) ⟨(pn : Int), rg, mem, rd, out, steps + 1, 0, own⟩ ⟨(16 : Nat), na, nb, nc⟩) gm go' hp' ∧ _
        rw [hd]
        cases hv : mem[at_]? with
        | none =>
          obtain ⟨hp', h1, hct, h2, h3⟩ := s162_16o hp1 (rowD code) (rowK code) cs na nb nc pn steps xa xb hnc at_ hat' mem rfl hml M.mem (List.getElem?_eq_none_iff.1 hv) hrl rfl rfl hx M.cd (by simp) M.ok (by simp) hcN hcl0 hpl hcl hcp hkp hst ha hb hga.1 hgb.1 d
          exact ⟨hp', go, h1, fin2 (t := Ma.PS.stop ⟨(pn : Int), rg, mem, rd, out, steps + 1, 0, own⟩ 8) M hct (by first | exact h2 | simpa [Ma.PS.stop, Ma.PS.setR, Ma.PS.goto] using h2) rfl rfl h3⟩
        | some x =>
          obtain ⟨hp', h1, hct, h2, h3⟩ := s162_16i hp1 (rowD code) (rowK code) cs na nb nc pn steps xa xb hnc at_ hat' mem rfl hml M.mem x hv hrl rfl rfl hx M.cd (by simp) M.ok (by simp) hcN hcl0 hpl hcl hcp hkp hst ha hb hga.1 hgb.1 d
          exact ⟨hp', go, h1, fin2 (t := Ma.PS.setR ⟨(pn : Int), rg, mem, rd, out, steps + 1, 0, own⟩ na (x)) M hct (by first | exact h2 | simpa [Ma.PS.stop, Ma.PS.setR, Ma.PS.goto] using h2) rfl rfl h3⟩
      · have hd : Ma.doP code (inpF inp) ⟨(pn : Int), rg, mem, rd, out, steps + 1, 0, own⟩ ⟨(17 : Nat), na, nb, nc⟩ = if at_ < mem.length then ⟨(pn : Int) + 1, rg, mem.set at_ xa, rd, out, steps + 1, 0, true⟩ else Ma.PS.stop ⟨(pn : Int), rg, mem, rd, out, steps + 1, 0, own⟩ 8 := by rw [← hat, ← hxb, ← hxa]; rfl
        show ∃ hp' go', _ ∧ RSt code inp (Ma.doP code (inpF inp) ⟨(pn : Int), rg, mem, rd, out, steps + 1, 0, own⟩ ⟨(17 : Nat), na, nb, nc⟩) gm go' hp' ∧ _
        rw [hd]
        by_cases hcx : at_ < mem.length
        · rw [if_pos hcx]
          obtain ⟨hp', h1, hct, h2, h4, h3⟩ := s162_17i hp1 (rowD code) (rowK code) cs na nb nc pn steps xa xb hnc at_ hat' mem rfl hml M.mem hcx hrl rfl rfl hx M.cd (by simp) M.ok (by simp) hcN hcl0 hpl hcl hcp hkp hst ha hb hga.1 hgb.1 d
          refine ⟨hp', go, h1, ⟨by simpa using h2, h4, ?_, ?_, ?_, hct⟩, fun y h0 h1 => h3 y h0 (ne13 h1 rfl) (ne13 h1 rfl) (ne13 h1 rfl)⟩
          · rw [h3 _ rfl (by simp) (by simp) (by simp)]; exact M.out
          · rw [h3 _ rfl (by simp) (by simp) (by simp)]; exact M.cd
          · rw [h3 _ rfl (by simp) (by simp) (by simp)]; exact M.ok
        · rw [if_neg hcx]
          obtain ⟨hp', h1, hct, h2, h3⟩ := s162_17o hp1 (rowD code) (rowK code) cs na nb nc pn steps xa xb hnc at_ hat' mem rfl hml M.mem (by omega) hrl rfl rfl hx M.cd (by simp) M.ok (by simp) hcN hcl0 hpl hcl hcp hkp hst ha hb hga.1 hgb.1 d
          exact ⟨hp', go, h1, fin2 (t := Ma.PS.stop ⟨(pn : Int), rg, mem, rd, out, steps + 1, 0, own⟩ 8) M hct (by first | exact h2 | simpa [Ma.PS.stop, Ma.PS.setR, Ma.PS.goto] using h2) rfl rfl h3⟩
      · have hd : Ma.doP code (inpF inp) ⟨(pn : Int), rg, mem, rd, out, steps + 1, 0, own⟩ ⟨(18 : Nat), na, nb, nc⟩ = Ma.PS.goto ⟨(pn : Int), rg, mem, rd, out, steps + 1, 0, own⟩ (nc : Int) := by rfl
        show ∃ hp' go', _ ∧ RSt code inp (Ma.doP code (inpF inp) ⟨(pn : Int), rg, mem, rd, out, steps + 1, 0, own⟩ ⟨(18 : Nat), na, nb, nc⟩) gm go' hp' ∧ _
        rw [hd]
        obtain ⟨hp', h1, hct, h2, h3⟩ := s162_18 hp1 (rowD code) (rowK code) cs na nb nc pn steps xa xb  hrl rfl rfl hx M.cd (by simp) M.ok (by simp) hcN hcl0 hpl hcl hcp hkp hst ha hb hga.1 hgb.1 d
        exact ⟨hp', go, h1, fin2 (t := Ma.PS.goto ⟨(pn : Int), rg, mem, rd, out, steps + 1, 0, own⟩ (nc : Int)) M hct (by first | exact h2 | simpa [Ma.PS.stop, Ma.PS.setR, Ma.PS.goto] using h2) rfl rfl h3⟩
      · have hd : Ma.doP code (inpF inp) ⟨(pn : Int), rg, mem, rd, out, steps + 1, 0, own⟩ ⟨(19 : Nat), na, nb, nc⟩ = Ma.PS.goto ⟨(pn : Int), rg, mem, rd, out, steps + 1, 0, own⟩ (if xa = 0 then (nc : Int) else (pn : Int) + 1) := by rw [← hxa]; rfl
        show ∃ hp' go', _ ∧ RSt code inp (Ma.doP code (inpF inp) ⟨(pn : Int), rg, mem, rd, out, steps + 1, 0, own⟩ ⟨(19 : Nat), na, nb, nc⟩) gm go' hp' ∧ _
        rw [hd]
        by_cases h0x : xa = 0
        · rw [if_pos h0x]
          obtain ⟨hp', h1, hct, h2, h3⟩ := s162_19t hp1 (rowD code) (rowK code) cs na nb nc pn steps xa xb h0x hrl rfl rfl hx M.cd (by simp) M.ok (by simp) hcN hcl0 hpl hcl hcp hkp hst ha hb hga.1 hgb.1 d
          exact ⟨hp', go, h1, fin2 (t := Ma.PS.goto ⟨(pn : Int), rg, mem, rd, out, steps + 1, 0, own⟩ (nc : Int)) M hct (by first | exact h2 | simpa [Ma.PS.stop, Ma.PS.setR, Ma.PS.goto] using h2) rfl rfl h3⟩
        · rw [if_neg h0x]
          obtain ⟨hp', h1, hct, h2, h3⟩ := s162_19f hp1 (rowD code) (rowK code) cs na nb nc pn steps xa xb h0x hrl rfl rfl hx M.cd (by simp) M.ok (by simp) hcN hcl0 hpl hcl hcp hkp hst ha hb hga.1 hgb.1 d
          exact ⟨hp', go, h1, fin2 (t := Ma.PS.goto ⟨(pn : Int), rg, mem, rd, out, steps + 1, 0, own⟩ ((pn : Int) + 1)) M hct (by first | exact h2 | simpa [Ma.PS.stop, Ma.PS.setR, Ma.PS.goto] using h2) rfl rfl h3⟩
      · have hd : Ma.doP code (inpF inp) ⟨(pn : Int), rg, mem, rd, out, steps + 1, 0, own⟩ ⟨(20 : Nat), na, nb, nc⟩ = Ma.PS.goto ⟨(pn : Int), rg, mem, rd, out, steps + 1, 0, own⟩ (if xa ≠ 0 then (nc : Int) else (pn : Int) + 1) := by rw [← hxa]; rfl
        show ∃ hp' go', _ ∧ RSt code inp (Ma.doP code (inpF inp) ⟨(pn : Int), rg, mem, rd, out, steps + 1, 0, own⟩ ⟨(20 : Nat), na, nb, nc⟩) gm go' hp' ∧ _
        rw [hd]
        by_cases h0x : xa ≠ 0
        · rw [if_pos h0x]
          obtain ⟨hp', h1, hct, h2, h3⟩ := s162_20t hp1 (rowD code) (rowK code) cs na nb nc pn steps xa xb h0x hrl rfl rfl hx M.cd (by simp) M.ok (by simp) hcN hcl0 hpl hcl hcp hkp hst ha hb hga.1 hgb.1 d
          exact ⟨hp', go, h1, fin2 (t := Ma.PS.goto ⟨(pn : Int), rg, mem, rd, out, steps + 1, 0, own⟩ (nc : Int)) M hct (by first | exact h2 | simpa [Ma.PS.stop, Ma.PS.setR, Ma.PS.goto] using h2) rfl rfl h3⟩
        · rw [if_neg h0x]
          obtain ⟨hp', h1, hct, h2, h3⟩ := s162_20f hp1 (rowD code) (rowK code) cs na nb nc pn steps xa xb (by simpa using h0x) hrl rfl rfl hx M.cd (by simp) M.ok (by simp) hcN hcl0 hpl hcl hcp hkp hst ha hb hga.1 hgb.1 d
          exact ⟨hp', go, h1, fin2 (t := Ma.PS.goto ⟨(pn : Int), rg, mem, rd, out, steps + 1, 0, own⟩ ((pn : Int) + 1)) M hct (by first | exact h2 | simpa [Ma.PS.stop, Ma.PS.setR, Ma.PS.goto] using h2) rfl rfl h3⟩
      · have hd : Ma.doP code (inpF inp) ⟨(pn : Int), rg, mem, rd, out, steps + 1, 0, own⟩ ⟨(21 : Nat), na, nb, nc⟩ = ⟨(nc : Int), rg.set na (((pn : Int) + 1) % 4294967296), mem, rd, out, steps + 1, 0, own⟩ := by rfl
        show ∃ hp' go', _ ∧ RSt code inp (Ma.doP code (inpF inp) ⟨(pn : Int), rg, mem, rd, out, steps + 1, 0, own⟩ ⟨(21 : Nat), na, nb, nc⟩) gm go' hp' ∧ _
        rw [hd]
        obtain ⟨hp', h1, hct, h2, h3⟩ := s162_21 hp1 (rowD code) (rowK code) cs na nb nc pn steps xa xb  hrl rfl rfl hx M.cd (by simp) M.ok (by simp) hcN hcl0 hpl hcl hcp hkp hst ha hb hga.1 hgb.1 d
        exact ⟨hp', go, h1, fin2 (t := ⟨(nc : Int), rg.set na (((pn : Int) + 1) % 4294967296), mem, rd, out, steps + 1, 0, own⟩) M hct (by first | exact h2 | simpa [Ma.PS.stop, Ma.PS.setR, Ma.PS.goto] using h2) rfl rfl h3⟩
      · have hd : Ma.doP code (inpF inp) ⟨(pn : Int), rg, mem, rd, out, steps + 1, 0, own⟩ ⟨(22 : Nat), na, nb, nc⟩ = Ma.PS.goto ⟨(pn : Int), rg, mem, rd, out, steps + 1, 0, own⟩ xa := by rw [← hxa]; rfl
        show ∃ hp' go', _ ∧ RSt code inp (Ma.doP code (inpF inp) ⟨(pn : Int), rg, mem, rd, out, steps + 1, 0, own⟩ ⟨(22 : Nat), na, nb, nc⟩) gm go' hp' ∧ _
        rw [hd]
        obtain ⟨hp', h1, hct, h2, h3⟩ := s162_22 hp1 (rowD code) (rowK code) cs na nb nc pn steps xa xb hga.2 hrl rfl rfl hx M.cd (by simp) M.ok (by simp) hcN hcl0 hpl hcl hcp hkp hst ha hb hga.1 hgb.1 d
        exact ⟨hp', go, h1, fin2 (t := Ma.PS.goto ⟨(pn : Int), rg, mem, rd, out, steps + 1, 0, own⟩ xa) M hct (by first | exact h2 | simpa [Ma.PS.stop, Ma.PS.setR, Ma.PS.goto] using h2) rfl rfl h3⟩
      · have hd : Ma.doP code (inpF inp) ⟨(pn : Int), rg, mem, rd, out, steps + 1, 0, own⟩ ⟨(23 : Nat), na, nb, nc⟩ = (inpF inp rd).elim (Ma.PS.setR ⟨(pn : Int), rg, mem, rd, out, steps + 1, 0, own⟩ na (256)) fun b => ⟨(pn : Int) + 1, rg.set na b, mem, rd + 1, out, steps + 1, 0, own⟩ := by rfl
        show ∃ hp' go', _ ∧ RSt code inp (Ma.doP code (inpF inp) ⟨(pn : Int), rg, mem, rd, out, steps + 1, 0, own⟩ ⟨(23 : Nat), na, nb, nc⟩) gm go' hp' ∧ _
        rw [hd]
        unfold inpF
        cases hv : inp.data[rd]? with
        | none =>
          obtain ⟨hp', h1, hct, h2, h3⟩ := s162_23o hp1 (rowD code) (rowK code) cs na nb nc pn steps xa xb rd rfl (by simpa using hv) hrl rfl rfl hx M.cd (by simp) M.ok (by simp) hcN hcl0 hpl hcl hcp hkp hst ha hb hga.1 hgb.1 d
          exact ⟨hp', go, h1, fin2 (t := Ma.PS.setR ⟨(pn : Int), rg, mem, rd, out, steps + 1, 0, own⟩ na (256)) M hct (by first | exact h2 | simpa [Ma.PS.stop, Ma.PS.setR, Ma.PS.goto] using h2) rfl rfl h3⟩
        | some b =>
          obtain ⟨hp', h1, hct, h2, h3⟩ := s162_23i hp1 (rowD code) (rowK code) cs na nb nc pn steps xa xb rd rfl b hv hil hrl rfl rfl hx M.cd (by simp) M.ok (by simp) hcN hcl0 hpl hcl hcp hkp hst ha hb hga.1 hgb.1 d
          exact ⟨hp', go, h1, fin2 (t := ⟨(pn : Int) + 1, rg.set na (b.toNat : Int), mem, rd + 1, out, steps + 1, 0, own⟩) M hct (by first | exact h2 | simpa [Ma.PS.stop, Ma.PS.setR, Ma.PS.goto] using h2) rfl rfl h3⟩
      · have hd : Ma.doP code (inpF inp) ⟨(pn : Int), rg, mem, rd, out, steps + 1, 0, own⟩ ⟨(24 : Nat), na, nb, nc⟩ = if 65536 ≤ out.length then Ma.PS.stop ⟨(pn : Int), rg, mem, rd, out, steps + 1, 0, own⟩ 4 else ⟨(pn : Int) + 1, rg, mem, rd, out ++ [xa % 256], steps + 1, 0, own⟩ := by rw [← hxa]; rfl
        show ∃ hp' go', _ ∧ RSt code inp (Ma.doP code (inpF inp) ⟨(pn : Int), rg, mem, rd, out, steps + 1, 0, own⟩ ⟨(24 : Nat), na, nb, nc⟩) gm go' hp' ∧ _
        rw [hd]
        by_cases hc : 65536 ≤ out.length
        · rw [if_pos hc]
          obtain ⟨hp', h1, hct, h2, h3⟩ := s162_24o hp1 (rowD code) (rowK code) cs na nb nc pn steps xa xb out rfl M.out hc hrl rfl rfl hx M.cd (by simp) M.ok (by simp) hcN hcl0 hpl hcl hcp hkp hst ha hb hga.1 hgb.1 d
          exact ⟨hp', go, h1, fin2 (t := Ma.PS.stop ⟨(pn : Int), rg, mem, rd, out, steps + 1, 0, own⟩ 4) M hct (by first | exact h2 | simpa [Ma.PS.stop, Ma.PS.setR, Ma.PS.goto] using h2) rfl rfl h3⟩
        · rw [if_neg hc]
          obtain ⟨hp', h1, hct, h2, h4, h3⟩ := s162_24i hp1 (rowD code) (rowK code) cs na nb nc pn steps xa xb out rfl M.out hga.2 (by omega) hrl rfl rfl hx M.cd (by simp) M.ok (by simp) hcN hcl0 hpl hcl hcp hkp hst ha hb hga.1 hgb.1 d
          refine ⟨hp', go + 1, h1, ⟨by simpa using h2, ?_, h4, ?_, ?_, hct⟩, fun y h0 h1 => h3 y h0 (ne13 h1 rfl) (ne13 h1 rfl) (ne13 h1 rfl)⟩
          · rw [h3 _ rfl (by simp) (by simp) (by simp)]; exact M.mem
          · rw [h3 _ rfl (by simp) (by simp) (by simp)]; exact M.cd
          · rw [h3 _ rfl (by simp) (by simp) (by simp)]; exact M.ok
      · have hd : Ma.doP code (inpF inp) ⟨(pn : Int), rg, mem, rd, out, steps + 1, 0, own⟩ ⟨(25 : Nat), na, nb, nc⟩ = if (nc : Int) ≤ xa then Ma.PS.stop ⟨(pn : Int), rg, mem, rd, out, steps + 1, 0, own⟩ 3 else Ma.PS.goto ⟨(pn : Int), rg, mem, rd, out, steps + 1, 0, own⟩ ((pn : Int) + 1) := by rw [← hxa]; rfl
        show ∃ hp' go', _ ∧ RSt code inp (Ma.doP code (inpF inp) ⟨(pn : Int), rg, mem, rd, out, steps + 1, 0, own⟩ ⟨(25 : Nat), na, nb, nc⟩) gm go' hp' ∧ _
        rw [hd]
        by_cases hc : (nc : Int) ≤ xa
        · rw [if_pos hc]
          obtain ⟨hp', h1, hct, h2, h3⟩ := s162_25o hp1 (rowD code) (rowK code) cs na nb nc pn steps xa xb hnc hc hrl rfl rfl hx M.cd (by simp) M.ok (by simp) hcN hcl0 hpl hcl hcp hkp hst ha hb hga.1 hgb.1 d
          exact ⟨hp', go, h1, fin2 (t := Ma.PS.stop ⟨(pn : Int), rg, mem, rd, out, steps + 1, 0, own⟩ 3) M hct (by first | exact h2 | simpa [Ma.PS.stop, Ma.PS.setR, Ma.PS.goto] using h2) rfl rfl h3⟩
        · rw [if_neg hc]
          obtain ⟨hp', h1, hct, h2, h3⟩ := s162_25i hp1 (rowD code) (rowK code) cs na nb nc pn steps xa xb hnc (by omega) hrl rfl rfl hx M.cd (by simp) M.ok (by simp) hcN hcl0 hpl hcl hcp hkp hst ha hb hga.1 hgb.1 d
          exact ⟨hp', go, h1, fin2 (t := Ma.PS.goto ⟨(pn : Int), rg, mem, rd, out, steps + 1, 0, own⟩ ((pn : Int) + 1)) M hct (by first | exact h2 | simpa [Ma.PS.stop, Ma.PS.setR, Ma.PS.goto] using h2) rfl rfl h3⟩
      · have hd : Ma.doP code (inpF inp) ⟨(pn : Int), rg, mem, rd, out, steps + 1, 0, own⟩ ⟨(26 : Nat), na, nb, nc⟩ = Ma.PS.stop ⟨(pn : Int), rg, mem, rd, out, steps + 1, 0, own⟩ 1 := by rfl
        show ∃ hp' go', _ ∧ RSt code inp (Ma.doP code (inpF inp) ⟨(pn : Int), rg, mem, rd, out, steps + 1, 0, own⟩ ⟨(26 : Nat), na, nb, nc⟩) gm go' hp' ∧ _
        rw [hd]
        obtain ⟨hp', h1, hct, h2, h3⟩ := s162_26 hp1 (rowD code) (rowK code) cs na nb nc pn steps xa xb  hrl rfl rfl hx M.cd (by simp) M.ok (by simp) hcN hcl0 hpl hcl hcp hkp hst ha hb hga.1 hgb.1 d
        exact ⟨hp', go, h1, fin2 (t := Ma.PS.stop ⟨(pn : Int), rg, mem, rd, out, steps + 1, 0, own⟩ 1) M hct (by first | exact h2 | simpa [Ma.PS.stop, Ma.PS.setR, Ma.PS.goto] using h2) rfl rfl h3⟩
      · have hd : Ma.doP code (inpF inp) ⟨(pn : Int), rg, mem, rd, out, steps + 1, 0, own⟩ ⟨(27 : Nat), na, nb, nc⟩ = code[at_]?.elim (Ma.PS.stop ⟨(pn : Int), rg, mem, rd, out, steps + 1, 0, own⟩ 8) fun x => Ma.PS.setR ⟨(pn : Int), rg, mem, rd, out, steps + 1, 0, own⟩ na (x) := by rw [← hat, ← hxb]; rfl
        show ∃ hp' go', _ ∧ RSt code inp (Ma.doP code (inpF inp) ⟨(pn : Int), rg, mem, rd, out, steps + 1, 0, own⟩ ⟨(27 : Nat), na, nb, nc⟩) gm go' hp' ∧ _
        rw [hd]
        cases hv : code[at_]? with
        | none =>
          obtain ⟨hp', h1, hct, h2, h3⟩ := s162_27o hp1 (rowD code) (rowK code) cs na nb nc pn steps xa xb hnc at_ hat' hcl (List.getElem?_eq_none_iff.1 hv) hrl rfl rfl hx M.cd (by simp) M.ok (by simp) hcN hcl0 hpl hcl hcp hkp hst ha hb hga.1 hgb.1 d
          exact ⟨hp', go, h1, fin2 (t := Ma.PS.stop ⟨(pn : Int), rg, mem, rd, out, steps + 1, 0, own⟩ 8) M hct (by first | exact h2 | simpa [Ma.PS.stop, Ma.PS.setR, Ma.PS.goto] using h2) rfl rfl h3⟩
        | some x =>
          obtain ⟨hp', h1, hct, h2, h3⟩ := s162_27i hp1 (rowD code) (rowK code) cs na nb nc pn steps xa xb hnc at_ hat' hcl x hv hrl rfl rfl hx M.cd (by simp) M.ok (by simp) hcN hcl0 hpl hcl hcp hkp hst ha hb hga.1 hgb.1 d
          exact ⟨hp', go, h1, fin2 (t := Ma.PS.setR ⟨(pn : Int), rg, mem, rd, out, steps + 1, 0, own⟩ na (x)) M hct (by first | exact h2 | simpa [Ma.PS.stop, Ma.PS.setR, Ma.PS.goto] using h2) rfl rfl h3⟩
end Go.Proofs.YtaeeffddinppeaaGreatDoor
