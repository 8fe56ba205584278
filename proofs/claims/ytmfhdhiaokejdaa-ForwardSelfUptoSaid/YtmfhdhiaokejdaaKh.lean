/- Law 31: the machine of blocks: its run. -/
import Derived.Test.YtmfhdhiaokejdaaKg
import Derived.Lib.Hide
import Derived.Test.YtmfhdhiaokejdaaK7
import Derived.Test.YtmfhdhiaokejdaaKf
import Derived.Test.YtmfhdhiaokejdaaKe
import Derived.Test.YtmfhdhiaokejdaaK9
namespace Go.Proofs.Ytmfhdhiaokejdaa
open Go Go.Ab
set_option linter.unusedSimpArgs false
set_option linter.unusedVariables false
structure RunAt (c : RC) (g gw go : Nat) (hp : Hp) (s : RS) : Prop where
  box : hp ⟨0, 22, 0⟩ = .box g (rcells c 0 22 gw go s) false
  out : hp ⟨0, 22, 6⟩ = .arr go 1 5 (rowB s.out) false
  words : hp ⟨0, 22, 5⟩ = .arr gw 1 38 (rowU s.words) false
def Far (k : Nat) (hp1 hp2 : Hp) : Prop := ∀ y : Nm, y.d ≤ k → y ≠ ⟨0, 22, 0⟩ → y ≠ ⟨0, 22, 5⟩ → y ≠ ⟨0, 22, 6⟩ → hp2 y = hp1 y
/-- What a function's run ends in. -/
structure Fin29 (c : RC) (k g gw : Nat) (s s2 : RS) (hp1 hp2 : Hp) : Prop where
  ok : OkS c s2
  steps : s.steps ≤ s2.steps ∧ s2.steps ≤ c.fuel
  run : ∃ go, RunAt c g gw go hp2 s2
  far : Far k hp1 hp2
/-- What holds at a block's beginning, or ahead of an instruction, beside the heap. -/
structure Mid (c : RC) (f : Fn) (s0 s : RS) (r : List Int) : Prop where
  ok : OkS c s
  fin : s.fin = 0
  steps : s0.steps ≤ s.steps ∧ s.steps ≤ c.fuel
  U : ∀ x ∈ r, U x
  len : (r.length : Int) = f.regs
theorem loopS_succ {c : RC} {ap : Int → Int → Int → Int × Int} {n : Nat} {f : Fn} {pc : Nat} {b : Blk} {s : RS} {r : List Int} (h : f.blocks[pc]? = some b) : loopS c ap (n + 1) f pc s r = (if (insS c ap (callS c ap n) b.ins s r).2.2 = false then (insS c ap (callS c ap n) b.ins s r).1 else if c.fuel ≤ (insS c ap (callS c ap n) b.ins s r).1.steps then { (insS c ap (callS c ap n) b.ins s r).1 with fin := 5 } else if b.en = 3 then { (insS c ap (callS c ap n) b.ins s r).1 with steps := (insS c ap (callS c ap n) b.ins s r).1.steps + 1 }
    else loopS c ap n f (if b.en = 2 ∧ rg (insS c ap (callS c ap n) b.ins s r).2.1 b.v = 0 then b.el else b.to) { (insS c ap (callS c ap n) b.ins s r).1 with steps := (insS c ap (callS c ap n) b.ins s r).1.steps + 1 } (insS c ap (callS c ap n) b.ins s r).2.1) := by
  conv => lhs; unfold loopS
  simp only [Int.toNat_natCast, h]
  rfl
theorem insS_drop {c : RC} {ap : Int → Int → Int → Int × Int} {call : Int → RS → RS} {ins : List Tac} {j : Nat} {t : Tac} {s : RS} {r : List Int} (h : ins[j]? = some t) : insS c ap call (ins.drop j) s r = (if c.fuel ≤ s.steps then ({ s with fin := 5 }, r, false) else if (oneS c ap call t { s with steps := s.steps + 1 } r).1.fin ≠ 0 then ((oneS c ap call t { s with steps := s.steps + 1 } r).1, (oneS c ap call t { s with steps := s.steps + 1 } r).2, false) else insS c ap call (ins.drop (j + 1)) (oneS c ap call t { s with steps := s.steps + 1 } r).1 (oneS c ap call t { s with steps := s.steps + 1 } r).2) := by
  obtain ⟨hj, rfl⟩ := List.getElem?_eq_some_iff.1 h
  rw [List.drop_eq_getElem_cons hj]
  rfl
set_option maxHeartbeats 8000000 in
theorem h29 (c : RC) (hc : OkC c) (hg : ∀ (i : Nat) f, c.fs[i]? = some f → FnGood f i c.nw) : ∀ (n k dd g gw go : Nat) (s : RS) (i : Nat) (hp1 : Hp), RunAt c g gw go hp1 s → OkS c s → s.fin = 0 → s.steps ≤ c.fuel → c.fuel - s.steps < n → i < c.fs.length → ∃ hp3, (lim Try.prog E31 X31).hpc k dd 29 [.ptr ⟨0, 22, 0⟩ g 0, iv i] hp1 = some (.tup [], hp3) ∧ Fin29 c k g gw s (callS c apD n i s) hp1 hp3 := by
  intro n
  induction n using Nat.strongRecOn with
  | ind n ih =>
  intro k dd g gw go s i hp1 hrun hs hfin hst hn hi
  have hfi : c.fs[i]? = some c.fs[i] := List.getElem?_eq_getElem hi
  have hG := hg i _ hfi
  generalize hf : c.fs[i] = f at hfi hG
  have eC : callS c apD n i s = loopS c apD n f 0 s (List.replicate f.regs.toNat 0) := by unfold callS; rw [Int.toNat_natCast, hfi]
  rw [eC]
  generalize hres : loopS c apD n f 0 s (List.replicate f.regs.toNat 0) = S2
  have key : ∃ v hp', (lim Try.prog E31 X31).hpc k dd 29 [.ptr ⟨0, 22, 0⟩ g 0, iv i] hp1 = some (v, hp') ∧ (v = .tup [] ∧ Fin29 c k g gw s S2 hp1 hp') := by
    refine lim_hpcW (R := fun v hp' => v = .tup [] ∧ Fin29 c k g gw s S2 hp1 hp') Try.func29 rfl rfl bodyOk_29 rfl rfl ?_
    obtain ⟨hx, ho, hw⟩ := hrun
    have z0 : (0 : Nat) ≠ k + 1 := by omega
    have r0 := hG.regs.1
    have r1 : f.regs * 4 ≤ 140737488355328 := by have := hG.regs.2; omega
    have r2 : f.regs ≤ 9223372036854775807 := by have := hG.regs.2; omega
    have r3 : f.regs ≤ 35184372088832 := by have := hG.regs.2; omega
    have hfr : (c.fs.map Fn.row)[i]? = some f.row := by rw [List.getElem?_map, hfi]; rfl
    have hfe : ∀ h, c.fs[i]'h = f := fun _ => hf
    have IH := Lib.hid ih
    have HG := Lib.hid hg
    clear ih hg
    repeat' (first
      | ((with_reducible apply Wo_u); (conv => lhs; simp -implicitDefEqProofs [*]) <;> exact rfl)
      | ((with_reducible apply Wo_n); (conv => lhs; simp -implicitDefEqProofs [*]) <;> exact rfl)
      | (with_reducible apply Wo_nil)
      | ((with_reducible apply Wo_gt); (exact rfl); ((conv => lhs; simp -implicitDefEqProofs [*]) <;> exact rfl); (conv => lhs; simp -implicitDefEqProofs [*]) <;> exact rfl)
      | ((with_reducible apply Wo_gf); (exact rfl); ((conv => lhs; simp -implicitDefEqProofs [*]) <;> exact rfl); (exact rfl))
      | ((with_reducible apply Wo_gx); (exact rfl); ((conv => lhs; simp -implicitDefEqProofs [*]) <;> exact rfl))
      | ((with_reducible apply Wo_gsT); (exact rfl); ((conv => lhs; simp -implicitDefEqProofs [*]) <;> exact rfl))
      | ((with_reducible apply Wo_gsF); (exact rfl); ((conv => lhs; simp -implicitDefEqProofs [*]) <;> exact rfl))
      | ((with_reducible apply ex2); (conv => lhs; simp -implicitDefEqProofs [*]) <;> exact rfl)
      | (with_reducible apply W_ss) | (with_reducible apply W_srl) | (with_reducible apply W_rl)
      | ((with_reducible apply W_sc); (conv => lhs; simp -implicitDefEqProofs [*]) <;> exact rfl)
      | ((with_reducible apply W_c); (conv => lhs; simp -implicitDefEqProofs [*]) <;> exact rfl)
      | ((with_reducible apply W_srdl); kernel_rfl) | ((with_reducible apply W_rdl); kernel_rfl)
      | ((with_reducible apply Wd_u); (conv => lhs; simp -implicitDefEqProofs [*]) <;> exact rfl)
      | ((with_reducible apply Wd_n); (conv => lhs; simp -implicitDefEqProofs [*]) <;> exact rfl)
      | ((with_reducible apply Wd_nil); exact rfl)
      | ((with_reducible apply Wd_gsT); (exact rfl); ((conv => lhs; simp -implicitDefEqProofs [*]) <;> exact rfl))
      | ((with_reducible apply Wd_gsF); (exact rfl); ((conv => lhs; simp -implicitDefEqProofs [*]) <;> exact rfl))
      | ((with_reducible apply ex4); (conv => lhs; simp -implicitDefEqProofs [*]) <;> exact rfl)
      | (with_reducible apply W_sblock) | (with_reducible apply W_block) | (with_reducible apply W_sskip) | (with_reducible apply W_skip) | (with_reducible apply W_sret) | (with_reducible apply W_ret) | (with_reducible apply W_sexit) | (with_reducible apply W_exit)
      | (with_reducible apply thenW_n) | (with_reducible apply thenW_r) | (with_reducible apply thenW_e) | (with_reducible apply inB_n) | (with_reducible apply inB_r) | (with_reducible apply inB_e) | ((with_reducible apply inB_o); rotate_left; exact rfl)
      | ((with_reducible apply EndQ_ret); (conv => lhs; simp -implicitDefEqProofs [*]) <;> exact rfl) | ((with_reducible apply EndQ_normal); (conv => lhs; simp -implicitDefEqProofs [*]) <;> exact rfl)
      | (intro h h'; try simp [*, -h] at h'))
    refine W_loopS (n := n) (fun s0 m st => ∃ (q : RS) (r : List Int) (pc go : Nat), m ≤ n ∧ c.fuel - q.steps < m ∧ loopS c apD m f pc q r = S2 ∧ Mid c f s q r ∧ pc < f.blocks.length ∧ st.fr 6 = iv pc ∧ st.fr 0 = s0.fr 0 ∧ st.fr 4 = s0.fr 4 ∧ st.fr 5 = s0.fr 5 ∧ st.hp ⟨k + 1, 4, 0⟩ = s0.hp ⟨k + 1, 4, 0⟩ ∧ st.hp ⟨0, 22, 0⟩ = .box g (rcells c 0 22 gw go q) false ∧ st.hp ⟨0, 22, 6⟩ = .arr go 1 5 (rowB q.out) false ∧ st.hp ⟨0, 22, 5⟩ = .arr gw 1 38 (rowU q.words) false ∧ st.hp ⟨k + 1, 19, 0⟩ = .arr (s0.hp ⟨k + 1, 19, 0⟩).gen 1 38 (rowU r) false ∧ Far k hp1 st.hp) ⟨s, List.replicate f.regs.toNat 0, 0, go, Nat.le_refl _, hn, hres, ⟨hs, hfin, ⟨Int.le_refl _, hst⟩, fun x hx => by rw [List.eq_of_mem_replicate hx]; unfold U; omega, by simp; omega⟩, hG.pos.1, by simp, by simp, by simp, by simp, by simp, by simp [*], by simp [*], by simp [*], by simp [*], fun y hy y0 y5 y6 => by have yk := kept_far hy; simp [*]⟩ ?_
    rintro m ⟨fr, hp⟩ ⟨⟨w, o, rd, stp, fin⟩, r, pc, go, hm, hlt, hL, hM, hpc, hs6, hs0, hs4, hs5, hh4, hq0, hq6, hq5, hr19, hFar⟩
    simp at hs6 hs0 hs4 hs5 hh4 hq0 hq6 hq5 hr19
    obtain ⟨hok, hf0, hst2, hrU, hrl⟩ := hM
    simp only at hf0 hst2 hlt
    subst hf0
    cases m with
    | zero => omega
    | succ m =>
    have hb := List.getElem?_eq_getElem hpc
    rw [loopS_succ hb] at hL
    generalize hR : insS c apD (callS c apD m) f.blocks[pc].ins ⟨w, o, rd, stp, 0⟩ r = RES at hL
    have hR' : insS c apD (callS c apD m) (f.blocks[pc].ins.drop 0) ⟨w, o, rd, stp, 0⟩ r = RES := by rw [List.drop_zero]; exact hR
    have HL := Lib.hid hL
    have HF := Lib.hid hFar
    have HR := Lib.hid hR'
    clear hL hFar hR hR'
    repeat' (first
      | ((with_reducible apply Wo_u); (conv => lhs; simp -implicitDefEqProofs [*]) <;> exact rfl)
      | ((with_reducible apply Wo_n); (conv => lhs; simp -implicitDefEqProofs [*]) <;> exact rfl)
      | (with_reducible apply Wo_nil)
      | ((with_reducible apply Wo_gt); (exact rfl); ((conv => lhs; simp -implicitDefEqProofs [*]) <;> exact rfl); (conv => lhs; simp -implicitDefEqProofs [*]) <;> exact rfl)
      | ((with_reducible apply Wo_gf); (exact rfl); ((conv => lhs; simp -implicitDefEqProofs [*]) <;> exact rfl); (exact rfl))
      | ((with_reducible apply Wo_gx); (exact rfl); ((conv => lhs; simp -implicitDefEqProofs [*]) <;> exact rfl))
      | ((with_reducible apply Wo_gsT); (exact rfl); ((conv => lhs; simp -implicitDefEqProofs [*]) <;> exact rfl))
      | ((with_reducible apply Wo_gsF); (exact rfl); ((conv => lhs; simp -implicitDefEqProofs [*]) <;> exact rfl))
      | ((with_reducible apply ex2); (conv => lhs; simp -implicitDefEqProofs [*]) <;> exact rfl)
      | (with_reducible apply W_ss) | (with_reducible apply W_srl) | (with_reducible apply W_rl)
      | ((with_reducible apply W_sc); (conv => lhs; simp -implicitDefEqProofs [*]) <;> exact rfl)
      | ((with_reducible apply W_c); (conv => lhs; simp -implicitDefEqProofs [*]) <;> exact rfl)
      | ((with_reducible apply W_srdl); kernel_rfl) | ((with_reducible apply W_rdl); kernel_rfl)
      | ((with_reducible apply Wd_u); (conv => lhs; simp -implicitDefEqProofs [*]) <;> exact rfl)
      | ((with_reducible apply Wd_n); (conv => lhs; simp -implicitDefEqProofs [*]) <;> exact rfl)
      | ((with_reducible apply Wd_nil); exact rfl)
      | ((with_reducible apply Wd_gsT); (exact rfl); ((conv => lhs; simp -implicitDefEqProofs [*]) <;> exact rfl))
      | ((with_reducible apply Wd_gsF); (exact rfl); ((conv => lhs; simp -implicitDefEqProofs [*]) <;> exact rfl))
      | ((with_reducible apply ex4); (conv => lhs; simp -implicitDefEqProofs [*]) <;> exact rfl)
      | (with_reducible apply W_sblock) | (with_reducible apply W_block) | (with_reducible apply W_sskip) | (with_reducible apply W_skip) | (with_reducible apply W_sret) | (with_reducible apply W_ret) | (with_reducible apply W_sexit) | (with_reducible apply W_exit)
      | (with_reducible apply thenW_n) | (with_reducible apply thenW_r) | (with_reducible apply thenW_e) | (with_reducible apply inB_n) | (with_reducible apply inB_r) | (with_reducible apply inB_e) | ((with_reducible apply inB_o); rotate_left; exact rfl)
      | ((with_reducible apply EndQ_ret); (conv => lhs; simp -implicitDefEqProofs [*]) <;> exact rfl) | ((with_reducible apply EndQ_normal); (conv => lhs; simp -implicitDefEqProofs [*]) <;> exact rfl)
      | (intro h h'; try simp [*, -h] at h'))
    refine W_loopS (n := f.blocks[pc].ins.length) (fun s0 m2 st => ∃ (q : RS) (r : List Int) (j go : Nat), m2 = f.blocks[pc].ins.length - j ∧ j ≤ f.blocks[pc].ins.length ∧ insS c apD (callS c apD m) (f.blocks[pc].ins.drop j) q r = RES ∧ Mid c f s q r ∧ c.fuel - q.steps < m + 1 ∧ st.fr 8 = iv j ∧ st.fr 0 = s0.fr 0 ∧ st.fr 4 = s0.fr 4 ∧ st.fr 5 = s0.fr 5 ∧ st.fr 7 = s0.fr 7 ∧ st.hp ⟨k + 1, 4, 0⟩ = s0.hp ⟨k + 1, 4, 0⟩ ∧ st.hp ⟨k + 1, 7, 0⟩ = s0.hp ⟨k + 1, 7, 0⟩ ∧ st.hp ⟨0, 22, 0⟩ = .box g (rcells c 0 22 gw go q) false ∧ st.hp ⟨0, 22, 6⟩ = .arr go 1 5 (rowB q.out) false ∧ st.hp ⟨0, 22, 5⟩ = .arr gw 1 38 (rowU q.words) false ∧ st.hp ⟨k + 1, 19, 0⟩ = .arr (s0.hp ⟨k + 1, 19, 0⟩).gen 1 38 (rowU r) false ∧ Far k hp1 st.hp) ⟨⟨w, o, rd, stp, 0⟩, r, 0, go, by simp, by omega, HR.out, ⟨hok, rfl, hst2, hrU, hrl⟩, by show c.fuel - stp < m + 1; omega, by simp, by simp, by simp, by simp, by simp, by simp, by simp, by simp [*], by simp [*], by simp [*], by simp [*], fun y hy y0 y5 y6 => by have yk := kept_far hy; simp [*]; exact HF.out y hy y0 y5 y6⟩ ?_
    rintro m2 ⟨fr2, hp2⟩ ⟨⟨w2, o2, rd2, stp2, fin2⟩, r2, j, go2, rfl, hj, hR2, hM2, hlt2, is8, is0, is4, is5, is7, ih4, ih7, iq0, iq6, iq5, ir19, hFar2⟩
    simp at is8 is0 is4 is5 is7 ih4 ih7 iq0 iq6 iq5 ir19
    obtain ⟨hok2, hf02, hst22, hrU2, hrl2⟩ := hM2
    simp only at hf02 hst22 hlt2
    subst hf02
    have HF2 := Lib.hid hFar2
    clear hFar2
    by_cases hlj : j < f.blocks[pc].ins.length
    · have hgj := List.getElem?_eq_getElem hlj
      rw [insS_drop hgj] at hR2
      have HR2 := Lib.hid hR2
      clear hR2
      have hwj := wrapN (k := j) (by have := hG.len _ (List.getElem_mem hpc); omega)
      have h37f := h37 (k + 1) 38 c 0 22 g gw go2 ⟨w2, o2, rd2, stp2, 0⟩ hp2 iq0 hok2.steps hc.fuel
      by_cases hfu : c.fuel ≤ stp2
      · have e1 : stepB c ⟨w2, o2, rd2, stp2, 0⟩ = false := by simp [stepB]; omega
        have e2 : stepS c ⟨w2, o2, rd2, stp2, 0⟩ = ⟨w2, o2, rd2, stp2, 5⟩ := by simp [stepS, hfu]
        rw [e1, e2] at h37f
        repeat' (first
          | ((with_reducible apply Wo_u); (conv => lhs; simp -implicitDefEqProofs [*]) <;> exact rfl)
          | ((with_reducible apply Wo_n); (conv => lhs; simp -implicitDefEqProofs [*]) <;> exact rfl)
          | (with_reducible apply Wo_nil)
          | ((with_reducible apply Wo_gt); (exact rfl); ((conv => lhs; simp -implicitDefEqProofs [*]) <;> exact rfl); (conv => lhs; simp -implicitDefEqProofs [*]) <;> exact rfl)
          | ((with_reducible apply Wo_gf); (exact rfl); ((conv => lhs; simp -implicitDefEqProofs [*]) <;> exact rfl); (exact rfl))
          | ((with_reducible apply Wo_gx); (exact rfl); ((conv => lhs; simp -implicitDefEqProofs [*]) <;> exact rfl))
          | ((with_reducible apply Wo_gsT); (exact rfl); ((conv => lhs; simp -implicitDefEqProofs [*]) <;> exact rfl))
          | ((with_reducible apply Wo_gsF); (exact rfl); ((conv => lhs; simp -implicitDefEqProofs [*]) <;> exact rfl))
          | ((with_reducible apply ex2); (conv => lhs; simp -implicitDefEqProofs [*]) <;> exact rfl)
          | (with_reducible apply W_ss) | (with_reducible apply W_srl) | (with_reducible apply W_rl)
          | ((with_reducible apply W_sc); (conv => lhs; simp -implicitDefEqProofs [*]) <;> exact rfl)
          | ((with_reducible apply W_c); (conv => lhs; simp -implicitDefEqProofs [*]) <;> exact rfl)
          | ((with_reducible apply W_srdl); kernel_rfl) | ((with_reducible apply W_rdl); kernel_rfl)
          | ((with_reducible apply Wd_u); (conv => lhs; simp -implicitDefEqProofs [*]) <;> exact rfl)
          | ((with_reducible apply Wd_n); (conv => lhs; simp -implicitDefEqProofs [*]) <;> exact rfl)
          | ((with_reducible apply Wd_nil); exact rfl)
          | ((with_reducible apply Wd_gsT); (exact rfl); ((conv => lhs; simp -implicitDefEqProofs [*]) <;> exact rfl))
          | ((with_reducible apply Wd_gsF); (exact rfl); ((conv => lhs; simp -implicitDefEqProofs [*]) <;> exact rfl))
          | ((with_reducible apply ex4); (conv => lhs; simp -implicitDefEqProofs [*]) <;> exact rfl)
          | (with_reducible apply W_sblock) | (with_reducible apply W_block) | (with_reducible apply W_sskip) | (with_reducible apply W_skip) | (with_reducible apply W_sret) | (with_reducible apply W_ret) | (with_reducible apply W_sexit) | (with_reducible apply W_exit)
          | (with_reducible apply thenW_n) | (with_reducible apply thenW_r) | (with_reducible apply thenW_e) | (with_reducible apply inB_n) | (with_reducible apply inB_r) | (with_reducible apply inB_e) | ((with_reducible apply inB_o); rotate_left; exact rfl)
          | ((with_reducible apply EndQ_ret); (conv => lhs; simp -implicitDefEqProofs [*]) <;> exact rfl) | ((with_reducible apply EndQ_normal); (conv => lhs; simp -implicitDefEqProofs [*]) <;> exact rfl)
          | (intro h h'; try simp [*, -h] at h'))
        have eR : RES = (⟨w2, o2, rd2, stp2, 5⟩, r2, false) := by rw [← HR2.out, if_pos hfu]
        have eS : S2 = ⟨w2, o2, rd2, stp2, 5⟩ := by rw [← HL.out, eR]; simp
        rw [eS]
        exact ⟨nofun, _, _, rfl, rfl, ⟨⟨hok2.len, hok2.wU, hok2.out, hok2.read, hok2.steps⟩, hst22, ⟨go2, ⟨by simp, by simp [*], by simp [*]⟩⟩, fun y hy y0 y5 y6 => by simp [y0]; exact HF2.out y hy y0 y5 y6⟩⟩
      · have e1 : stepB c ⟨w2, o2, rd2, stp2, 0⟩ = true := by simp [stepB]; omega
        have e2 : stepS c ⟨w2, o2, rd2, stp2, 0⟩ = ⟨w2, o2, rd2, stp2 + 1, 0⟩ := by simp [stepS, hfu]
        rw [e1, e2] at h37f
        have hft := hG.fit _ (List.getElem_mem hpc) _ (List.getElem_mem hlj)
        have hst0 := hok2.steps
        simp only at hst0
        have okn : OkS c ⟨w2, o2, rd2, stp2 + 1, 0⟩ := ⟨hok2.len, hok2.wU, hok2.out, hok2.read, by show 0 ≤ stp2 + 1; omega⟩
        have hcl : ∀ hp4 : Hp, hp4 ⟨0, 22, 0⟩ = (upd hp2 ⟨0, 22, 0⟩ (.box g (rcells c 0 22 gw go2 ⟨w2, o2, rd2, stp2 + 1, 0⟩) false)) ⟨0, 22, 0⟩ → hp4 ⟨0, 22, 5⟩ = (upd hp2 ⟨0, 22, 0⟩ (.box g (rcells c 0 22 gw go2 ⟨w2, o2, rd2, stp2 + 1, 0⟩) false)) ⟨0, 22, 5⟩ → hp4 ⟨0, 22, 6⟩ = (upd hp2 ⟨0, 22, 0⟩ (.box g (rcells c 0 22 gw go2 ⟨w2, o2, rd2, stp2 + 1, 0⟩) false)) ⟨0, 22, 6⟩ → f.blocks[pc].ins[j].op = 10 → ∃ hp5, (lim Try.prog E31 X31).hpc (k + 1 + 1) 210 29 [.ptr ⟨0, 22, 0⟩ g 0, iv f.blocks[pc].ins[j].base] hp4 = some (.tup [], hp5) ∧ Fin29 c (k + 1 + 1) g gw ⟨w2, o2, rd2, stp2 + 1, 0⟩ (callS c apD m f.blocks[pc].ins[j].base ⟨w2, o2, rd2, stp2 + 1, 0⟩) hp4 hp5 := fun hp4 a0 a5 a6 h10 => by
          have hb10 := hft.1.call h10
          obtain ⟨B, hB⟩ : ∃ B : Nat, f.blocks[pc].ins[j].base = B := ⟨f.blocks[pc].ins[j].base.toNat, by omega⟩
          rw [hB]
          exact IH.out m (by omega) (k + 1 + 1) 210 g gw go2 ⟨w2, o2, rd2, stp2 + 1, 0⟩ B hp4 ⟨a0.trans (by simp), a6.trans (by simp [*]), a5.trans (by simp [*])⟩ okn rfl (by show stp2 + 1 ≤ c.fuel; omega) (by show c.fuel - (stp2 + 1) < m; omega) (by omega)
        have hcall : f.blocks[pc].ins[j].op = 10 → ∃ F G, CallF c (k + 1) g gw 210 f.blocks[pc].ins[j].base (upd hp2 ⟨0, 22, 0⟩ (.box g (rcells c 0 22 gw go2 ⟨w2, o2, rd2, stp2 + 1, 0⟩) false)) (callS c apD m f.blocks[pc].ins[j].base ⟨w2, o2, rd2, stp2 + 1, 0⟩) F G := fun h10 => callF_mk fun hp4 a0 a5 a6 => by
          obtain ⟨hp5, c1, c2⟩ := hcl hp4 a0 a5 a6 h10
          obtain ⟨c3, c4, ⟨go3, c5⟩, c6⟩ := c2
          exact ⟨hp5, go3, ⟨c1, c5.box, c5.out, c5.words, c6⟩⟩
        have hkeep := one_keeps (c := c) (call := callS c apD m) (t := f.blocks[pc].ins[j]) okn hrU2 hft.2 (by show stp2 + 1 ≤ c.fuel; omega) (fun h10 => by
          obtain ⟨hp5, c1, c2⟩ := hcl (upd hp2 ⟨0, 22, 0⟩ (.box g (rcells c 0 22 gw go2 ⟨w2, o2, rd2, stp2 + 1, 0⟩) false)) rfl rfl rfl h10
          exact ⟨c2.ok, c2.steps.1, c2.steps.2⟩)
        obtain ⟨hp3, h38f, hA⟩ := h38 (k + 1) 47 c g gw go2 (k + 1) 19 _ ⟨w2, o2, rd2, stp2 + 1, 0⟩ r2 (upd hp2 ⟨0, 22, 0⟩ (.box g (rcells c 0 22 gw go2 ⟨w2, o2, rd2, stp2 + 1, 0⟩) false)) (Nat.le_refl _) z0 (by simp) (by simp [*]) (by simp [*]) (by simp [*]; rfl) f.blocks[pc].ins[j] i (hrl2 ▸ hft.1) hrU2 okn hc (callS c apD m) hcall
        have hrn : r2.length = f.regs.toNat := by omega
        rw [hrn] at h38f
        simp only [Tac.row] at h38f
        skip
        have HK := Lib.hid hkeep
        obtain ⟨⟨go3, j0, j6, j5⟩, j19, jk⟩ := hA
        have JK := Lib.hid jk
        have jk4 : hp3 ⟨k + 1, 4, 0⟩ = hp2 ⟨k + 1, 4, 0⟩ := (jk _ (Nat.le_refl _) (by simp) (by simp) (by simp) (by simp)).trans (by simp)
        have jk7 : hp3 ⟨k + 1, 7, 0⟩ = hp2 ⟨k + 1, 7, 0⟩ := (jk _ (Nat.le_refl _) (by simp) (by simp) (by simp) (by simp)).trans (by simp)
        generalize hone : oneS c apD (callS c apD m) f.blocks[pc].ins[j] ⟨w2, o2, rd2, stp2 + 1, 0⟩ r2 = P at j0 j6 j5 j19 HR2 HK
        obtain ⟨⟨w3, o3, rd3, stp3, fin3⟩, r3⟩ := P
        clear hkeep jk hcl hcall hone
        simp only at j0 j6 j5 j19
        repeat' (first
          | ((with_reducible apply Wo_u); (conv => lhs; simp -implicitDefEqProofs [*]) <;> exact rfl)
          | ((with_reducible apply Wo_n); (conv => lhs; simp -implicitDefEqProofs [*]) <;> exact rfl)
          | (with_reducible apply Wo_nil)
          | ((with_reducible apply Wo_gt); (exact rfl); ((conv => lhs; simp -implicitDefEqProofs [*]) <;> exact rfl); (conv => lhs; simp -implicitDefEqProofs [*]) <;> exact rfl)
          | ((with_reducible apply Wo_gf); (exact rfl); ((conv => lhs; simp -implicitDefEqProofs [*]) <;> exact rfl); (exact rfl))
          | ((with_reducible apply Wo_gx); (exact rfl); ((conv => lhs; simp -implicitDefEqProofs [*]) <;> exact rfl))
          | ((with_reducible apply Wo_gsT); (exact rfl); ((conv => lhs; simp -implicitDefEqProofs [*]) <;> exact rfl))
          | ((with_reducible apply Wo_gsF); (exact rfl); ((conv => lhs; simp -implicitDefEqProofs [*]) <;> exact rfl))
          | ((with_reducible apply ex2); (conv => lhs; simp -implicitDefEqProofs [*]) <;> exact rfl)
          | (with_reducible apply W_ss) | (with_reducible apply W_srl) | (with_reducible apply W_rl)
          | ((with_reducible apply W_sc); (conv => lhs; simp -implicitDefEqProofs [*]) <;> exact rfl)
          | ((with_reducible apply W_c); (conv => lhs; simp -implicitDefEqProofs [*]) <;> exact rfl)
          | ((with_reducible apply W_srdl); kernel_rfl) | ((with_reducible apply W_rdl); kernel_rfl)
          | ((with_reducible apply Wd_u); (conv => lhs; simp -implicitDefEqProofs [*]) <;> exact rfl)
          | ((with_reducible apply Wd_n); (conv => lhs; simp -implicitDefEqProofs [*]) <;> exact rfl)
          | ((with_reducible apply Wd_nil); exact rfl)
          | ((with_reducible apply Wd_gsT); (exact rfl); ((conv => lhs; simp -implicitDefEqProofs [*]) <;> exact rfl))
          | ((with_reducible apply Wd_gsF); (exact rfl); ((conv => lhs; simp -implicitDefEqProofs [*]) <;> exact rfl))
          | ((with_reducible apply ex4); (conv => lhs; simp -implicitDefEqProofs [*]) <;> exact rfl)
          | (with_reducible apply W_sblock) | (with_reducible apply W_block) | (with_reducible apply W_sskip) | (with_reducible apply W_skip) | (with_reducible apply W_sret) | (with_reducible apply W_ret) | (with_reducible apply W_sexit) | (with_reducible apply W_exit)
          | (with_reducible apply thenW_n) | (with_reducible apply thenW_r) | (with_reducible apply thenW_e) | (with_reducible apply inB_n) | (with_reducible apply inB_r) | (with_reducible apply inB_e) | ((with_reducible apply inB_o); rotate_left; exact rfl)
          | ((with_reducible apply EndQ_ret); (conv => lhs; simp -implicitDefEqProofs [*]) <;> exact rfl) | ((with_reducible apply EndQ_normal); (conv => lhs; simp -implicitDefEqProofs [*]) <;> exact rfl)
          | (intro h h'; try simp [*, -h] at h'))
        · have eR : RES = (⟨w3, o3, rd3, stp3, fin3⟩, r3, false) := by
            have := HR2.out
            rw [if_neg hfu] at this
            rw [← this]
            simp [h']
          have eS : S2 = ⟨w3, o3, rd3, stp3, fin3⟩ := by rw [← HL.out, eR]; simp
          rw [eS]
          obtain ⟨k1, k2, k3, k4, k5⟩ := HK.out
          simp only at k4 k5
          exact ⟨nofun, _, _, rfl, rfl, ⟨k1, ⟨by show s.steps ≤ stp3; omega, k5⟩, ⟨go3, ⟨j0, j6, j5⟩⟩, fun y hy y0 y5 y6 => (JK.out y (by omega) y0 y5 y6 (kept_far hy _ _)).trans (by simp [y0]; exact HF2.out y hy y0 y5 y6)⟩⟩
        · obtain ⟨k1, k2, k3, k4, k5⟩ := HK.out
          simp only at k3 k4 k5
          have hR3 : insS c apD (callS c apD m) (f.blocks[pc].ins.drop (j + 1)) ⟨w3, o3, rd3, stp3, fin3⟩ r3 = RES := by
            have := HR2.out
            rw [if_neg hfu] at this
            rw [← this]
            simp [h']
          exact ⟨_, by omega, ⟨w3, o3, rd3, stp3, fin3⟩, r3, j + 1, go3, rfl, hlj, hR3, ⟨k1, h', ⟨by show s.steps ≤ stp3; omega, k5⟩, k2, by rw [k3]; exact hrl2⟩, by show c.fuel - stp3 < m + 1; omega, by simp, by simp [*], by simp [*], by simp [*], by simp [*], by simp [*], by simp [*], by simp [*], by simp [*], by simp [*], by simp [*], fun y hy y0 y5 y6 => (JK.out y (by omega) y0 y5 y6 (kept_far hy _ _)).trans (by simp [y0]; exact HF2.out y hy y0 y5 y6)⟩
    · have hje : j = f.blocks[pc].ins.length := by omega
      have eR : RES = (⟨w2, o2, rd2, stp2, 0⟩, r2, true) := by rw [← hR2, hje, List.drop_length]; rfl
      clear hR2 hj hlj
      subst hje
      have h37f := h37 (k + 1) 54 c 0 22 g gw go2 ⟨w2, o2, rd2, stp2, 0⟩ hp2 iq0 hok2.steps hc.fuel
      by_cases hfu : c.fuel ≤ stp2
      · have e1 : stepB c ⟨w2, o2, rd2, stp2, 0⟩ = false := by simp [stepB]; omega
        have e2 : stepS c ⟨w2, o2, rd2, stp2, 0⟩ = ⟨w2, o2, rd2, stp2, 5⟩ := by simp [stepS, hfu]
        rw [e1, e2] at h37f
        have eS : S2 = ⟨w2, o2, rd2, stp2, 5⟩ := by rw [← HL.out, eR]; simp [hfu]
        clear eR
        repeat' (first
          | ((with_reducible apply Wo_u); (conv => lhs; simp -implicitDefEqProofs [*]) <;> exact rfl)
          | ((with_reducible apply Wo_n); (conv => lhs; simp -implicitDefEqProofs [*]) <;> exact rfl)
          | (with_reducible apply Wo_nil)
          | ((with_reducible apply Wo_gt); (exact rfl); ((conv => lhs; simp -implicitDefEqProofs [*]) <;> exact rfl); (conv => lhs; simp -implicitDefEqProofs [*]) <;> exact rfl)
          | ((with_reducible apply Wo_gf); (exact rfl); ((conv => lhs; simp -implicitDefEqProofs [*]) <;> exact rfl); (exact rfl))
          | ((with_reducible apply Wo_gx); (exact rfl); ((conv => lhs; simp -implicitDefEqProofs [*]) <;> exact rfl))
          | ((with_reducible apply Wo_gsT); (exact rfl); ((conv => lhs; simp -implicitDefEqProofs [*]) <;> exact rfl))
          | ((with_reducible apply Wo_gsF); (exact rfl); ((conv => lhs; simp -implicitDefEqProofs [*]) <;> exact rfl))
          | ((with_reducible apply ex2); (conv => lhs; simp -implicitDefEqProofs [*]) <;> exact rfl)
          | (with_reducible apply W_ss) | (with_reducible apply W_srl) | (with_reducible apply W_rl)
          | ((with_reducible apply W_sc); (conv => lhs; simp -implicitDefEqProofs [*]) <;> exact rfl)
          | ((with_reducible apply W_c); (conv => lhs; simp -implicitDefEqProofs [*]) <;> exact rfl)
          | ((with_reducible apply W_srdl); kernel_rfl) | ((with_reducible apply W_rdl); kernel_rfl)
          | ((with_reducible apply Wd_u); (conv => lhs; simp -implicitDefEqProofs [*]) <;> exact rfl)
          | ((with_reducible apply Wd_n); (conv => lhs; simp -implicitDefEqProofs [*]) <;> exact rfl)
          | ((with_reducible apply Wd_nil); exact rfl)
          | ((with_reducible apply Wd_gsT); (exact rfl); ((conv => lhs; simp -implicitDefEqProofs [*]) <;> exact rfl))
          | ((with_reducible apply Wd_gsF); (exact rfl); ((conv => lhs; simp -implicitDefEqProofs [*]) <;> exact rfl))
          | ((with_reducible apply ex4); (conv => lhs; simp -implicitDefEqProofs [*]) <;> exact rfl)
          | (with_reducible apply W_sblock) | (with_reducible apply W_block) | (with_reducible apply W_sskip) | (with_reducible apply W_skip) | (with_reducible apply W_sret) | (with_reducible apply W_ret) | (with_reducible apply W_sexit) | (with_reducible apply W_exit)
          | (with_reducible apply thenW_n) | (with_reducible apply thenW_r) | (with_reducible apply thenW_e) | (with_reducible apply inB_n) | (with_reducible apply inB_r) | (with_reducible apply inB_e) | ((with_reducible apply inB_o); rotate_left; exact rfl)
          | ((with_reducible apply EndQ_ret); (conv => lhs; simp -implicitDefEqProofs [*]) <;> exact rfl) | ((with_reducible apply EndQ_normal); (conv => lhs; simp -implicitDefEqProofs [*]) <;> exact rfl)
          | (intro h h'; try simp [*, -h] at h'))
        rw [eS]
        exact ⟨nofun, _, _, rfl, rfl, ⟨⟨hok2.len, hok2.wU, hok2.out, hok2.read, hok2.steps⟩, hst22, ⟨go2, ⟨by simp, by simp [*], by simp [*]⟩⟩, fun y hy y0 y5 y6 => by simp [y0]; exact HF2.out y hy y0 y5 y6⟩⟩
      · have e1 : stepB c ⟨w2, o2, rd2, stp2, 0⟩ = true := by simp [stepB]; omega
        have e2 : stepS c ⟨w2, o2, rd2, stp2, 0⟩ = ⟨w2, o2, rd2, stp2 + 1, 0⟩ := by simp [stepS, hfu]
        rw [e1, e2] at h37f
        have hst0 := hok2.steps
        simp only at hst0
        have okn : OkS c ⟨w2, o2, rd2, stp2 + 1, 0⟩ := ⟨hok2.len, hok2.wU, hok2.out, hok2.read, by show 0 ≤ stp2 + 1; omega⟩
        have HR3 := Lib.hid eR
        clear eR
        by_cases hen : f.blocks[pc].en = 3
        · have eS : S2 = ⟨w2, o2, rd2, stp2 + 1, 0⟩ := by rw [← HL.out, HR3.out]; simp [hfu, hen]
          repeat' (first
            | ((with_reducible apply Wo_u); (conv => lhs; simp -implicitDefEqProofs [*]) <;> exact rfl)
            | ((with_reducible apply Wo_n); (conv => lhs; simp -implicitDefEqProofs [*]) <;> exact rfl)
            | (with_reducible apply Wo_nil)
            | ((with_reducible apply Wo_gt); (exact rfl); ((conv => lhs; simp -implicitDefEqProofs [*]) <;> exact rfl); (conv => lhs; simp -implicitDefEqProofs [*]) <;> exact rfl)
            | ((with_reducible apply Wo_gf); (exact rfl); ((conv => lhs; simp -implicitDefEqProofs [*]) <;> exact rfl); (exact rfl))
            | ((with_reducible apply Wo_gx); (exact rfl); ((conv => lhs; simp -implicitDefEqProofs [*]) <;> exact rfl))
            | ((with_reducible apply Wo_gsT); (exact rfl); ((conv => lhs; simp -implicitDefEqProofs [*]) <;> exact rfl))
            | ((with_reducible apply Wo_gsF); (exact rfl); ((conv => lhs; simp -implicitDefEqProofs [*]) <;> exact rfl))
            | ((with_reducible apply ex2); (conv => lhs; simp -implicitDefEqProofs [*]) <;> exact rfl)
            | (with_reducible apply W_ss) | (with_reducible apply W_srl) | (with_reducible apply W_rl)
            | ((with_reducible apply W_sc); (conv => lhs; simp -implicitDefEqProofs [*]) <;> exact rfl)
            | ((with_reducible apply W_c); (conv => lhs; simp -implicitDefEqProofs [*]) <;> exact rfl)
            | ((with_reducible apply W_srdl); kernel_rfl) | ((with_reducible apply W_rdl); kernel_rfl)
            | ((with_reducible apply Wd_u); (conv => lhs; simp -implicitDefEqProofs [*]) <;> exact rfl)
            | ((with_reducible apply Wd_n); (conv => lhs; simp -implicitDefEqProofs [*]) <;> exact rfl)
            | ((with_reducible apply Wd_nil); exact rfl)
            | ((with_reducible apply Wd_gsT); (exact rfl); ((conv => lhs; simp -implicitDefEqProofs [*]) <;> exact rfl))
            | ((with_reducible apply Wd_gsF); (exact rfl); ((conv => lhs; simp -implicitDefEqProofs [*]) <;> exact rfl))
            | ((with_reducible apply ex4); (conv => lhs; simp -implicitDefEqProofs [*]) <;> exact rfl)
            | (with_reducible apply W_sblock) | (with_reducible apply W_block) | (with_reducible apply W_sskip) | (with_reducible apply W_skip) | (with_reducible apply W_sret) | (with_reducible apply W_ret) | (with_reducible apply W_sexit) | (with_reducible apply W_exit)
            | (with_reducible apply thenW_n) | (with_reducible apply thenW_r) | (with_reducible apply thenW_e) | (with_reducible apply inB_n) | (with_reducible apply inB_r) | (with_reducible apply inB_e) | ((with_reducible apply inB_o); rotate_left; exact rfl)
            | ((with_reducible apply EndQ_ret); (conv => lhs; simp -implicitDefEqProofs [*]) <;> exact rfl) | ((with_reducible apply EndQ_normal); (conv => lhs; simp -implicitDefEqProofs [*]) <;> exact rfl)
            | (intro h h'; try simp [*, -h] at h'))
          rw [eS]
          exact ⟨nofun, _, _, rfl, rfl, ⟨okn, ⟨by show s.steps ≤ stp2 + 1; omega, by show stp2 + 1 ≤ c.fuel; omega⟩, ⟨go2, ⟨by simp, by simp [*], by simp [*]⟩⟩, fun y hy y0 y5 y6 => by simp [y0]; exact HF2.out y hy y0 y5 y6⟩⟩
        · have hto := hG.to _ (List.getElem_mem hpc) hen
          by_cases hen2 : f.blocks[pc].en = 2
          · obtain ⟨hel, hv0, hv1⟩ := hG.el _ (List.getElem_mem hpc) hen2
            have hvl : f.blocks[pc].v.toNat < r2.length := by omega
            have hrv := rg_get (r := r2) hv0 (by omega)
            have hrx := rg_el (r := r2) (a := f.blocks[pc].v)
            have hvm : max f.blocks[pc].v 0 < f.regs := by omega
            by_cases hz : rg r2 f.blocks[pc].v = 0
            · have htm := hto.1
              repeat' (first
                | ((with_reducible apply Wo_u); (conv => lhs; simp -implicitDefEqProofs [*]) <;> exact rfl)
                | ((with_reducible apply Wo_n); (conv => lhs; simp -implicitDefEqProofs [*]) <;> exact rfl)
                | (with_reducible apply Wo_nil)
                | ((with_reducible apply Wo_gt); (exact rfl); ((conv => lhs; simp -implicitDefEqProofs [*]) <;> exact rfl); (conv => lhs; simp -implicitDefEqProofs [*]) <;> exact rfl)
                | ((with_reducible apply Wo_gf); (exact rfl); ((conv => lhs; simp -implicitDefEqProofs [*]) <;> exact rfl); (exact rfl))
                | ((with_reducible apply Wo_gx); (exact rfl); ((conv => lhs; simp -implicitDefEqProofs [*]) <;> exact rfl))
                | ((with_reducible apply Wo_gsT); (exact rfl); ((conv => lhs; simp -implicitDefEqProofs [*]) <;> exact rfl))
                | ((with_reducible apply Wo_gsF); (exact rfl); ((conv => lhs; simp -implicitDefEqProofs [*]) <;> exact rfl))
                | ((with_reducible apply ex2); (conv => lhs; simp -implicitDefEqProofs [*]) <;> exact rfl)
                | (with_reducible apply W_ss) | (with_reducible apply W_srl) | (with_reducible apply W_rl)
                | ((with_reducible apply W_sc); (conv => lhs; simp -implicitDefEqProofs [*]) <;> exact rfl)
                | ((with_reducible apply W_c); (conv => lhs; simp -implicitDefEqProofs [*]) <;> exact rfl)
                | ((with_reducible apply W_srdl); kernel_rfl) | ((with_reducible apply W_rdl); kernel_rfl)
                | ((with_reducible apply Wd_u); (conv => lhs; simp -implicitDefEqProofs [*]) <;> exact rfl)
                | ((with_reducible apply Wd_n); (conv => lhs; simp -implicitDefEqProofs [*]) <;> exact rfl)
                | ((with_reducible apply Wd_nil); exact rfl)
                | ((with_reducible apply Wd_gsT); (exact rfl); ((conv => lhs; simp -implicitDefEqProofs [*]) <;> exact rfl))
                | ((with_reducible apply Wd_gsF); (exact rfl); ((conv => lhs; simp -implicitDefEqProofs [*]) <;> exact rfl))
                | ((with_reducible apply ex4); (conv => lhs; simp -implicitDefEqProofs [*]) <;> exact rfl)
                | (with_reducible apply W_sblock) | (with_reducible apply W_block) | (with_reducible apply W_sskip) | (with_reducible apply W_skip) | (with_reducible apply W_sret) | (with_reducible apply W_ret) | (with_reducible apply W_sexit) | (with_reducible apply W_exit)
                | (with_reducible apply thenW_n) | (with_reducible apply thenW_r) | (with_reducible apply thenW_e) | (with_reducible apply inB_n) | (with_reducible apply inB_r) | (with_reducible apply inB_e) | ((with_reducible apply inB_o); rotate_left; exact rfl)
                | ((with_reducible apply EndQ_ret); (conv => lhs; simp -implicitDefEqProofs [*]) <;> exact rfl) | ((with_reducible apply EndQ_normal); (conv => lhs; simp -implicitDefEqProofs [*]) <;> exact rfl)
                | (intro h h'; try simp [*, -h] at h'))
              have hL3 : loopS c apD m f f.blocks[pc].el ⟨w2, o2, rd2, stp2 + 1, 0⟩ r2 = S2 := by
                have := HL.out
                rw [HR3.out] at this
                simpa [hfu, hen, hen2, hz] using this
              obtain ⟨T, hT⟩ : ∃ T : Nat, f.blocks[pc].el = T := ⟨f.blocks[pc].el.toNat, by omega⟩
              rw [hT] at hL3
              exact ⟨m, by omega, ⟨w2, o2, rd2, stp2 + 1, 0⟩, r2, T, go2, by omega, by show c.fuel - (stp2 + 1) < m; omega, hL3, ⟨okn, rfl, ⟨by show s.steps ≤ stp2 + 1; omega, by show stp2 + 1 ≤ c.fuel; omega⟩, hrU2, hrl2⟩, by omega, by simp [hT], by simp [*], by simp [*], by simp [*], by simp [*], by simp, by simp [*], by simp [*], by simp [*], fun y hy y0 y5 y6 => by simp [y0]; exact HF2.out y hy y0 y5 y6⟩
            · have htm := hto.1
              repeat' (first
                | ((with_reducible apply Wo_u); (conv => lhs; simp -implicitDefEqProofs [*]) <;> exact rfl)
                | ((with_reducible apply Wo_n); (conv => lhs; simp -implicitDefEqProofs [*]) <;> exact rfl)
                | (with_reducible apply Wo_nil)
                | ((with_reducible apply Wo_gt); (exact rfl); ((conv => lhs; simp -implicitDefEqProofs [*]) <;> exact rfl); (conv => lhs; simp -implicitDefEqProofs [*]) <;> exact rfl)
                | ((with_reducible apply Wo_gf); (exact rfl); ((conv => lhs; simp -implicitDefEqProofs [*]) <;> exact rfl); (exact rfl))
                | ((with_reducible apply Wo_gx); (exact rfl); ((conv => lhs; simp -implicitDefEqProofs [*]) <;> exact rfl))
                | ((with_reducible apply Wo_gsT); (exact rfl); ((conv => lhs; simp -implicitDefEqProofs [*]) <;> exact rfl))
                | ((with_reducible apply Wo_gsF); (exact rfl); ((conv => lhs; simp -implicitDefEqProofs [*]) <;> exact rfl))
                | ((with_reducible apply ex2); (conv => lhs; simp -implicitDefEqProofs [*]) <;> exact rfl)
                | (with_reducible apply W_ss) | (with_reducible apply W_srl) | (with_reducible apply W_rl)
                | ((with_reducible apply W_sc); (conv => lhs; simp -implicitDefEqProofs [*]) <;> exact rfl)
                | ((with_reducible apply W_c); (conv => lhs; simp -implicitDefEqProofs [*]) <;> exact rfl)
                | ((with_reducible apply W_srdl); kernel_rfl) | ((with_reducible apply W_rdl); kernel_rfl)
                | ((with_reducible apply Wd_u); (conv => lhs; simp -implicitDefEqProofs [*]) <;> exact rfl)
                | ((with_reducible apply Wd_n); (conv => lhs; simp -implicitDefEqProofs [*]) <;> exact rfl)
                | ((with_reducible apply Wd_nil); exact rfl)
                | ((with_reducible apply Wd_gsT); (exact rfl); ((conv => lhs; simp -implicitDefEqProofs [*]) <;> exact rfl))
                | ((with_reducible apply Wd_gsF); (exact rfl); ((conv => lhs; simp -implicitDefEqProofs [*]) <;> exact rfl))
                | ((with_reducible apply ex4); (conv => lhs; simp -implicitDefEqProofs [*]) <;> exact rfl)
                | (with_reducible apply W_sblock) | (with_reducible apply W_block) | (with_reducible apply W_sskip) | (with_reducible apply W_skip) | (with_reducible apply W_sret) | (with_reducible apply W_ret) | (with_reducible apply W_sexit) | (with_reducible apply W_exit)
                | (with_reducible apply thenW_n) | (with_reducible apply thenW_r) | (with_reducible apply thenW_e) | (with_reducible apply inB_n) | (with_reducible apply inB_r) | (with_reducible apply inB_e) | ((with_reducible apply inB_o); rotate_left; exact rfl)
                | ((with_reducible apply EndQ_ret); (conv => lhs; simp -implicitDefEqProofs [*]) <;> exact rfl) | ((with_reducible apply EndQ_normal); (conv => lhs; simp -implicitDefEqProofs [*]) <;> exact rfl)
                | (intro h h'; try simp [*, -h] at h'))
              have hL3 : loopS c apD m f f.blocks[pc].to ⟨w2, o2, rd2, stp2 + 1, 0⟩ r2 = S2 := by
                have := HL.out
                rw [HR3.out] at this
                simpa [hfu, hen, hen2, hz] using this
              obtain ⟨T, hT⟩ : ∃ T : Nat, f.blocks[pc].to = T := ⟨f.blocks[pc].to.toNat, by omega⟩
              rw [hT] at hL3
              exact ⟨m, by omega, ⟨w2, o2, rd2, stp2 + 1, 0⟩, r2, T, go2, by omega, by show c.fuel - (stp2 + 1) < m; omega, hL3, ⟨okn, rfl, ⟨by show s.steps ≤ stp2 + 1; omega, by show stp2 + 1 ≤ c.fuel; omega⟩, hrU2, hrl2⟩, by omega, by simp [hT], by simp [*], by simp [*], by simp [*], by simp [*], by simp, by simp [*], by simp [*], by simp [*], fun y hy y0 y5 y6 => by simp [y0]; exact HF2.out y hy y0 y5 y6⟩
          · have hen1 : f.blocks[pc].en = 1 := by have := hG.en _ (List.getElem_mem hpc); omega
            repeat' (first
              | ((with_reducible apply Wo_u); (conv => lhs; simp -implicitDefEqProofs [*]) <;> exact rfl)
              | ((with_reducible apply Wo_n); (conv => lhs; simp -implicitDefEqProofs [*]) <;> exact rfl)
              | (with_reducible apply Wo_nil)
              | ((with_reducible apply Wo_gt); (exact rfl); ((conv => lhs; simp -implicitDefEqProofs [*]) <;> exact rfl); (conv => lhs; simp -implicitDefEqProofs [*]) <;> exact rfl)
              | ((with_reducible apply Wo_gf); (exact rfl); ((conv => lhs; simp -implicitDefEqProofs [*]) <;> exact rfl); (exact rfl))
              | ((with_reducible apply Wo_gx); (exact rfl); ((conv => lhs; simp -implicitDefEqProofs [*]) <;> exact rfl))
              | ((with_reducible apply Wo_gsT); (exact rfl); ((conv => lhs; simp -implicitDefEqProofs [*]) <;> exact rfl))
              | ((with_reducible apply Wo_gsF); (exact rfl); ((conv => lhs; simp -implicitDefEqProofs [*]) <;> exact rfl))
              | ((with_reducible apply ex2); (conv => lhs; simp -implicitDefEqProofs [*]) <;> exact rfl)
              | (with_reducible apply W_ss) | (with_reducible apply W_srl) | (with_reducible apply W_rl)
              | ((with_reducible apply W_sc); (conv => lhs; simp -implicitDefEqProofs [*]) <;> exact rfl)
              | ((with_reducible apply W_c); (conv => lhs; simp -implicitDefEqProofs [*]) <;> exact rfl)
              | ((with_reducible apply W_srdl); kernel_rfl) | ((with_reducible apply W_rdl); kernel_rfl)
              | ((with_reducible apply Wd_u); (conv => lhs; simp -implicitDefEqProofs [*]) <;> exact rfl)
              | ((with_reducible apply Wd_n); (conv => lhs; simp -implicitDefEqProofs [*]) <;> exact rfl)
              | ((with_reducible apply Wd_nil); exact rfl)
              | ((with_reducible apply Wd_gsT); (exact rfl); ((conv => lhs; simp -implicitDefEqProofs [*]) <;> exact rfl))
              | ((with_reducible apply Wd_gsF); (exact rfl); ((conv => lhs; simp -implicitDefEqProofs [*]) <;> exact rfl))
              | ((with_reducible apply ex4); (conv => lhs; simp -implicitDefEqProofs [*]) <;> exact rfl)
              | (with_reducible apply W_sblock) | (with_reducible apply W_block) | (with_reducible apply W_sskip) | (with_reducible apply W_skip) | (with_reducible apply W_sret) | (with_reducible apply W_ret) | (with_reducible apply W_sexit) | (with_reducible apply W_exit)
              | (with_reducible apply thenW_n) | (with_reducible apply thenW_r) | (with_reducible apply thenW_e) | (with_reducible apply inB_n) | (with_reducible apply inB_r) | (with_reducible apply inB_e) | ((with_reducible apply inB_o); rotate_left; exact rfl)
              | ((with_reducible apply EndQ_ret); (conv => lhs; simp -implicitDefEqProofs [*]) <;> exact rfl) | ((with_reducible apply EndQ_normal); (conv => lhs; simp -implicitDefEqProofs [*]) <;> exact rfl)
              | (intro h h'; try simp [*, -h] at h'))
            have hL3 : loopS c apD m f f.blocks[pc].to ⟨w2, o2, rd2, stp2 + 1, 0⟩ r2 = S2 := by
              have := HL.out
              rw [HR3.out] at this
              simpa [hfu, hen, hen2] using this
            obtain ⟨T, hT⟩ : ∃ T : Nat, f.blocks[pc].to = T := ⟨f.blocks[pc].to.toNat, by omega⟩
            rw [hT] at hL3
            exact ⟨m, by omega, ⟨w2, o2, rd2, stp2 + 1, 0⟩, r2, T, go2, by omega, by show c.fuel - (stp2 + 1) < m; omega, hL3, ⟨okn, rfl, ⟨by show s.steps ≤ stp2 + 1; omega, by show stp2 + 1 ≤ c.fuel; omega⟩, hrU2, hrl2⟩, by omega, by simp [hT], by simp [*], by simp [*], by simp [*], by simp [*], by simp, by simp [*], by simp [*], by simp [*], fun y hy y0 y5 y6 => by simp [y0]; exact HF2.out y hy y0 y5 y6⟩
  obtain ⟨v, hp', h1, rfl, h2⟩ := key
  exact ⟨hp', h1, h2⟩
end Go.Proofs.Ytmfhdhiaokejdaa

namespace Go.Proofs.Ytmfhdhiaokejdaa
open Go Go.Ab
set_option linter.unusedSimpArgs false
set_option linter.unusedVariables false
def bytesL (l : List Int) : List UInt8 := l.map fun x => UInt8.ofNat x.toNat
theorem bytes_rowB : ∀ l : List Int, bytesOfRows (rowB l) = some (bytesL l)
  | [] => rfl
  | x :: l => by
    have := bytes_rowB l
    unfold rowB at this ⊢
    simp only [List.map_cons, bytesOfRows, this, Option.map_some, bytesL]
/-- How a run begins. -/
def beginS (c : RC) : RS := ⟨List.replicate c.nw.toNat 0, [], 0, 0, 0⟩
noncomputable def runS (c : RC) : RS := callS c apD (c.fuel.toNat + 1) (c.fs.length - 1 : Nat) (beginS c)
/-- What a run tells. -/
def tellS (s : RS) : List AV := [iv (if s.fin = 0 then 1 else s.fin), .sc (.string ⟨⟨bytesL s.out⟩⟩), iv s.steps]
set_option maxHeartbeats 4000000 in
theorem d20 (c : RC) (hc : OkC c) (h0 : 0 ≤ c.nw) (hf0 : 0 ≤ c.fuel) (hl : 0 < c.fs.length) (hlm : c.fs.length ≤ 1048576) (hg : ∀ (i : Nat) f, c.fs[i]? = some f → FnGood f i c.nw) : (lim Try.prog E31 X31).dat 20 [.agg [iv c.nw, .sl false 2 (c.fs.map Fn.row)], .sc (.string c.inp), iv c.fuel] = some [.agg (tellS (runS c))] := by
  refine fnW Try.func20 rfl rfl bodyOk_20 rfl rtys_20 rfl ?_
  have hnw := hc.nw
  have r1 : c.nw * 4 ≤ 140737488355328 := by omega
  have r2 : c.nw ≤ 9223372036854775807 := by omega
  have r3 : c.nw ≤ 35184372088832 := by omega
  have hne : ¬ c.fs = [] := fun e => by rw [e] at hl; simp at hl
  have hne2 : ¬ (c.fs.length : Int) = 0 := by omega
  have hfn : ¬ c.fuel < 0 := by omega
  have hw1 : IntKind.i64.wrap ((c.fs.length : Int) - 1) = (c.fs.length : Int) - 1 := wrap64 (by omega) (by omega)
  have hi : ((c.fs.length - 1 : Nat) : Int) = (c.fs.length : Int) - 1 := by omega
  have hb : OkS c (beginS c) := ⟨by simp [beginS]; omega, fun x hx => by rw [List.eq_of_mem_replicate hx]; unfold U; omega, by simp [beginS], Int.le_refl _, Int.le_refl _⟩
  have h1 : ∀ hp1 : Hp, ∃ hp3 go, hp1 ⟨0, 22, 0⟩ = .box 1 [AV.sc (Value.int IntKind.i64 c.nw), AV.sl false 2 (List.map Fn.row c.fs), AV.sc (Value.string c.inp), AV.sc (Value.int IntKind.i64 c.fuel), AV.own ⟨0, 22, 5⟩ 1 c.nw.toNat, AV.own ⟨0, 22, 6⟩ 1 0, AV.sc (Value.int IntKind.i64 0), AV.sc (Value.int IntKind.i64 0), AV.sc (Value.int IntKind.i64 0)] false → hp1 ⟨0, 22, 6⟩ = .arr 1 1 5 [] false → hp1 ⟨0, 22, 5⟩ = .arr 1 1 38 (List.replicate c.nw.toNat [AV.sc (Value.int IntKind.u32 0)]) false → (lim Try.prog E31 X31).hpc 0 28 29 [.ptr ⟨0, 22, 0⟩ 1 0, iv ((c.fs.length : Int) - 1)] hp1 = some (.tup [], hp3) ∧ RunAt c 1 1 go hp3 (runS c) ∧ Far 0 hp1 hp3 := fun hp1 => by
    by_cases hc0 : hp1 ⟨0, 22, 0⟩ = .box 1 [AV.sc (Value.int IntKind.i64 c.nw), AV.sl false 2 (List.map Fn.row c.fs), AV.sc (Value.string c.inp), AV.sc (Value.int IntKind.i64 c.fuel), AV.own ⟨0, 22, 5⟩ 1 c.nw.toNat, AV.own ⟨0, 22, 6⟩ 1 0, AV.sc (Value.int IntKind.i64 0), AV.sc (Value.int IntKind.i64 0), AV.sc (Value.int IntKind.i64 0)] false ∧ hp1 ⟨0, 22, 6⟩ = .arr 1 1 5 [] false ∧ hp1 ⟨0, 22, 5⟩ = .arr 1 1 38 (List.replicate c.nw.toNat [AV.sc (Value.int IntKind.u32 0)]) false
    · obtain ⟨hp3, x1, x2⟩ := h29 c hc hg (c.fuel.toNat + 1) 0 28 1 1 1 (beginS c) (c.fs.length - 1) hp1 ⟨by rw [hc0.1]; simp [beginS], by rw [hc0.2.1]; simp [beginS], by rw [hc0.2.2]; simp [beginS]⟩ hb rfl hf0 (by show c.fuel - 0 < _; omega) (by omega)
      obtain ⟨go, x3⟩ := x2.run
      rw [hi] at x1
      exact ⟨hp3, go, fun _ _ _ => ⟨x1, x3, x2.far⟩⟩
    · exact ⟨hp1, 0, fun a1 a2 a3 => (hc0 ⟨a1, a2, a3⟩).elim⟩
  obtain ⟨F, hF⟩ := Classical.skolem.1 h1
  obtain ⟨G, hG⟩ := Classical.skolem.1 hF
  clear h1 hF
  generalize hS : runS c = S at hG
  obtain ⟨w, o, rd, stp, fin⟩ := S
  have f1 : ∀ hp1, hp1 ⟨0, 22, 0⟩ = .box 1 [AV.sc (Value.int IntKind.i64 c.nw), AV.sl false 2 (List.map Fn.row c.fs), AV.sc (Value.string c.inp), AV.sc (Value.int IntKind.i64 c.fuel), AV.own ⟨0, 22, 5⟩ 1 c.nw.toNat, AV.own ⟨0, 22, 6⟩ 1 0, AV.sc (Value.int IntKind.i64 0), AV.sc (Value.int IntKind.i64 0), AV.sc (Value.int IntKind.i64 0)] false → hp1 ⟨0, 22, 6⟩ = .arr 1 1 5 [] false → hp1 ⟨0, 22, 5⟩ = .arr 1 1 38 (List.replicate c.nw.toNat [AV.sc (Value.int IntKind.u32 0)]) false → (lim Try.prog E31 X31).hpc 0 28 29 [.ptr ⟨0, 22, 0⟩ 1 0, iv ((c.fs.length : Int) - 1)] hp1 = some (.tup [], F hp1) := fun hp1 a1 a2 a3 => (hG hp1 a1 a2 a3).1
  have f2 : ∀ hp1, hp1 ⟨0, 22, 0⟩ = .box 1 [AV.sc (Value.int IntKind.i64 c.nw), AV.sl false 2 (List.map Fn.row c.fs), AV.sc (Value.string c.inp), AV.sc (Value.int IntKind.i64 c.fuel), AV.own ⟨0, 22, 5⟩ 1 c.nw.toNat, AV.own ⟨0, 22, 6⟩ 1 0, AV.sc (Value.int IntKind.i64 0), AV.sc (Value.int IntKind.i64 0), AV.sc (Value.int IntKind.i64 0)] false → hp1 ⟨0, 22, 6⟩ = .arr 1 1 5 [] false → hp1 ⟨0, 22, 5⟩ = .arr 1 1 38 (List.replicate c.nw.toNat [AV.sc (Value.int IntKind.u32 0)]) false → F hp1 ⟨0, 22, 0⟩ = .box 1 [iv c.nw, .sl false 2 (c.fs.map Fn.row), .sc (.string c.inp), iv c.fuel, .own ⟨0, 22, 5⟩ 1 w.length, .own ⟨0, 22, 6⟩ (G hp1) o.length, iv rd, iv stp, iv fin] false := fun hp1 a1 a2 a3 => (hG hp1 a1 a2 a3).2.1.box
  have f3 : ∀ hp1, hp1 ⟨0, 22, 0⟩ = .box 1 [AV.sc (Value.int IntKind.i64 c.nw), AV.sl false 2 (List.map Fn.row c.fs), AV.sc (Value.string c.inp), AV.sc (Value.int IntKind.i64 c.fuel), AV.own ⟨0, 22, 5⟩ 1 c.nw.toNat, AV.own ⟨0, 22, 6⟩ 1 0, AV.sc (Value.int IntKind.i64 0), AV.sc (Value.int IntKind.i64 0), AV.sc (Value.int IntKind.i64 0)] false → hp1 ⟨0, 22, 6⟩ = .arr 1 1 5 [] false → hp1 ⟨0, 22, 5⟩ = .arr 1 1 38 (List.replicate c.nw.toNat [AV.sc (Value.int IntKind.u32 0)]) false → F hp1 ⟨0, 22, 6⟩ = .arr (G hp1) 1 5 (rowB o) false := fun hp1 a1 a2 a3 => (hG hp1 a1 a2 a3).2.1.out
  have f4 : ∀ hp1, hp1 ⟨0, 22, 0⟩ = .box 1 [AV.sc (Value.int IntKind.i64 c.nw), AV.sl false 2 (List.map Fn.row c.fs), AV.sc (Value.string c.inp), AV.sc (Value.int IntKind.i64 c.fuel), AV.own ⟨0, 22, 5⟩ 1 c.nw.toNat, AV.own ⟨0, 22, 6⟩ 1 0, AV.sc (Value.int IntKind.i64 0), AV.sc (Value.int IntKind.i64 0), AV.sc (Value.int IntKind.i64 0)] false → hp1 ⟨0, 22, 6⟩ = .arr 1 1 5 [] false → hp1 ⟨0, 22, 5⟩ = .arr 1 1 38 (List.replicate c.nw.toNat [AV.sc (Value.int IntKind.u32 0)]) false → F hp1 ⟨0, 22, 5⟩ = .arr 1 1 38 (rowU w) false := fun hp1 a1 a2 a3 => (hG hp1 a1 a2 a3).2.1.words
  have f5 : ∀ hp1, hp1 ⟨0, 22, 0⟩ = .box 1 [AV.sc (Value.int IntKind.i64 c.nw), AV.sl false 2 (List.map Fn.row c.fs), AV.sc (Value.string c.inp), AV.sc (Value.int IntKind.i64 c.fuel), AV.own ⟨0, 22, 5⟩ 1 c.nw.toNat, AV.own ⟨0, 22, 6⟩ 1 0, AV.sc (Value.int IntKind.i64 0), AV.sc (Value.int IntKind.i64 0), AV.sc (Value.int IntKind.i64 0)] false → hp1 ⟨0, 22, 6⟩ = .arr 1 1 5 [] false → hp1 ⟨0, 22, 5⟩ = .arr 1 1 38 (List.replicate c.nw.toNat [AV.sc (Value.int IntKind.u32 0)]) false → F hp1 ⟨0, 3, 0⟩ = hp1 ⟨0, 3, 0⟩ := fun hp1 a1 a2 a3 => (hG hp1 a1 a2 a3).2.2 _ (Nat.le_refl _) (by simp) (by simp) (by simp)
  have f6 : ∀ hp1, hp1 ⟨0, 22, 0⟩ = .box 1 [AV.sc (Value.int IntKind.i64 c.nw), AV.sl false 2 (List.map Fn.row c.fs), AV.sc (Value.string c.inp), AV.sc (Value.int IntKind.i64 c.fuel), AV.own ⟨0, 22, 5⟩ 1 c.nw.toNat, AV.own ⟨0, 22, 6⟩ 1 0, AV.sc (Value.int IntKind.i64 0), AV.sc (Value.int IntKind.i64 0), AV.sc (Value.int IntKind.i64 0)] false → hp1 ⟨0, 22, 6⟩ = .arr 1 1 5 [] false → hp1 ⟨0, 22, 5⟩ = .arr 1 1 38 (List.replicate c.nw.toNat [AV.sc (Value.int IntKind.u32 0)]) false → F hp1 ⟨0, 6, 0⟩ = hp1 ⟨0, 6, 0⟩ := fun hp1 a1 a2 a3 => (hG hp1 a1 a2 a3).2.2 _ (Nat.le_refl _) (by simp) (by simp) (by simp)
  clear hG
  have hby := bytes_rowB o
  have htk : (rowB o).take o.length = rowB o := List.take_of_length_le (by simp)
  repeat' (first
    | ((with_reducible apply Wo_u); (conv => lhs; simp -implicitDefEqProofs [*]) <;> exact rfl)
    | ((with_reducible apply Wo_n); (conv => lhs; simp -implicitDefEqProofs [*]) <;> exact rfl)
    | (with_reducible apply Wo_nil)
    | ((with_reducible apply Wo_gt); (exact rfl); ((conv => lhs; simp -implicitDefEqProofs [*]) <;> exact rfl); (conv => lhs; simp -implicitDefEqProofs [*]) <;> exact rfl)
    | ((with_reducible apply Wo_gf); (exact rfl); ((conv => lhs; simp -implicitDefEqProofs [*]) <;> exact rfl); (exact rfl))
    | ((with_reducible apply Wo_gx); (exact rfl); ((conv => lhs; simp -implicitDefEqProofs [*]) <;> exact rfl))
    | ((with_reducible apply Wo_gsT); (exact rfl); ((conv => lhs; simp -implicitDefEqProofs [*]) <;> exact rfl))
    | ((with_reducible apply Wo_gsF); (exact rfl); ((conv => lhs; simp -implicitDefEqProofs [*]) <;> exact rfl))
    | ((with_reducible apply ex2); (conv => lhs; simp -implicitDefEqProofs [*]) <;> exact rfl)
    | (with_reducible apply W_ss) | (with_reducible apply W_srl) | (with_reducible apply W_rl)
    | ((with_reducible apply W_sc); (conv => lhs; simp -implicitDefEqProofs [*]) <;> exact rfl)
    | ((with_reducible apply W_c); (conv => lhs; simp -implicitDefEqProofs [*]) <;> exact rfl)
    | ((with_reducible apply W_srdl); kernel_rfl) | ((with_reducible apply W_rdl); kernel_rfl)
    | ((with_reducible apply Wd_u); (conv => lhs; simp -implicitDefEqProofs [*]) <;> exact rfl)
    | ((with_reducible apply Wd_n); (conv => lhs; simp -implicitDefEqProofs [*]) <;> exact rfl)
    | ((with_reducible apply Wd_nil); exact rfl)
    | ((with_reducible apply Wd_gsT); (exact rfl); ((conv => lhs; simp -implicitDefEqProofs [*]) <;> exact rfl))
    | ((with_reducible apply Wd_gsF); (exact rfl); ((conv => lhs; simp -implicitDefEqProofs [*]) <;> exact rfl))
    | ((with_reducible apply ex4); (conv => lhs; simp -implicitDefEqProofs [*]) <;> exact rfl)
    | (with_reducible apply W_sblock) | (with_reducible apply W_block) | (with_reducible apply W_sskip) | (with_reducible apply W_skip) | (with_reducible apply W_sret) | (with_reducible apply W_ret) | (with_reducible apply W_sexit) | (with_reducible apply W_exit)
    | (with_reducible apply thenW_n) | (with_reducible apply thenW_r) | (with_reducible apply thenW_e) | (with_reducible apply inB_n) | (with_reducible apply inB_r) | (with_reducible apply inB_e) | ((with_reducible apply inB_o); rotate_left; exact rfl)
    | ((with_reducible apply EndQ_ret); (conv => lhs; simp -implicitDefEqProofs [*]) <;> exact rfl) | ((with_reducible apply EndQ_normal); (conv => lhs; simp -implicitDefEqProofs [*]) <;> exact rfl)
    | (intro h h'; try simp [*, -h] at h'))
  all_goals simp [tellS, *]
def RightP (nw : Int) (fs : List Fn) : Prop := 0 ≤ nw ∧ nw ≤ 1048576 ∧ fs ≠ [] ∧ ∀ (i : Nat) f, fs[i]? = some f → oneB f i nw = true
open Classical in
noncomputable def rightB (nw : Int) (fs : List Fn) : Bool := decide (RightP nw fs)
theorem rightB_t {nw : Int} {fs : List Fn} (h : RightP nw fs) : rightB nw fs = true := by simp [rightB, h]
theorem rightB_f {nw : Int} {fs : List Fn} (h : ¬ RightP nw fs) : rightB nw fs = false := by simp [rightB, h]
set_option maxHeartbeats 4000000 in
theorem d19 (nw : Int) (fs : List Fn) (hl : fs.length ≤ 1048576) (hf : ∀ f ∈ fs, f.fits) : (lim Try.prog E31 X31).dat 19 [.agg [iv nw, .sl false 2 (fs.map Fn.row)]] = some [bv (rightB nw fs)] := by
  refine fnW Try.func19 rfl rfl bodyOk_19 rfl rtys_19 rfl ?_
  by_cases h1 : 0 ≤ nw
  all_goals by_cases h2 : nw ≤ 1048576
  all_goals by_cases h3 : fs = []
  rotate_left
  · have hne : ¬ (fs.length : Int) = 0 := by have := List.length_pos_iff.2 h3; omega
    have n1 : ¬ nw < 0 := by omega
    have n2 : ¬ 1048576 < nw := by omega
    have Hf := Lib.hid hf
    clear hf
    repeat' (first
      | ((with_reducible apply Wo_u); (conv => lhs; simp -implicitDefEqProofs [*]) <;> exact rfl)
      | ((with_reducible apply Wo_n); (conv => lhs; simp -implicitDefEqProofs [*]) <;> exact rfl)
      | (with_reducible apply Wo_nil)
      | ((with_reducible apply Wo_gt); (exact rfl); ((conv => lhs; simp -implicitDefEqProofs [*]) <;> exact rfl); (conv => lhs; simp -implicitDefEqProofs [*]) <;> exact rfl)
      | ((with_reducible apply Wo_gf); (exact rfl); ((conv => lhs; simp -implicitDefEqProofs [*]) <;> exact rfl); (exact rfl))
      | ((with_reducible apply Wo_gx); (exact rfl); ((conv => lhs; simp -implicitDefEqProofs [*]) <;> exact rfl))
      | ((with_reducible apply Wo_gsT); (exact rfl); ((conv => lhs; simp -implicitDefEqProofs [*]) <;> exact rfl))
      | ((with_reducible apply Wo_gsF); (exact rfl); ((conv => lhs; simp -implicitDefEqProofs [*]) <;> exact rfl))
      | ((with_reducible apply ex2); (conv => lhs; simp -implicitDefEqProofs [*]) <;> exact rfl)
      | (with_reducible apply W_ss) | (with_reducible apply W_srl) | (with_reducible apply W_rl)
      | ((with_reducible apply W_sc); (conv => lhs; simp -implicitDefEqProofs [*]) <;> exact rfl)
      | ((with_reducible apply W_c); (conv => lhs; simp -implicitDefEqProofs [*]) <;> exact rfl)
      | ((with_reducible apply W_srdl); kernel_rfl) | ((with_reducible apply W_rdl); kernel_rfl)
      | ((with_reducible apply Wd_u); (conv => lhs; simp -implicitDefEqProofs [*]) <;> exact rfl)
      | ((with_reducible apply Wd_n); (conv => lhs; simp -implicitDefEqProofs [*]) <;> exact rfl)
      | ((with_reducible apply Wd_nil); exact rfl)
      | ((with_reducible apply Wd_gsT); (exact rfl); ((conv => lhs; simp -implicitDefEqProofs [*]) <;> exact rfl))
      | ((with_reducible apply Wd_gsF); (exact rfl); ((conv => lhs; simp -implicitDefEqProofs [*]) <;> exact rfl))
      | ((with_reducible apply ex4); (conv => lhs; simp -implicitDefEqProofs [*]) <;> exact rfl)
      | (with_reducible apply W_sblock) | (with_reducible apply W_block) | (with_reducible apply W_sskip) | (with_reducible apply W_skip) | (with_reducible apply W_sret) | (with_reducible apply W_ret) | (with_reducible apply W_sexit) | (with_reducible apply W_exit)
      | (with_reducible apply thenW_n) | (with_reducible apply thenW_r) | (with_reducible apply thenW_e) | (with_reducible apply inB_n) | (with_reducible apply inB_r) | (with_reducible apply inB_e) | ((with_reducible apply inB_o); rotate_left; exact rfl)
      | ((with_reducible apply EndQ_ret); (conv => lhs; simp -implicitDefEqProofs [*]) <;> exact rfl) | ((with_reducible apply EndQ_normal); (conv => lhs; simp -implicitDefEqProofs [*]) <;> exact rfl)
      | (intro h h'; try simp [*, -h] at h'))
    refine W_loopS (n := fs.length) (fun s0 m s => ∃ k : Nat, m = fs.length - k ∧ k ≤ fs.length ∧ s.fr 3 = iv k ∧ s.fr 1 = s0.fr 1 ∧ s.hp ⟨0, 1, 0⟩ = s0.hp ⟨0, 1, 0⟩ ∧ (∀ (i : Nat) f, i < k → fs[i]? = some f → oneB f i nw = true)) ⟨0, by simp, by first | omega | simp, by simp, by simp, by simp, by intro i f hi; omega⟩ ?_
    rintro m ⟨fr, hp⟩ ⟨k, rfl, hk, hs3, hs1, hh1, hP⟩
    simp at hs3 hs1 hh1
    have HP := Lib.hid hP
    clear hP
    by_cases hlt : k < fs.length
    · have hg := List.getElem?_eq_getElem hlt
      have hw := wrapN (k := k) (by omega)
      have h15 := d15 fs[k] k nw (Hf.out _ (List.getElem_mem hlt)) h1 h2
      cases h1b : oneB fs[k] k nw with
      | true =>
        rw [h1b] at h15
        repeat' (first
          | ((with_reducible apply Wo_u); (conv => lhs; simp -implicitDefEqProofs [*]) <;> exact rfl)
          | ((with_reducible apply Wo_n); (conv => lhs; simp -implicitDefEqProofs [*]) <;> exact rfl)
          | (with_reducible apply Wo_nil)
          | ((with_reducible apply Wo_gt); (exact rfl); ((conv => lhs; simp -implicitDefEqProofs [*]) <;> exact rfl); (conv => lhs; simp -implicitDefEqProofs [*]) <;> exact rfl)
          | ((with_reducible apply Wo_gf); (exact rfl); ((conv => lhs; simp -implicitDefEqProofs [*]) <;> exact rfl); (exact rfl))
          | ((with_reducible apply Wo_gx); (exact rfl); ((conv => lhs; simp -implicitDefEqProofs [*]) <;> exact rfl))
          | ((with_reducible apply Wo_gsT); (exact rfl); ((conv => lhs; simp -implicitDefEqProofs [*]) <;> exact rfl))
          | ((with_reducible apply Wo_gsF); (exact rfl); ((conv => lhs; simp -implicitDefEqProofs [*]) <;> exact rfl))
          | ((with_reducible apply ex2); (conv => lhs; simp -implicitDefEqProofs [*]) <;> exact rfl)
          | (with_reducible apply W_ss) | (with_reducible apply W_srl) | (with_reducible apply W_rl)
          | ((with_reducible apply W_sc); (conv => lhs; simp -implicitDefEqProofs [*]) <;> exact rfl)
          | ((with_reducible apply W_c); (conv => lhs; simp -implicitDefEqProofs [*]) <;> exact rfl)
          | ((with_reducible apply W_srdl); kernel_rfl) | ((with_reducible apply W_rdl); kernel_rfl)
          | ((with_reducible apply Wd_u); (conv => lhs; simp -implicitDefEqProofs [*]) <;> exact rfl)
          | ((with_reducible apply Wd_n); (conv => lhs; simp -implicitDefEqProofs [*]) <;> exact rfl)
          | ((with_reducible apply Wd_nil); exact rfl)
          | ((with_reducible apply Wd_gsT); (exact rfl); ((conv => lhs; simp -implicitDefEqProofs [*]) <;> exact rfl))
          | ((with_reducible apply Wd_gsF); (exact rfl); ((conv => lhs; simp -implicitDefEqProofs [*]) <;> exact rfl))
          | ((with_reducible apply ex4); (conv => lhs; simp -implicitDefEqProofs [*]) <;> exact rfl)
          | (with_reducible apply W_sblock) | (with_reducible apply W_block) | (with_reducible apply W_sskip) | (with_reducible apply W_skip) | (with_reducible apply W_sret) | (with_reducible apply W_ret) | (with_reducible apply W_sexit) | (with_reducible apply W_exit)
          | (with_reducible apply thenW_n) | (with_reducible apply thenW_r) | (with_reducible apply thenW_e) | (with_reducible apply inB_n) | (with_reducible apply inB_r) | (with_reducible apply inB_e) | ((with_reducible apply inB_o); rotate_left; exact rfl)
          | ((with_reducible apply EndQ_ret); (conv => lhs; simp -implicitDefEqProofs [*]) <;> exact rfl) | ((with_reducible apply EndQ_normal); (conv => lhs; simp -implicitDefEqProofs [*]) <;> exact rfl)
          | (intro h h'; try simp [*, -h] at h'))
        exact ⟨_, by omega, k + 1, rfl, hlt, by simp, by simp [*], by simp [*], fun i f hi hif => by
          by_cases e : i = k
          · subst e; rw [hg] at hif; cases hif; exact h1b
          · exact HP.out i f (by omega) hif⟩
      | false =>
        rw [h1b] at h15
        have hr : rightB nw fs = false := rightB_f fun ⟨_, _, _, h⟩ => by rw [h k _ hg] at h1b; cases h1b
        repeat' (first
          | ((with_reducible apply Wo_u); (conv => lhs; simp -implicitDefEqProofs [*]) <;> exact rfl)
          | ((with_reducible apply Wo_n); (conv => lhs; simp -implicitDefEqProofs [*]) <;> exact rfl)
          | (with_reducible apply Wo_nil)
          | ((with_reducible apply Wo_gt); (exact rfl); ((conv => lhs; simp -implicitDefEqProofs [*]) <;> exact rfl); (conv => lhs; simp -implicitDefEqProofs [*]) <;> exact rfl)
          | ((with_reducible apply Wo_gf); (exact rfl); ((conv => lhs; simp -implicitDefEqProofs [*]) <;> exact rfl); (exact rfl))
          | ((with_reducible apply Wo_gx); (exact rfl); ((conv => lhs; simp -implicitDefEqProofs [*]) <;> exact rfl))
          | ((with_reducible apply Wo_gsT); (exact rfl); ((conv => lhs; simp -implicitDefEqProofs [*]) <;> exact rfl))
          | ((with_reducible apply Wo_gsF); (exact rfl); ((conv => lhs; simp -implicitDefEqProofs [*]) <;> exact rfl))
          | ((with_reducible apply ex2); (conv => lhs; simp -implicitDefEqProofs [*]) <;> exact rfl)
          | (with_reducible apply W_ss) | (with_reducible apply W_srl) | (with_reducible apply W_rl)
          | ((with_reducible apply W_sc); (conv => lhs; simp -implicitDefEqProofs [*]) <;> exact rfl)
          | ((with_reducible apply W_c); (conv => lhs; simp -implicitDefEqProofs [*]) <;> exact rfl)
          | ((with_reducible apply W_srdl); kernel_rfl) | ((with_reducible apply W_rdl); kernel_rfl)
          | ((with_reducible apply Wd_u); (conv => lhs; simp -implicitDefEqProofs [*]) <;> exact rfl)
          | ((with_reducible apply Wd_n); (conv => lhs; simp -implicitDefEqProofs [*]) <;> exact rfl)
          | ((with_reducible apply Wd_nil); exact rfl)
          | ((with_reducible apply Wd_gsT); (exact rfl); ((conv => lhs; simp -implicitDefEqProofs [*]) <;> exact rfl))
          | ((with_reducible apply Wd_gsF); (exact rfl); ((conv => lhs; simp -implicitDefEqProofs [*]) <;> exact rfl))
          | ((with_reducible apply ex4); (conv => lhs; simp -implicitDefEqProofs [*]) <;> exact rfl)
          | (with_reducible apply W_sblock) | (with_reducible apply W_block) | (with_reducible apply W_sskip) | (with_reducible apply W_skip) | (with_reducible apply W_sret) | (with_reducible apply W_ret) | (with_reducible apply W_sexit) | (with_reducible apply W_exit)
          | (with_reducible apply thenW_n) | (with_reducible apply thenW_r) | (with_reducible apply thenW_e) | (with_reducible apply inB_n) | (with_reducible apply inB_r) | (with_reducible apply inB_e) | ((with_reducible apply inB_o); rotate_left; exact rfl)
          | ((with_reducible apply EndQ_ret); (conv => lhs; simp -implicitDefEqProofs [*]) <;> exact rfl) | ((with_reducible apply EndQ_normal); (conv => lhs; simp -implicitDefEqProofs [*]) <;> exact rfl)
          | (intro h h'; try simp [*, -h] at h'))
        simp [*]
    · obtain rfl : k = fs.length := by omega
      have hr : rightB nw fs = true := rightB_t ⟨h1, h2, h3, fun i f hif => HP.out i f (List.getElem?_eq_some_iff.1 hif).1 hif⟩
      repeat' (first
        | ((with_reducible apply Wo_u); (conv => lhs; simp -implicitDefEqProofs [*]) <;> exact rfl)
        | ((with_reducible apply Wo_n); (conv => lhs; simp -implicitDefEqProofs [*]) <;> exact rfl)
        | (with_reducible apply Wo_nil)
        | ((with_reducible apply Wo_gt); (exact rfl); ((conv => lhs; simp -implicitDefEqProofs [*]) <;> exact rfl); (conv => lhs; simp -implicitDefEqProofs [*]) <;> exact rfl)
        | ((with_reducible apply Wo_gf); (exact rfl); ((conv => lhs; simp -implicitDefEqProofs [*]) <;> exact rfl); (exact rfl))
        | ((with_reducible apply Wo_gx); (exact rfl); ((conv => lhs; simp -implicitDefEqProofs [*]) <;> exact rfl))
        | ((with_reducible apply Wo_gsT); (exact rfl); ((conv => lhs; simp -implicitDefEqProofs [*]) <;> exact rfl))
        | ((with_reducible apply Wo_gsF); (exact rfl); ((conv => lhs; simp -implicitDefEqProofs [*]) <;> exact rfl))
        | ((with_reducible apply ex2); (conv => lhs; simp -implicitDefEqProofs [*]) <;> exact rfl)
        | (with_reducible apply W_ss) | (with_reducible apply W_srl) | (with_reducible apply W_rl)
        | ((with_reducible apply W_sc); (conv => lhs; simp -implicitDefEqProofs [*]) <;> exact rfl)
        | ((with_reducible apply W_c); (conv => lhs; simp -implicitDefEqProofs [*]) <;> exact rfl)
        | ((with_reducible apply W_srdl); kernel_rfl) | ((with_reducible apply W_rdl); kernel_rfl)
        | ((with_reducible apply Wd_u); (conv => lhs; simp -implicitDefEqProofs [*]) <;> exact rfl)
        | ((with_reducible apply Wd_n); (conv => lhs; simp -implicitDefEqProofs [*]) <;> exact rfl)
        | ((with_reducible apply Wd_nil); exact rfl)
        | ((with_reducible apply Wd_gsT); (exact rfl); ((conv => lhs; simp -implicitDefEqProofs [*]) <;> exact rfl))
        | ((with_reducible apply Wd_gsF); (exact rfl); ((conv => lhs; simp -implicitDefEqProofs [*]) <;> exact rfl))
        | ((with_reducible apply ex4); (conv => lhs; simp -implicitDefEqProofs [*]) <;> exact rfl)
        | (with_reducible apply W_sblock) | (with_reducible apply W_block) | (with_reducible apply W_sskip) | (with_reducible apply W_skip) | (with_reducible apply W_sret) | (with_reducible apply W_ret) | (with_reducible apply W_sexit) | (with_reducible apply W_exit)
        | (with_reducible apply thenW_n) | (with_reducible apply thenW_r) | (with_reducible apply thenW_e) | (with_reducible apply inB_n) | (with_reducible apply inB_r) | (with_reducible apply inB_e) | ((with_reducible apply inB_o); rotate_left; exact rfl)
        | ((with_reducible apply EndQ_ret); (conv => lhs; simp -implicitDefEqProofs [*]) <;> exact rfl) | ((with_reducible apply EndQ_normal); (conv => lhs; simp -implicitDefEqProofs [*]) <;> exact rfl)
        | (intro h h'; try simp [*, -h] at h'))
      simp [*]
  all_goals
    have hr : rightB nw fs = false := rightB_f fun ⟨x1, x2, x3, _⟩ => by first | exact h1 x1 | exact h2 x2 | exact x3 h3
  all_goals first
    | have n1 : nw < 0 := by omega
    | have n1 : ¬ nw < 0 := by omega
  all_goals first
    | have n2 : 1048576 < nw := by omega
    | have n2 : ¬ 1048576 < nw := by omega
  all_goals
    repeat' (first
      | ((with_reducible apply Wo_u); (conv => lhs; simp -implicitDefEqProofs [*]) <;> exact rfl)
      | ((with_reducible apply Wo_n); (conv => lhs; simp -implicitDefEqProofs [*]) <;> exact rfl)
      | (with_reducible apply Wo_nil)
      | ((with_reducible apply Wo_gt); (exact rfl); ((conv => lhs; simp -implicitDefEqProofs [*]) <;> exact rfl); (conv => lhs; simp -implicitDefEqProofs [*]) <;> exact rfl)
      | ((with_reducible apply Wo_gf); (exact rfl); ((conv => lhs; simp -implicitDefEqProofs [*]) <;> exact rfl); (exact rfl))
      | ((with_reducible apply Wo_gx); (exact rfl); ((conv => lhs; simp -implicitDefEqProofs [*]) <;> exact rfl))
      | ((with_reducible apply Wo_gsT); (exact rfl); ((conv => lhs; simp -implicitDefEqProofs [*]) <;> exact rfl))
      | ((with_reducible apply Wo_gsF); (exact rfl); ((conv => lhs; simp -implicitDefEqProofs [*]) <;> exact rfl))
      | ((with_reducible apply ex2); (conv => lhs; simp -implicitDefEqProofs [*]) <;> exact rfl)
      | (with_reducible apply W_ss) | (with_reducible apply W_srl) | (with_reducible apply W_rl)
      | ((with_reducible apply W_sc); (conv => lhs; simp -implicitDefEqProofs [*]) <;> exact rfl)
      | ((with_reducible apply W_c); (conv => lhs; simp -implicitDefEqProofs [*]) <;> exact rfl)
      | ((with_reducible apply W_srdl); kernel_rfl) | ((with_reducible apply W_rdl); kernel_rfl)
      | ((with_reducible apply Wd_u); (conv => lhs; simp -implicitDefEqProofs [*]) <;> exact rfl)
      | ((with_reducible apply Wd_n); (conv => lhs; simp -implicitDefEqProofs [*]) <;> exact rfl)
      | ((with_reducible apply Wd_nil); exact rfl)
      | ((with_reducible apply Wd_gsT); (exact rfl); ((conv => lhs; simp -implicitDefEqProofs [*]) <;> exact rfl))
      | ((with_reducible apply Wd_gsF); (exact rfl); ((conv => lhs; simp -implicitDefEqProofs [*]) <;> exact rfl))
      | ((with_reducible apply ex4); (conv => lhs; simp -implicitDefEqProofs [*]) <;> exact rfl)
      | (with_reducible apply W_sblock) | (with_reducible apply W_block) | (with_reducible apply W_sskip) | (with_reducible apply W_skip) | (with_reducible apply W_sret) | (with_reducible apply W_ret) | (with_reducible apply W_sexit) | (with_reducible apply W_exit)
      | (with_reducible apply thenW_n) | (with_reducible apply thenW_r) | (with_reducible apply thenW_e) | (with_reducible apply inB_n) | (with_reducible apply inB_r) | (with_reducible apply inB_e) | ((with_reducible apply inB_o); rotate_left; exact rfl)
      | ((with_reducible apply EndQ_ret); (conv => lhs; simp -implicitDefEqProofs [*]) <;> exact rfl) | ((with_reducible apply EndQ_normal); (conv => lhs; simp -implicitDefEqProofs [*]) <;> exact rfl)
      | (intro h h'; try simp [*, -h] at h'))
  all_goals first
    | (simp [*]; done)
    | (subst h3; simp [hr]; done)
end Go.Proofs.Ytmfhdhiaokejdaa

namespace Go.Proofs.Ytmfhdhiaokejdaa
open Go Go.Ab
set_option linter.unusedSimpArgs false
set_option linter.unusedVariables false
theorem fwdFn_eq {n : Nat} {bs : List Blk} : fwdFn ⟨n, bs⟩ = ⟨n, bs.map (fwdBlk n)⟩ := rfl
theorem okS_of {f : Fn} {i nw : Int} (h : oneB f i nw = true) (hg : FnGood f i nw) : f.okS := by
  obtain ⟨h1, h2, h3, h4⟩ := one_okR h
  exact ⟨h1, fun b hb t ht => ⟨(h4 b hb).ins t ht, fun hs => ((hg.fit b hb t ht).1.d hs).1⟩, fun b hb he => (hg.el b hb he).2⟩
theorem fwd_n {n : Int} {b : Blk} {t : Tac} (h : t ∈ (fwdBlk n b).ins) : ∃ u ∈ b.ins, t.n = u.n := by
  obtain ⟨k, hk⟩ := List.getElem?_of_mem h
  obtain ⟨u, hu, rfl⟩ := outs_inv (l0 := idL n.toNat) (ins := b.ins) hk
  exact ⟨u, List.mem_of_getElem? hu, (fwdTac_shape _ u).2.2.2.2.2⟩
theorem one_fwdF {f : Fn} {i nw : Int} (h : oneB f i nw = true) : oneB (fwdFn f) i nw = true := by
  obtain ⟨n, bs⟩ := f
  obtain ⟨h1, _⟩ := one_okR h
  simp only at h1
  obtain ⟨N, rfl⟩ : ∃ N : Nat, n = N := ⟨n.toNat, by omega⟩
  exact one_fwd h
theorem good_fwd {f : Fn} {i nw : Int} (h : oneB f i nw = true) (hg : FnGood f i nw) : FnGood (fwdFn f) i nw := by
  refine good_mk (one_fwdF h) (by simpa [fwdFn] using hg.pos.2) (fun b hb => ?_) fun b hb t ht => ?_
  · simp only [fwdFn, List.mem_map] at hb
    obtain ⟨a, ha, rfl⟩ := hb
    rw [fwdBlk_len]; exact hg.len a ha
  · simp only [fwdFn, List.mem_map] at hb
    obtain ⟨a, ha, rfl⟩ := hb
    obtain ⟨u, hu, e⟩ := fwd_n ht
    rw [e]; exact (hg.fit a ha u hu).2
theorem right_fwd {nw : Int} {fs : List Fn} (h : RightP nw fs) : RightP nw (fs.map fwdFn) :=
  ⟨h.1, h.2.1, fun e => h.2.2.1 (List.map_eq_nil_iff.1 e), fun i f hf => by
    rw [List.getElem?_map] at hf
    cases hg : fs[i]? with
    | none => rw [hg] at hf; cases hf
    | some g => rw [hg] at hf; cases hf; exact one_fwdF (h.2.2.2 i g hg)⟩
theorem good_all {nw : Int} {fs : List Fn} (h : RightP nw fs) (hw : ∀ f ∈ fs, f.wf 1048576) : ∀ (i : Nat) f, fs[i]? = some f → FnGood f i nw := fun i f hf => good_of (h.2.2.2 i f hf) (hw f (List.mem_of_getElem? hf))
theorem good_all_fwd {nw : Int} {fs : List Fn} (h : RightP nw fs) (hw : ∀ f ∈ fs, f.wf 1048576) : ∀ (i : Nat) f, (fs.map fwdFn)[i]? = some f → FnGood f i nw := fun i f hf => by
  rw [List.getElem?_map] at hf
  cases hg : fs[i]? with
  | none => rw [hg] at hf; cases hf
  | some g => rw [hg] at hf; cases hf; exact good_fwd (h.2.2.2 i g hg) (good_all h hw i g hg)
theorem run_fwd {nw fuel : Int} {fs : List Fn} {inp : ByteArray} (h : RightP nw fs) (hw : ∀ f ∈ fs, f.wf 1048576) : runS ⟨nw, fs.map fwdFn, inp, fuel⟩ = runS ⟨nw, fs, inp, fuel⟩ := by
  unfold runS callS
  simp only [List.length_map, Int.toNat_natCast, List.getElem?_map]
  cases hg : fs[fs.length - 1]? with
  | none => rfl
  | some f =>
    simp only [Option.map_some]
    have ok : ∀ g ∈ fs, g.okS := fun g hm => by
      obtain ⟨i, hi⟩ := List.getElem?_of_mem hm
      exact okS_of (h.2.2.2 i g hi) (good_all h hw i g hi)
    exact loop_alike (c := ⟨nw, fs, inp, fuel⟩) (c' := ⟨nw, fs.map fwdFn, inp, fuel⟩) rfl rfl rfl ok _ (ok f (List.mem_of_getElem? hg)) (by simp [fwdFn])
end Go.Proofs.Ytmfhdhiaokejdaa

namespace Go.Proofs.Ytmfhdhiaokejdaa
open Go Go.Ab Go.ChangeShapes Go.WideShapes Go.ChangeAt Go.RowKit
set_option linter.unusedSimpArgs false
set_option linter.unusedVariables false
/-- A program of blocks. -/
structure Prg where
  nw : Int
  fs : List Fn
def Prg.row (p : Prg) : List AV := [iv p.nw, .sl false 2 (p.fs.map Fn.row)]
structure Prg.wf (N : Nat) (p : Prg) : Prop where
  nw : (Lit.int .i64 p.nw).wf = true
  fs : p.fs.length ≤ N ∧ ∀ f ∈ p.fs, f.wf N
section
variable {H : Type} {enc : TypeId × Value → H} {w : World} {N : Nat}
theorem reads_prg : Reads H enc Try.prog w N 44 Prg.row (Prg.wf N) := by
  intro fuel cs x h hb
  obtain ⟨hl, n, hf⟩ := trod_fields Try.underlying44 h hb
  rw [cellsOf_44] at hl
  obtain ⟨c0, c1, rfl⟩ := cut2 hl
  have e0 := hf 0
  have e1 := hf 1
  simp only [List.getElem?_toArray, List.getElem?_cons_zero, List.getElem?_cons_succ, Option.some.injEq, forall_eq', cellsOf_3, cellsOf_42, List.drop_zero, List.drop_succ_cons, List.take_succ_cons, List.take_zero] at e0 e1
  obtain ⟨y0, h0, b0⟩ := e0
  obtain ⟨y1, h1, b1⟩ := e1
  obtain ⟨v0, r0, w0⟩ := reads_int (N := N) Try.underlying3 _ _ _ h0 b0
  obtain ⟨v1, r1, w1⟩ := reads_slice (N := N) Try.underlying42 cellsOf_24 (by omega) reads_fn _ _ _ h1 b1
  refine ⟨⟨v0, v1⟩, ?_, ⟨w0, w1⟩⟩
  simp [RepDL] at r0 r1
  exact ⟨_, _, rfl, r0, ⟨_, _, rfl, r1, rfl⟩⟩
theorem reads_two : Reads H enc Try.prog w N 51 (fun p : Int × Int => [.sc (.int .u8 p.1), .sc (.int .u8 p.2)]) (fun p => (Lit.int .u8 p.1).wf = true ∧ (Lit.int .u8 p.2).wf = true) := by
  intro fuel cs x h hb
  obtain ⟨hl, n, hf⟩ := trod_items Try.underlying51 h hb
  rw [cellsOf_51] at hl
  obtain ⟨c0, c1, rfl⟩ := cut2 hl
  have e0 := hf 0 (by omega)
  have e1 := hf 1 (by omega)
  simp only [cellsOf_5, Nat.zero_mul, Nat.one_mul, List.drop_zero, List.drop_succ_cons, List.take_succ_cons, List.take_zero] at e0 e1
  obtain ⟨y0, h0, b0⟩ := e0
  obtain ⟨y1, h1, b1⟩ := e1
  obtain ⟨v0, r0, w0⟩ := reads_int (N := N) Try.underlying5 _ _ _ h0 b0
  obtain ⟨v1, r1, w1⟩ := reads_int (N := N) Try.underlying5 _ _ _ h1 b1
  refine ⟨(v0, v1), ?_, ⟨w0, w1⟩⟩
  simp [RepDL] at r0 r1
  exact ⟨_, _, rfl, r0, ⟨_, _, rfl, r1, rfl⟩⟩
theorem okWide_array {m : Nat} {e : TypeId} {P : Program} {r : Reach} {base : Nat} {t : TypeId} {v : Value} (ht : P.underlying t = some (.array m e)) (h : Value.okWide P w r base t v) : ∃ cs, v = .agg cs ∧ cs.size = P.cellsOf t := by
  simp only [Value.okWide, ht] at h
  obtain ⟨cs, h1, h2, _⟩ := h
  exact ⟨cs, h1, h2⟩
end
theorem rd44 : Try.prog.readableRec 44 = true := by kernel_rfl
theorem lt44 : 44 < Try.prog.types.size := of_decide_eq_true (by kernel_rfl)
theorem rd9 : Try.prog.readableRec 9 = true := by kernel_rfl
theorem lt9 : 9 < Try.prog.types.size := of_decide_eq_true (by kernel_rfl)
theorem rd5 : Try.prog.readableRec 5 = true := by kernel_rfl
theorem lt5 : 5 < Try.prog.types.size := of_decide_eq_true (by kernel_rfl)
theorem rd51 : Try.prog.readableRec 51 = true := by kernel_rfl
theorem lt51 : 51 < Try.prog.types.size := of_decide_eq_true (by kernel_rfl)
end Go.Proofs.Ytmfhdhiaokejdaa
