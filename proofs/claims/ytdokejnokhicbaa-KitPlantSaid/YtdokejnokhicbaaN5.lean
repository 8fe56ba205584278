/- Law 47, KitPlant: at every text, place and word, without a condition, the call answers true and leaves its arguments as they were. -/
import Derived.Test.YtdokejnokhicbaaMh
import Derived.Test.YtdokejnokhicbaaMi
namespace Go.Proofs.Ytdokejnokhicbaa
open Go Go.Ab
set_option linter.unusedSimpArgs false
set_option linter.unusedVariables false
attribute [-simp] Prog.bind getCs putCs
attribute [local simp ↓] run_bind
attribute [local simp ↓] runF_bind
attribute [local simp] run_getCsN runF_getCsN facetsC putCs_one run_putCsN runF_putCsN facetsW facetsH
set_option maxHeartbeats 4000000 in
theorem d5 (s : ByteArray) (at_ w : Int) (hw : U w) : (lim Try.prog E47 X47).dat 5 [.sc (.string s), iv at_, uv w] = some [bv true] := by
  refine fnW Try.func5 rfl rfl bodyOk_5 rfl rtys_5 rfl ?_
  have h7 := d7
  by_cases c1 : (2000 : Int) < s.size
  · clear hw
    repeat' (first
      | ((with_reducible apply Wo_u); (conv => lhs; simp -implicitDefEqProofs [*]) <;> exact rfl)
      | ((with_reducible apply Wo_n); (conv => lhs; simp -implicitDefEqProofs [*]) <;> exact rfl)
      | (with_reducible apply Wo_nil)
      | ((with_reducible apply Wo_gt); (exact rfl); ((conv => lhs; simp -implicitDefEqProofs [*]) <;> exact rfl); (conv => lhs; simp -implicitDefEqProofs [*]) <;> exact rfl)
      | ((with_reducible apply Wo_gf); (exact rfl); ((conv => lhs; simp -implicitDefEqProofs [*]) <;> exact rfl); (exact rfl))
      | ((with_reducible apply Wo_gx); (exact rfl); ((conv => lhs; simp -implicitDefEqProofs [*]) <;> exact rfl))
      | ((with_reducible apply Wo_gsT); (exact rfl); ((conv => lhs; simp -implicitDefEqProofs [*]) <;> exact rfl))
      | ((with_reducible apply Wo_gsF); (exact rfl); ((conv => lhs; simp -implicitDefEqProofs [*]) <;> exact rfl))
      | ((with_reducible apply ex2); (conv => lhs; simp -implicitDefEqProofs [*]) <;> exact rfl)
      | (with_reducible apply W_ss) | (with_reducible apply W_srl) | (with_reducible apply W_rl)
      | ((with_reducible apply W_sc); (conv => lhs; simp -implicitDefEqProofs [*]) <;> exact rfl)
      | ((with_reducible apply W_c); (conv => lhs; simp -implicitDefEqProofs [*]) <;> exact rfl)
      | ((with_reducible apply W_srdl); kernel_rfl) | ((with_reducible apply W_rdl); kernel_rfl)
      | ((with_reducible apply Wd_u); (conv => lhs; simp -implicitDefEqProofs [*]) <;> exact rfl)
      | ((with_reducible apply Wd_n); (conv => lhs; simp -implicitDefEqProofs [*]) <;> exact rfl)
      | ((with_reducible apply Wd_nil); exact rfl)
      | ((with_reducible apply Wd_gsT); (exact rfl); ((conv => lhs; simp -implicitDefEqProofs [*]) <;> exact rfl))
      | ((with_reducible apply Wd_gsF); (exact rfl); ((conv => lhs; simp -implicitDefEqProofs [*]) <;> exact rfl))
      | ((with_reducible apply ex4); (conv => lhs; simp -implicitDefEqProofs [*]) <;> exact rfl)
      | (with_reducible apply W_sblock) | (with_reducible apply W_block) | (with_reducible apply W_sskip) | (with_reducible apply W_skip) | (with_reducible apply W_sret) | (with_reducible apply W_ret) | (with_reducible apply W_sexit) | (with_reducible apply W_exit)
      | (with_reducible apply thenW_n) | (with_reducible apply thenW_r) | (with_reducible apply thenW_e) | (with_reducible apply inB_n) | (with_reducible apply inB_r) | (with_reducible apply inB_e) | ((with_reducible apply inB_o); rotate_left; exact rfl)
      | ((with_reducible apply EndQ_ret); (conv => lhs; simp -implicitDefEqProofs [*]) <;> exact rfl) | ((with_reducible apply EndQ_normal); (conv => lhs; simp -implicitDefEqProofs [*]) <;> exact rfl)
      | (intro h h'; try simp [*, -h] at h'))
    all_goals rfl
  · have hs0 : s.size ≤ 1048576 := by omega
    have h13 := d13 s at_ w hs0 hw
    have h14 := d14 s at_ w hs0 hw
    have h9 := d9 s hs0
    unfold plantR at h13 h14
    unfold readR at h9
    cases hb : imgB s with
    | false =>
      rw [if_neg (by rw [hb]; simp)] at h13 h14
      clear hb hw h9
      repeat' (first
        | ((with_reducible apply Wo_u); (conv => lhs; simp -implicitDefEqProofs [*]) <;> exact rfl)
        | ((with_reducible apply Wo_n); (conv => lhs; simp -implicitDefEqProofs [*]) <;> exact rfl)
        | (with_reducible apply Wo_nil)
        | ((with_reducible apply Wo_gt); (exact rfl); ((conv => lhs; simp -implicitDefEqProofs [*]) <;> exact rfl); (conv => lhs; simp -implicitDefEqProofs [*]) <;> exact rfl)
        | ((with_reducible apply Wo_gf); (exact rfl); ((conv => lhs; simp -implicitDefEqProofs [*]) <;> exact rfl); (exact rfl))
        | ((with_reducible apply Wo_gx); (exact rfl); ((conv => lhs; simp -implicitDefEqProofs [*]) <;> exact rfl))
        | ((with_reducible apply Wo_gsT); (exact rfl); ((conv => lhs; simp -implicitDefEqProofs [*]) <;> exact rfl))
        | ((with_reducible apply Wo_gsF); (exact rfl); ((conv => lhs; simp -implicitDefEqProofs [*]) <;> exact rfl))
        | ((with_reducible apply ex2); (conv => lhs; simp -implicitDefEqProofs [*]) <;> exact rfl)
        | (with_reducible apply W_ss) | (with_reducible apply W_srl) | (with_reducible apply W_rl)
        | ((with_reducible apply W_sc); (conv => lhs; simp -implicitDefEqProofs [*]) <;> exact rfl)
        | ((with_reducible apply W_c); (conv => lhs; simp -implicitDefEqProofs [*]) <;> exact rfl)
        | ((with_reducible apply W_srdl); kernel_rfl) | ((with_reducible apply W_rdl); kernel_rfl)
        | ((with_reducible apply Wd_u); (conv => lhs; simp -implicitDefEqProofs [*]) <;> exact rfl)
        | ((with_reducible apply Wd_n); (conv => lhs; simp -implicitDefEqProofs [*]) <;> exact rfl)
        | ((with_reducible apply Wd_nil); exact rfl)
        | ((with_reducible apply Wd_gsT); (exact rfl); ((conv => lhs; simp -implicitDefEqProofs [*]) <;> exact rfl))
        | ((with_reducible apply Wd_gsF); (exact rfl); ((conv => lhs; simp -implicitDefEqProofs [*]) <;> exact rfl))
        | ((with_reducible apply ex4); (conv => lhs; simp -implicitDefEqProofs [*]) <;> exact rfl)
        | (with_reducible apply W_sblock) | (with_reducible apply W_block) | (with_reducible apply W_sskip) | (with_reducible apply W_skip) | (with_reducible apply W_sret) | (with_reducible apply W_ret) | (with_reducible apply W_sexit) | (with_reducible apply W_exit)
        | (with_reducible apply thenW_n) | (with_reducible apply thenW_r) | (with_reducible apply thenW_e) | (with_reducible apply inB_n) | (with_reducible apply inB_r) | (with_reducible apply inB_e) | ((with_reducible apply inB_o); rotate_left; exact rfl)
        | ((with_reducible apply EndQ_ret); (conv => lhs; simp -implicitDefEqProofs [*]) <;> exact rfl) | ((with_reducible apply EndQ_normal); (conv => lhs; simp -implicitDefEqProofs [*]) <;> exact rfl)
        | (intro h h'; try simp [*, -h] at h'))
      all_goals rfl
    | true =>
      rw [if_pos hb] at h13 h14 h9
      by_cases c2 : 0 ≤ at_ ∧ at_ < (codeOf s).length
      · rw [if_pos c2] at h13 h14
        obtain ⟨hCU, hCl, hD⟩ := codeOf_U s hb
        have hsT := txtI_of_img s hb
        obtain ⟨k, rfl⟩ : ∃ k : Nat, at_ = k := ⟨at_.toNat, by omega⟩
        have hk : k < (codeOf s).length := by omega
        rw [Int.toNat_natCast] at h13 h14
        obtain ⟨x, hx⟩ : ∃ x, (codeOf s)[k] = x := ⟨_, rfl⟩
        have hUx : U x := hx ▸ hCU _ (List.getElem_mem hk)
        have hCU2 : ∀ y ∈ (codeOf s).set k w, U y := fun y hy => by
          rcases List.mem_or_eq_of_mem_set hy with h | rfl
          · exact hCU y h
          · exact hw
        have hback := d13 (txtI ((codeOf s).set k w) (wordAt s 8)) k x (by rw [txtI_size]; simp; omega) hUx
        obtain ⟨i1, i2, i3⟩ := img_txtI ((codeOf s).set k w) (wordAt s 8) (by simp; omega) hD hCU2
        unfold plantR at hback
        rw [if_pos i1, i2, i3, if_pos (by simp; omega), Int.toNat_natCast, List.set_set] at hback
        have hset : (codeOf s).set k x = codeOf s := by rw [← hx]; exact List.set_getElem_self hk
        rw [hset, hsT] at hback
        have hsame : decide (txtI ((codeOf s).set k w) (wordAt s 8) = s) = (x == w) := by
          by_cases hxw : x = w
          · subst hxw
            rw [hset, hsT, decide_eq_true rfl, beq_self_eq_true]
          · have : txtI ((codeOf s).set k w) (wordAt s 8) ≠ s := fun h => by
              have e := (txtI_inj (l' := codeOf s) (d' := wordAt s 8) (by simp; omega) hD hCU2 (by omega) hD hCU (h.trans hsT.symm)).1
              apply hxw
              rw [← hx]
              have e2 := congrArg (fun l => l[k]?) e
              simp only [List.getElem?_set_self hk, List.getElem?_eq_getElem hk] at e2
              exact (Option.some.inj e2).symm
            rw [decide_eq_false this, beq_eq_false_iff_ne.2 hxw]
        have hg : ∀ h, (rowW (codeOf s))[k]'h = [uv x] := fun h => by simp [hx]
        have hRl : (rowW (codeOf s)).length = (codeOf s).length := by simp
        have c1' : (k : Int) < (codeOf s).length := by omega
        have hRt : (rowW (codeOf s)).take (codeOf s).length = rowW (codeOf s) := List.take_of_length_le (by simp)
        clear hb hw hs0 i1 i2 i3 hCU hCU2 hD hsT hset hUx c2 hx
        generalize txtI ((codeOf s).set k w) (wordAt s 8) = T at *
        generalize rowW (codeOf s) = RC at *
        generalize (codeOf s).length = n at *
        generalize wordAt s 8 = D at *
        repeat' (first
          | ((with_reducible apply Wo_u); (conv => lhs; simp -implicitDefEqProofs [*]) <;> exact rfl)
          | ((with_reducible apply Wo_n); (conv => lhs; simp -implicitDefEqProofs [*]) <;> exact rfl)
          | (with_reducible apply Wo_nil)
          | ((with_reducible apply Wo_gt); (exact rfl); ((conv => lhs; simp -implicitDefEqProofs [*]) <;> exact rfl); (conv => lhs; simp -implicitDefEqProofs [*]) <;> exact rfl)
          | ((with_reducible apply Wo_gf); (exact rfl); ((conv => lhs; simp -implicitDefEqProofs [*]) <;> exact rfl); (exact rfl))
          | ((with_reducible apply Wo_gx); (exact rfl); ((conv => lhs; simp -implicitDefEqProofs [*]) <;> exact rfl))
          | ((with_reducible apply Wo_gsT); (exact rfl); ((conv => lhs; simp -implicitDefEqProofs [*]) <;> exact rfl))
          | ((with_reducible apply Wo_gsF); (exact rfl); ((conv => lhs; simp -implicitDefEqProofs [*]) <;> exact rfl))
          | ((with_reducible apply ex2); (conv => lhs; simp -implicitDefEqProofs [*]) <;> exact rfl)
          | (with_reducible apply W_ss) | (with_reducible apply W_srl) | (with_reducible apply W_rl)
          | ((with_reducible apply W_sc); (conv => lhs; simp -implicitDefEqProofs [*]) <;> exact rfl)
          | ((with_reducible apply W_c); (conv => lhs; simp -implicitDefEqProofs [*]) <;> exact rfl)
          | ((with_reducible apply W_srdl); kernel_rfl) | ((with_reducible apply W_rdl); kernel_rfl)
          | ((with_reducible apply Wd_u); (conv => lhs; simp -implicitDefEqProofs [*]) <;> exact rfl)
          | ((with_reducible apply Wd_n); (conv => lhs; simp -implicitDefEqProofs [*]) <;> exact rfl)
          | ((with_reducible apply Wd_nil); exact rfl)
          | ((with_reducible apply Wd_gsT); (exact rfl); ((conv => lhs; simp -implicitDefEqProofs [*]) <;> exact rfl))
          | ((with_reducible apply Wd_gsF); (exact rfl); ((conv => lhs; simp -implicitDefEqProofs [*]) <;> exact rfl))
          | ((with_reducible apply ex4); (conv => lhs; simp -implicitDefEqProofs [*]) <;> exact rfl)
          | (with_reducible apply W_sblock) | (with_reducible apply W_block) | (with_reducible apply W_sskip) | (with_reducible apply W_skip) | (with_reducible apply W_sret) | (with_reducible apply W_ret) | (with_reducible apply W_sexit) | (with_reducible apply W_exit)
          | (with_reducible apply thenW_n) | (with_reducible apply thenW_r) | (with_reducible apply thenW_e) | (with_reducible apply inB_n) | (with_reducible apply inB_r) | (with_reducible apply inB_e) | ((with_reducible apply inB_o); rotate_left; exact rfl)
          | ((with_reducible apply EndQ_ret); (conv => lhs; simp -implicitDefEqProofs [*]) <;> exact rfl) | ((with_reducible apply EndQ_normal); (conv => lhs; simp -implicitDefEqProofs [*]) <;> exact rfl)
          | (intro h h'; try simp [*, -h] at h'))
        all_goals rfl
      · rw [if_neg c2] at h13 h14
        clear hb hw h9
        repeat' (first
          | ((with_reducible apply Wo_u); (conv => lhs; simp -implicitDefEqProofs [*]) <;> exact rfl)
          | ((with_reducible apply Wo_n); (conv => lhs; simp -implicitDefEqProofs [*]) <;> exact rfl)
          | (with_reducible apply Wo_nil)
          | ((with_reducible apply Wo_gt); (exact rfl); ((conv => lhs; simp -implicitDefEqProofs [*]) <;> exact rfl); (conv => lhs; simp -implicitDefEqProofs [*]) <;> exact rfl)
          | ((with_reducible apply Wo_gf); (exact rfl); ((conv => lhs; simp -implicitDefEqProofs [*]) <;> exact rfl); (exact rfl))
          | ((with_reducible apply Wo_gx); (exact rfl); ((conv => lhs; simp -implicitDefEqProofs [*]) <;> exact rfl))
          | ((with_reducible apply Wo_gsT); (exact rfl); ((conv => lhs; simp -implicitDefEqProofs [*]) <;> exact rfl))
          | ((with_reducible apply Wo_gsF); (exact rfl); ((conv => lhs; simp -implicitDefEqProofs [*]) <;> exact rfl))
          | ((with_reducible apply ex2); (conv => lhs; simp -implicitDefEqProofs [*]) <;> exact rfl)
          | (with_reducible apply W_ss) | (with_reducible apply W_srl) | (with_reducible apply W_rl)
          | ((with_reducible apply W_sc); (conv => lhs; simp -implicitDefEqProofs [*]) <;> exact rfl)
          | ((with_reducible apply W_c); (conv => lhs; simp -implicitDefEqProofs [*]) <;> exact rfl)
          | ((with_reducible apply W_srdl); kernel_rfl) | ((with_reducible apply W_rdl); kernel_rfl)
          | ((with_reducible apply Wd_u); (conv => lhs; simp -implicitDefEqProofs [*]) <;> exact rfl)
          | ((with_reducible apply Wd_n); (conv => lhs; simp -implicitDefEqProofs [*]) <;> exact rfl)
          | ((with_reducible apply Wd_nil); exact rfl)
          | ((with_reducible apply Wd_gsT); (exact rfl); ((conv => lhs; simp -implicitDefEqProofs [*]) <;> exact rfl))
          | ((with_reducible apply Wd_gsF); (exact rfl); ((conv => lhs; simp -implicitDefEqProofs [*]) <;> exact rfl))
          | ((with_reducible apply ex4); (conv => lhs; simp -implicitDefEqProofs [*]) <;> exact rfl)
          | (with_reducible apply W_sblock) | (with_reducible apply W_block) | (with_reducible apply W_sskip) | (with_reducible apply W_skip) | (with_reducible apply W_sret) | (with_reducible apply W_ret) | (with_reducible apply W_sexit) | (with_reducible apply W_exit)
          | (with_reducible apply thenW_n) | (with_reducible apply thenW_r) | (with_reducible apply thenW_e) | (with_reducible apply inB_n) | (with_reducible apply inB_r) | (with_reducible apply inB_e) | ((with_reducible apply inB_o); rotate_left; exact rfl)
          | ((with_reducible apply EndQ_ret); (conv => lhs; simp -implicitDefEqProofs [*]) <;> exact rfl) | ((with_reducible apply EndQ_normal); (conv => lhs; simp -implicitDefEqProofs [*]) <;> exact rfl)
          | (intro h h'; try simp [*, -h] at h'))
        all_goals rfl
end Go.Proofs.Ytdokejnokhicbaa

namespace Go.Proofs.Ytdokejnokhicbaa
open Go Go.Ab Go.ChangeShapes Go.WideShapes Go.ChangeAt Go.RowKit
set_option linter.unusedSimpArgs false
set_option linter.unusedVariables false
theorem contract5 {call : Orc} (hC : DatOk Try.prog call) (hall : ∀ (x0 : ByteArray) (x1 : Int) (x2 : Int), True → (Lit.int .i64 x1).wf = true → (Lit.int .u32 x2).wf = true → call.dat 5 [.sc (.string x0), iv x1, uv x2] = some [.sc (.bool true)]) (H : Type) (enc : TypeId × Value → H) (W : World) (base : Nat) (args : Array Value) (ds gs : List (DataW H)) (before : List MemPlace)
    (hval : ∀ (j : Nat) t v, Try.f5.params[j]? = some t → args[j]? = some v → Value.okWide Try.prog W .any base t v)
    (hW : DataW.Whole enc Try.prog Try.f5.params.toList Rows.kitPlantSpec.vars false W args.toList ds gs before) :
    Calls Try.prog 5 args W fun e W' => ∃ v, e = .returned v ∧ Rows.kitPlantSpec.post enc Try.prog Try.f5 false true false false W args v W' := by
  have hW' := hW
  obtain ⟨p, q, hA0, hV, rfl, hfz, hnd⟩ := hW
  have hA : DataW.TrodAll enc Try.prog W 0 (fun _ => true) true Try.f5.params.toList args.toList ds p := hA0
  rw [Try.params5] at hA hval
  obtain ⟨v0, vs0, d0, ds0, p0, q0, hargs, rfl, rfl, h0, r0⟩ := trodAll_cons hA
  obtain ⟨v1, vs1, d1, ds1, p1, q1, rfl, rfl, rfl, h1, r1⟩ := trodAll_cons r0
  obtain ⟨v2, vs2, d2, ds2, p2, q2, rfl, rfl, rfl, h2, r2⟩ := trodAll_cons r1
  obtain ⟨rfl, rfl, rfl⟩ := trodAll_nil r2
  obtain rfl : args = #[v0, v1, v2] := by cases args; simp_all
  obtain ⟨rfl, rfl⟩ := trodVars_none hV
  obtain ⟨P, hP⟩ : ∃ P, P = Try.prog := ⟨_, rfl⟩
  rw [← hP] at hval
  have k0 := hval 0 9 v0 rfl rfl
  rw [hP] at k0
  have k1 := hval 1 3 v1 rfl rfl
  rw [hP] at k1
  have k2 := hval 2 36 v2 rfl rfl
  rw [hP] at k2
  obtain ⟨z0, rfl⟩ := okWide_string Try.underlying9 k0
  obtain ⟨fuel0, hf0⟩ := h0
  obtain ⟨x0, hr0, hw0⟩ := reads_string (N := Rows.uptoBulk d0) Try.underlying9 fuel0 _ _ hf0 (Nat.le_refl _)
  simp [RepDL, Value.cells] at hr0
  obtain ⟨z1, rfl⟩ := okWide_int Try.underlying3 k1
  obtain ⟨fuel1, hf1⟩ := h1
  obtain ⟨x1, hr1, hw1⟩ := reads_int (N := Rows.uptoBulk d1) Try.underlying3 fuel1 _ _ hf1 (Nat.le_refl _)
  simp [RepDL, Value.cells] at hr1
  obtain ⟨z2, rfl⟩ := okWide_int Try.underlying36 k2
  obtain ⟨fuel2, hf2⟩ := h2
  obtain ⟨x2, hr2, hw2⟩ := reads_int (N := Rows.uptoBulk d2) Try.underlying36 fuel2 _ _ hf2 (Nat.le_refl _)
  simp [RepDL, Value.cells] at hr2
  have hd := hC 5 [.sc (.string x0), iv x1, uv x2] _ (hall x0 x1 x2 trivial hw1 hw2) okFn_5 (There W) W [.string z0, .int .i64 z1, .int .u32 z2] (fun b h => h) (.cons hr0 (.cons hr1 (.cons hr2 .nil)))
  refine hd.mono fun e W' ⟨u, he, hp⟩ => ?_
  subst he
  rw [rtys_5] at hp
  obtain rfl := callPost_true isAggB_4 hp
  exact ⟨_, rfl, law_post hW' rfl laidOut47 (by rw [Try.params5]; exact List.forall_mem_cons.2 ⟨⟨rd9, lt9⟩, List.forall_mem_cons.2 ⟨⟨rd3, lt3⟩, List.forall_mem_cons.2 ⟨⟨rd36, lt36⟩, List.forall_mem_nil _⟩⟩⟩) (by kernel_rfl) Try.underlying4 rfl (callPost_below hp)⟩
set_option maxRecDepth 100000 in
theorem lifted5 {call : Orc} (hC : DatOk Try.prog call) (hall : ∀ (x0 : ByteArray) (x1 : Int) (x2 : Int), True → (Lit.int .i64 x1).wf = true → (Lit.int .u32 x2).wf = true → call.dat 5 [.sc (.string x0), iv x1, uv x2] = some [.sc (.bool true)]) (os : Os) (started : os.Started) (H : Type) (enc : TypeId × Value → H) :
    ReturnsInHanded {} Try.checked os 5 .any (Rows.kitPlantSpec.pre6 enc Try.prog Try.f5 Rows.kitPlantRow.domain false) (Rows.kitPlantSpec.post enc Try.prog Try.f5 false true false false) := by
  refine returnsInHanded_of_change (C := Try.checked) own47 started (by kernel_rfl) Try.func5
    (ChangeSpec.witness6 (enc := enc) (C := Try.checked) false ⟨#[], #[.string ⟨#[]⟩, .int .i64 0, .int .u32 0], []⟩ 8 (by kernel_rfl) (by kernel_rfl) (by kernel_rfl) (by kernel_rfl)) ?_
  intro W base args ds gs before hval hW _ _
  exact contract5 hC hall H enc W base args ds gs before hval hW
theorem said5 {call : Orc} (hC : DatOk Try.prog call) (hall : ∀ (x0 : ByteArray) (x1 : Int) (x2 : Int), True → (Lit.int .i64 x1).wf = true → (Lit.int .u32 x2).wf = true → call.dat 5 [.sc (.string x0), iv x1, uv x2] = some [.sc (.bool true)]) : Rows.KitPlantSaid :=
  OpenClaim.holds_of_wide 5 Try.f5 rfl rfl rfl rfl rfl rfl rfl ⟨rfl, rfl, rfl, rfl, rfl⟩ rfl rfl rfl rfl rfl (by kernel_rfl) Try.func5 (by kernel_rfl)
    (of_decide_eq_true (by kernel_rfl)) (by unfold Func.isWrapper; first | (rw [if_pos (by decide +kernel)]; kernel_rfl) | (rw [if_neg (by decide +kernel)]; exact ⟨rfl, rfl⟩))
    (fun os started H enc _ => lifted5 hC hall os started H enc)
end Go.Proofs.Ytdokejnokhicbaa

namespace Go.Proofs.Ytdokejnokhicbaa
open Go Go.Ab
set_option linter.unusedSimpArgs false
set_option linter.unusedVariables false
theorem plant_holds : Rows.KitPlantSaid := said5 L47_ok (fun s a w _ _ hw => d5 s a w (u32_range hw))
end Go.Proofs.Ytdokejnokhicbaa
