/- A part of the proof: Va, Vb, Vd, Ve. -/
import Derived.Test.YtaeeffddinppeaaGreatDoorR32
set_option linter.unusedSimpArgs false
set_option linter.unusedVariables false
namespace Go.Proofs.YtaeeffddinppeaaGreatDoor
open Go Go.Ab
def tabOk (n : Nat) : Bool := (decide (partsOf (n : Int) ≠ ⟨#[63]⟩) == (decide (1 ≤ (n : Int)) && decide ((n : Int) ≤ 27))) && (hasB (partsOf (n : Int)) 97 == Ma.hasA n) && (hasB (partsOf (n : Int)) 98 == Ma.hasB n) && ((hasB (partsOf (n : Int)) 99 || hasB (partsOf (n : Int)) 114) == decide (Ma.kC n ≠ 0)) && (hasB (partsOf (n : Int)) 114 == decide (Ma.kC n = 2))
theorem tab_all : (List.range 256).all tabOk = true := by kernel_rfl
theorem okR_eq {w : Int} (h : U w) : okR w = Ma.rightI (Ma.insW w) := by
  obtain ⟨n, hn, hl⟩ : ∃ n : Nat, w / 16777216 = n ∧ n < 256 := ⟨(w / 16777216).toNat, by unfold U at h; omega, by unfold U at h; omega⟩
  have ht := List.all_eq_true.1 tab_all n (List.mem_range.2 hl)
  unfold tabOk at ht
  simp only [Bool.and_eq_true, beq_iff_eq] at ht
  obtain ⟨⟨⟨⟨h1, h2⟩, h3⟩, h4⟩, h5⟩ := ht
  unfold okR rightI Ma.rightI insW Ma.insW
  simp only
  rw [hn, h1, h2, h3, h4, h5]
  have e : wi = Ma.wi := by funext a b c; rfl
  rw [e]
  by_cases h6 : Ma.kC n = 2 <;> simp [h6]
theorem decR_ok {w : Int} (h : U w) (hr : Ma.rightI (Ma.insW w) = true) : decR w = [iv (Ma.insW w).op, iv (Ma.insW w).a, iv (Ma.insW w).b, iv (Ma.insW w).c] := by
  unfold decR
  rw [if_pos (show rightI (insW w) = true from (okR_eq h).trans hr)]
  rfl
abbrev rowIx (l : List Int) : List (List AV) := l.map fun x => [iv x]
theorem rowIx_set (l : List Int) (i : Nat) (x : Int) : (rowIx l).set i [iv x] = rowIx (l.set i x) := by simp [List.map_set]
theorem getW {l : List Int} {n : Nat} {x : Int} (h : l[n]? = some x) : ∀ h', l[n]'h' = x := fun h' => by
  rw [List.getElem?_eq_getElem h'] at h
  exact Option.some.inj h
end Go.Proofs.YtaeeffddinppeaaGreatDoor
namespace Go.Proofs.YtaeeffddinppeaaGreatDoor
open Go Go.Ab
def bxR (code : List Int) (inp : ByteArray) (pc : Int) (rg : List Int) (gm nm : Nat) (rd steps en : Int) (go no gc gk gn n : Nat) : List AV :=
  iv pc :: (rg.map uv ++ [.own ⟨0, 13, 18⟩ gm nm, iv rd, .sc (.string ⟨#[]⟩), iv steps, iv en, .own ⟨0, 13, 23⟩ go no, .own ⟨0, 13, 24⟩ gc n, .own ⟨0, 13, 25⟩ gk n, .sl false 1 (rowW code), .sc (.string inp), .own ⟨0, 13, 28⟩ gn n])
section
variable {code : List Int} {inp : ByteArray} {pc : Int} {rg : List Int} {gm nm : Nat} {rd steps en : Int} {go no gc gk gn n : Nat}
theorem br_len (h : rg.length = 16) : (bxR code inp pc rg gm nm rd steps en go no gc gk gn n).length = 28 := by simp [bxR, h]
theorem br_0 : (bxR code inp pc rg gm nm rd steps en go no gc gk gn n)[0]? = some (iv pc) := rfl
theorem bh_0 (h : rg.length = 16) (hl : 0 < (bxR code inp pc rg gm nm rd steps en go no gc gk gn n).length) : (bxR code inp pc rg gm nm rd steps en go no gc gk gn n)[0] = iv pc := by
  have h1 : (bxR code inp pc rg gm nm rd steps en go no gc gk gn n)[0]? = some (iv pc) := br_0
  rw [List.getElem?_eq_getElem hl] at h1
  exact Option.some.inj h1
theorem br_17 (h : rg.length = 16) : (bxR code inp pc rg gm nm rd steps en go no gc gk gn n)[17]? = some (.own ⟨0, 13, 18⟩ gm nm) := by obtain ⟨_, _, _, _, _, _, _, _, _, _, _, _, _, _, _, _, rfl⟩ := reg16 h; rfl
theorem bh_17 (h : rg.length = 16) (hl : 17 < (bxR code inp pc rg gm nm rd steps en go no gc gk gn n).length) : (bxR code inp pc rg gm nm rd steps en go no gc gk gn n)[17] = .own ⟨0, 13, 18⟩ gm nm := by
  have h1 : (bxR code inp pc rg gm nm rd steps en go no gc gk gn n)[17]? = some (.own ⟨0, 13, 18⟩ gm nm) := br_17 h
  rw [List.getElem?_eq_getElem hl] at h1
  exact Option.some.inj h1
theorem br_18 (h : rg.length = 16) : (bxR code inp pc rg gm nm rd steps en go no gc gk gn n)[18]? = some (iv rd) := by obtain ⟨_, _, _, _, _, _, _, _, _, _, _, _, _, _, _, _, rfl⟩ := reg16 h; rfl
theorem bh_18 (h : rg.length = 16) (hl : 18 < (bxR code inp pc rg gm nm rd steps en go no gc gk gn n).length) : (bxR code inp pc rg gm nm rd steps en go no gc gk gn n)[18] = iv rd := by
  have h1 : (bxR code inp pc rg gm nm rd steps en go no gc gk gn n)[18]? = some (iv rd) := br_18 h
  rw [List.getElem?_eq_getElem hl] at h1
  exact Option.some.inj h1
theorem br_19 (h : rg.length = 16) : (bxR code inp pc rg gm nm rd steps en go no gc gk gn n)[19]? = some (.sc (.string ⟨#[]⟩)) := by obtain ⟨_, _, _, _, _, _, _, _, _, _, _, _, _, _, _, _, rfl⟩ := reg16 h; rfl
theorem bh_19 (h : rg.length = 16) (hl : 19 < (bxR code inp pc rg gm nm rd steps en go no gc gk gn n).length) : (bxR code inp pc rg gm nm rd steps en go no gc gk gn n)[19] = .sc (.string ⟨#[]⟩) := by
  have h1 : (bxR code inp pc rg gm nm rd steps en go no gc gk gn n)[19]? = some (.sc (.string ⟨#[]⟩)) := br_19 h
  rw [List.getElem?_eq_getElem hl] at h1
  exact Option.some.inj h1
theorem br_20 (h : rg.length = 16) : (bxR code inp pc rg gm nm rd steps en go no gc gk gn n)[20]? = some (iv steps) := by obtain ⟨_, _, _, _, _, _, _, _, _, _, _, _, _, _, _, _, rfl⟩ := reg16 h; rfl
theorem bh_20 (h : rg.length = 16) (hl : 20 < (bxR code inp pc rg gm nm rd steps en go no gc gk gn n).length) : (bxR code inp pc rg gm nm rd steps en go no gc gk gn n)[20] = iv steps := by
  have h1 : (bxR code inp pc rg gm nm rd steps en go no gc gk gn n)[20]? = some (iv steps) := br_20 h
  rw [List.getElem?_eq_getElem hl] at h1
  exact Option.some.inj h1
theorem br_21 (h : rg.length = 16) : (bxR code inp pc rg gm nm rd steps en go no gc gk gn n)[21]? = some (iv en) := by obtain ⟨_, _, _, _, _, _, _, _, _, _, _, _, _, _, _, _, rfl⟩ := reg16 h; rfl
theorem bh_21 (h : rg.length = 16) (hl : 21 < (bxR code inp pc rg gm nm rd steps en go no gc gk gn n).length) : (bxR code inp pc rg gm nm rd steps en go no gc gk gn n)[21] = iv en := by
  have h1 : (bxR code inp pc rg gm nm rd steps en go no gc gk gn n)[21]? = some (iv en) := br_21 h
  rw [List.getElem?_eq_getElem hl] at h1
  exact Option.some.inj h1
theorem br_22 (h : rg.length = 16) : (bxR code inp pc rg gm nm rd steps en go no gc gk gn n)[22]? = some (.own ⟨0, 13, 23⟩ go no) := by obtain ⟨_, _, _, _, _, _, _, _, _, _, _, _, _, _, _, _, rfl⟩ := reg16 h; rfl
theorem bh_22 (h : rg.length = 16) (hl : 22 < (bxR code inp pc rg gm nm rd steps en go no gc gk gn n).length) : (bxR code inp pc rg gm nm rd steps en go no gc gk gn n)[22] = .own ⟨0, 13, 23⟩ go no := by
  have h1 : (bxR code inp pc rg gm nm rd steps en go no gc gk gn n)[22]? = some (.own ⟨0, 13, 23⟩ go no) := br_22 h
  rw [List.getElem?_eq_getElem hl] at h1
  exact Option.some.inj h1
theorem br_23 (h : rg.length = 16) : (bxR code inp pc rg gm nm rd steps en go no gc gk gn n)[23]? = some (.own ⟨0, 13, 24⟩ gc n) := by obtain ⟨_, _, _, _, _, _, _, _, _, _, _, _, _, _, _, _, rfl⟩ := reg16 h; rfl
theorem bh_23 (h : rg.length = 16) (hl : 23 < (bxR code inp pc rg gm nm rd steps en go no gc gk gn n).length) : (bxR code inp pc rg gm nm rd steps en go no gc gk gn n)[23] = .own ⟨0, 13, 24⟩ gc n := by
  have h1 : (bxR code inp pc rg gm nm rd steps en go no gc gk gn n)[23]? = some (.own ⟨0, 13, 24⟩ gc n) := br_23 h
  rw [List.getElem?_eq_getElem hl] at h1
  exact Option.some.inj h1
theorem br_24 (h : rg.length = 16) : (bxR code inp pc rg gm nm rd steps en go no gc gk gn n)[24]? = some (.own ⟨0, 13, 25⟩ gk n) := by obtain ⟨_, _, _, _, _, _, _, _, _, _, _, _, _, _, _, _, rfl⟩ := reg16 h; rfl
theorem bh_24 (h : rg.length = 16) (hl : 24 < (bxR code inp pc rg gm nm rd steps en go no gc gk gn n).length) : (bxR code inp pc rg gm nm rd steps en go no gc gk gn n)[24] = .own ⟨0, 13, 25⟩ gk n := by
  have h1 : (bxR code inp pc rg gm nm rd steps en go no gc gk gn n)[24]? = some (.own ⟨0, 13, 25⟩ gk n) := br_24 h
  rw [List.getElem?_eq_getElem hl] at h1
  exact Option.some.inj h1
theorem br_25 (h : rg.length = 16) : (bxR code inp pc rg gm nm rd steps en go no gc gk gn n)[25]? = some (.sl false 1 (rowW code)) := by obtain ⟨_, _, _, _, _, _, _, _, _, _, _, _, _, _, _, _, rfl⟩ := reg16 h; rfl
theorem bh_25 (h : rg.length = 16) (hl : 25 < (bxR code inp pc rg gm nm rd steps en go no gc gk gn n).length) : (bxR code inp pc rg gm nm rd steps en go no gc gk gn n)[25] = .sl false 1 (rowW code) := by
  have h1 : (bxR code inp pc rg gm nm rd steps en go no gc gk gn n)[25]? = some (.sl false 1 (rowW code)) := br_25 h
  rw [List.getElem?_eq_getElem hl] at h1
  exact Option.some.inj h1
theorem br_26 (h : rg.length = 16) : (bxR code inp pc rg gm nm rd steps en go no gc gk gn n)[26]? = some (.sc (.string inp)) := by obtain ⟨_, _, _, _, _, _, _, _, _, _, _, _, _, _, _, _, rfl⟩ := reg16 h; rfl
theorem bh_26 (h : rg.length = 16) (hl : 26 < (bxR code inp pc rg gm nm rd steps en go no gc gk gn n).length) : (bxR code inp pc rg gm nm rd steps en go no gc gk gn n)[26] = .sc (.string inp) := by
  have h1 : (bxR code inp pc rg gm nm rd steps en go no gc gk gn n)[26]? = some (.sc (.string inp)) := br_26 h
  rw [List.getElem?_eq_getElem hl] at h1
  exact Option.some.inj h1
theorem br_27 (h : rg.length = 16) : (bxR code inp pc rg gm nm rd steps en go no gc gk gn n)[27]? = some (.own ⟨0, 13, 28⟩ gn n) := by obtain ⟨_, _, _, _, _, _, _, _, _, _, _, _, _, _, _, _, rfl⟩ := reg16 h; rfl
theorem bh_27 (h : rg.length = 16) (hl : 27 < (bxR code inp pc rg gm nm rd steps en go no gc gk gn n).length) : (bxR code inp pc rg gm nm rd steps en go no gc gk gn n)[27] = .own ⟨0, 13, 28⟩ gn n := by
  have h1 : (bxR code inp pc rg gm nm rd steps en go no gc gk gn n)[27]? = some (.own ⟨0, 13, 28⟩ gn n) := br_27 h
  rw [List.getElem?_eq_getElem hl] at h1
  exact Option.some.inj h1
theorem br_reg {a : Nat} (h : rg.length = 16) (ha : a < 16) : (bxR code inp pc rg gm nm rd steps en go no gc gk gn n)[1 + a]? = (rg[a]?).map uv := by
  unfold bxR
  rw [show 1 + a = a + 1 from by omega, List.getElem?_cons_succ, List.getElem?_append_left (by simpa [h] using ha), List.getElem?_map]
theorem br_regg {a : Nat} (h : rg.length = 16) (ha : a < 16) (hl : 1 + a < (bxR code inp pc rg gm nm rd steps en go no gc gk gn n).length) : (bxR code inp pc rg gm nm rd steps en go no gc gk gn n)[1 + a] = uv ((rg[a]?).getD 0) := by
  have h1 : (bxR code inp pc rg gm nm rd steps en go no gc gk gn n)[1 + a]? = (rg[a]?).map uv := br_reg h ha
  rw [List.getElem?_eq_getElem hl] at h1
  rw [List.getElem?_eq_getElem (by omega)] at h1 ⊢
  simpa using h1
theorem bt_reg {a : Nat} (h : rg.length = 16) (ha : a < 16) (x : Int) : (bxR code inp pc rg gm nm rd steps en go no gc gk gn n).set (1 + a) (uv x) = bxR code inp pc (rg.set a x) gm nm rd steps en go no gc gk gn n := by
  unfold bxR
  rw [show 1 + a = a + 1 from by omega, List.set_cons_succ, List.set_append_left _ _ (by simpa [h] using ha), List.map_set]
theorem bt_pc (x : Int) : (bxR code inp pc rg gm nm rd steps en go no gc gk gn n).set 0 (iv x) = bxR code inp x rg gm nm rd steps en go no gc gk gn n := rfl
theorem bt_rd (h : rg.length = 16) (x : Int) : (bxR code inp pc rg gm nm rd steps en go no gc gk gn n).set 18 (iv x) = bxR code inp pc rg gm nm x steps en go no gc gk gn n := by obtain ⟨_, _, _, _, _, _, _, _, _, _, _, _, _, _, _, _, rfl⟩ := reg16 h; rfl
theorem bt_steps (h : rg.length = 16) (x : Int) : (bxR code inp pc rg gm nm rd steps en go no gc gk gn n).set 20 (iv x) = bxR code inp pc rg gm nm rd x en go no gc gk gn n := by obtain ⟨_, _, _, _, _, _, _, _, _, _, _, _, _, _, _, _, rfl⟩ := reg16 h; rfl
theorem bt_en (h : rg.length = 16) (x : Int) : (bxR code inp pc rg gm nm rd steps en go no gc gk gn n).set 21 (iv x) = bxR code inp pc rg gm nm rd steps x go no gc gk gn n := by obtain ⟨_, _, _, _, _, _, _, _, _, _, _, _, _, _, _, _, rfl⟩ := reg16 h; rfl
theorem bt_out (h : rg.length = 16) (g m : Nat) : (bxR code inp pc rg gm nm rd steps en go no gc gk gn n).set 22 (.own ⟨0, 13, 23⟩ g m) = bxR code inp pc rg gm nm rd steps en g m gc gk gn n := by obtain ⟨_, _, _, _, _, _, _, _, _, _, _, _, _, _, _, _, rfl⟩ := reg16 h; rfl
end
attribute [-simp] Prog.bind getCs putCs
attribute [local simp ↓] run_bind
attribute [local simp ↓] runF_bind
attribute [local simp] run_getCsN runF_getCsN facetsC putCs_one run_putCsN runF_putCsN facetsW facetsH
attribute [local simp] take1 br_len br_reg br_regg bt_reg bt_pc bt_rd bt_steps bt_en bt_out br_0 bh_0 br_17 bh_17 br_18 bh_18 br_19 bh_19 br_20 bh_20 br_21 bh_21 br_22 bh_22 br_23 bh_23 br_24 bh_24 br_25 bh_25 br_26 bh_26 br_27 bh_27
set_option maxHeartbeats 4000000 in
theorem s215 {code : List Int} {inp : ByteArray} {pc : Int} {rg : List Int} {gm nm : Nat} {rd steps en : Int} {go no gc gk gn n : Nat} (na : Nat) (ha : na < 16) (x : Int) (h0 : 0 ≤ pc) (h1 : pc ≤ 4294967296) (hrl : rg.length = 16) (d : Nat) (hp1 : Hp) (hx : hp1 ⟨0, 13, 0⟩ = .box 1 (bxR code inp pc rg gm nm rd steps en go no gc gk gn n) false) :
    (lim Tryz.prog E47 X47).hpc 1 d 215 [.ptr ⟨0, 13, 0⟩ 1 0, iv na, uv x] hp1 = some (.tup [], upd hp1 ⟨0, 13, 0⟩ (.box 1 (bxR code inp (pc + 1) (rg.set na x) gm nm rd steps en go no gc gk gn n) false)) := by
  have key : ∃ z hp', (lim Tryz.prog E47 X47).hpc 1 d 215 [.ptr ⟨0, 13, 0⟩ 1 0, iv na, uv x] hp1 = some (z, hp') ∧ (z = .tup [] ∧ hp' = upd hp1 ⟨0, 13, 0⟩ (.box 1 (bxR code inp (pc + 1) (rg.set na x) gm nm rd steps en go no gc gk gn n) false)) := by
    refine lim_hpcW (R := fun z hp' => z = .tup [] ∧ hp' = upd hp1 ⟨0, 13, 0⟩ (.box 1 (bxR code inp (pc + 1) (rg.set na x) gm nm rd steps en go no gc gk gn n) false)) Tryz.func215 rfl rfl bodyOk_215 rfl rfl ?_
    have hNA := fun (k : Nat) (h : k < 16) => (⟨by omega, by omega⟩ : 1 + k ≤ 27 ∧ 1 + k < 28)
    have hA := hNA _ ha
    clear hNA
    have hw : IntKind.i64.wrap (pc + 1) = pc + 1 := wrap64 (by omega) (by omega)
    exact step6
  obtain ⟨z, hp', h1, rfl, rfl⟩ := key
  exact h1
set_option maxHeartbeats 4000000 in
theorem s217 {code : List Int} {inp : ByteArray} {pc : Int} {rg : List Int} {gm nm : Nat} {rd steps en : Int} {go no gc gk gn n : Nat} (b : Bool) (to : Int) (h0 : 0 ≤ pc) (h1 : pc ≤ 4294967296) (hrl : rg.length = 16) (d : Nat) (hp1 : Hp) (hx : hp1 ⟨0, 13, 0⟩ = .box 1 (bxR code inp pc rg gm nm rd steps en go no gc gk gn n) false) :
    (lim Tryz.prog E47 X47).hpc 1 d 217 [.ptr ⟨0, 13, 0⟩ 1 0, bv b, iv to] hp1 = some (.tup [], upd hp1 ⟨0, 13, 0⟩ (.box 1 (bxR code inp (if b then to else pc + 1) rg gm nm rd steps en go no gc gk gn n) false)) := by
  have key : ∃ z hp', (lim Tryz.prog E47 X47).hpc 1 d 217 [.ptr ⟨0, 13, 0⟩ 1 0, bv b, iv to] hp1 = some (z, hp') ∧ (z = .tup [] ∧ hp' = upd hp1 ⟨0, 13, 0⟩ (.box 1 (bxR code inp (if b then to else pc + 1) rg gm nm rd steps en go no gc gk gn n) false)) := by
    refine lim_hpcW (R := fun z hp' => z = .tup [] ∧ hp' = upd hp1 ⟨0, 13, 0⟩ (.box 1 (bxR code inp (if b then to else pc + 1) rg gm nm rd steps en go no gc gk gn n) false)) Tryz.func217 rfl rfl bodyOk_217 rfl rfl ?_
    have hw : IntKind.i64.wrap (pc + 1) = pc + 1 := wrap64 (by omega) (by omega)
    cases b
    all_goals exact step6
  obtain ⟨z, hp', h1, rfl, rfl⟩ := key
  exact h1
set_option maxHeartbeats 4000000 in
theorem s216i (l : List Int) (b : Int) (c at_ : Nat) (hl : l.length ≤ 1048576) (hc : c ≤ 65535) (hat : (b + c) % 4294967296 = (at_ : Int)) (x : Int) (hx : l[at_]? = some x)  : (lim Tryz.prog E47 X47).dat 216 [.sl false 1 (rowW l), uv b, iv c] = some [uv x, bv true] := by
  refine fnW Tryz.func216 rfl rfl bodyOk_216 rfl rtys_216 rfl ?_
  have w0 : IntKind.u32.wrap (c : Int) = c := by rw [IntKind.wrap_u32]; omega
  have w1 : IntKind.u32.wrap (b + c) = (at_ : Int) := by rw [IntKind.wrap_u32]; exact hat
  have w2 : IntKind.u64.wrap (at_ : Int) = at_ := by rw [IntKind.wrap_u64]; omega
  have w3 : IntKind.u64.wrap (l.length : Int) = l.length := by rw [IntKind.wrap_u64]; omega
  have q2 : at_ < l.length := (List.getElem?_eq_some_iff.1 hx).1
  have q1 : ¬ (l.length : Int) ≤ at_ := by omega
  have q3 : ∀ h, l[at_]'h = x := fun h => by rw [List.getElem?_eq_getElem h] at hx; exact Option.some.inj hx
  clear hat
  exact step0
set_option maxHeartbeats 4000000 in
theorem s216o (l : List Int) (b : Int) (c at_ : Nat) (hl : l.length ≤ 1048576) (hc : c ≤ 65535) (hat : (b + c) % 4294967296 = (at_ : Int)) (hx : l.length ≤ at_)  : (lim Tryz.prog E47 X47).dat 216 [.sl false 1 (rowW l), uv b, iv c] = some [uv 0, bv false] := by
  refine fnW Tryz.func216 rfl rfl bodyOk_216 rfl rtys_216 rfl ?_
  have w0 : IntKind.u32.wrap (c : Int) = c := by rw [IntKind.wrap_u32]; omega
  have w1 : IntKind.u32.wrap (b + c) = (at_ : Int) := by rw [IntKind.wrap_u32]; exact hat
  have w2 : IntKind.u64.wrap (at_ : Int) = at_ := by rw [IntKind.wrap_u64]; omega
  have w3 : IntKind.u64.wrap (l.length : Int) = l.length := by rw [IntKind.wrap_u64]; omega
  have q1 : (l.length : Int) ≤ at_ := by omega
  clear hat
  exact step0
end Go.Proofs.YtaeeffddinppeaaGreatDoor
namespace Go.Proofs.YtaeeffddinppeaaGreatDoor
open Go Go.Ab
attribute [-simp] Prog.bind getCs putCs
attribute [local simp ↓] run_bind
attribute [local simp ↓] runF_bind
attribute [local simp] run_getCsN runF_getCsN facetsC putCs_one run_putCsN runF_putCsN facetsW facetsH
attribute [local simp] take1 br_len br_reg br_regg bt_reg bt_pc bt_rd bt_steps bt_en bt_out br_0 bh_0 br_17 bh_17 br_18 bh_18 br_19 bh_19 br_20 bh_20 br_21 bh_21 br_22 bh_22 br_23 bh_23 br_24 bh_24 br_25 bh_25 br_26 bh_26 br_27 bh_27
set_option maxHeartbeats 8000000 in
theorem s162_o {code : List Int} {inp : ByteArray} {pc : Int} {rg : List Int} {gm nm : Nat} {rd steps en : Int} {go no gc gk gn n : Nat} (hp1 : Hp) (hcx : (n : Int) ≤ pc) (hpc0 : 0 ≤ pc) (hrl : rg.length = 16) (hx : hp1 ⟨0, 13, 0⟩ = .box 1 (bxR code inp pc rg gm nm rd steps en go no gc gk gn n) false) (RD : List (List AV)) (hc : hp1 ⟨0, 13, 24⟩ = .arr gc 4 119 RD false) (d : Nat) :
    ∃ hp', (lim Tryz.prog E47 X47).hpc 0 d 162 [.ptr ⟨0, 13, 0⟩ 1 0] hp1 = some (.tup [], hp') ∧ hp' ⟨0, 13, 0⟩ = .box 1 (bxR code inp pc rg gm nm rd steps 7 go no gc gk gn n) false ∧ ∀ y : Nm, y.d = 0 → y ≠ ⟨0, 13, 0⟩ → hp' y = hp1 y := by
  refine unkey ?_
  refine lim_hpcW Tryz.func162 rfl rfl bodyOk_162 rfl rfl ?_
  have q0 : ¬ pc < 0 := by omega
  repeat' (first | ((with_reducible first | apply Wo_u | apply Wo_n | apply ex2 | apply W_sc | apply W_c | apply Wd_u | apply Wd_n | apply ex4 | apply EndQ_ret | apply EndQ_normal); (conv => lhs; simp -implicitDefEqProofs [*]) <;> exact rfl) | (with_reducible first | apply Wo_nil | apply W_ss | apply W_srl | apply W_rl | apply W_sblock | apply W_block | apply W_sskip | apply W_skip | apply W_sret | apply W_ret | apply W_sexit | apply W_exit | apply thenW_n | apply thenW_r | apply thenW_e | apply inB_n | apply inB_r | apply inB_e) | ((with_reducible apply Wo_gt); (exact rfl); ((conv => lhs; simp -implicitDefEqProofs [*]) <;> exact rfl); (conv => lhs; simp -implicitDefEqProofs [*]) <;> exact rfl) | ((with_reducible apply Wo_gf); (exact rfl); ((conv => lhs; simp -implicitDefEqProofs [*]) <;> exact rfl); (exact rfl)) | ((with_reducible apply Wo_gx); (exact rfl); ((conv => lhs; simp -implicitDefEqProofs [*]) <;> exact rfl)) | ((with_reducible apply Wo_gsT); (exact rfl); ((conv => lhs; simp -implicitDefEqProofs [*]) <;> exact rfl)) | ((with_reducible apply Wo_gsF); (exact rfl); ((conv => lhs; simp -implicitDefEqProofs [*]) <;> exact rfl)) | ((with_reducible apply Wd_gsT); (exact rfl); ((conv => lhs; simp -implicitDefEqProofs [*]) <;> exact rfl)) | ((with_reducible apply Wd_gsF); (exact rfl); ((conv => lhs; simp -implicitDefEqProofs [*]) <;> exact rfl)) | ((with_reducible first | apply W_srdl | apply W_rdl); kernel_rfl) | ((with_reducible apply Wd_nil); kernel_rfl) | ((with_reducible apply inB_o); rotate_left; exact rfl) | (intro h h'; try simp [*, -h] at h') | ((with_reducible apply Wd_gx); (exact rfl); ((conv => lhs; simp -implicitDefEqProofs [*]) <;> exact rfl)))
  all_goals exact ⟨by simp, _, _, rfl, rfl, by simp [*], fun y h1 h2 => (by have e1 : ∀ k i, y ≠ ⟨k + 1, i, 0⟩ := fun k i e => (by subst e; simp at h1); have e2 : ∀ i, y ≠ ⟨1, i, 0⟩ := fun i => e1 0 i; simp [*])⟩
set_option maxHeartbeats 8000000 in
theorem s162_b {code : List Int} {inp : ByteArray} {pc : Int} {rg : List Int} {gm nm : Nat} {rd steps en : Int} {go no gc gk gn n : Nat} (hp1 : Hp) (RD RK : List (List AV)) (cs : List Int) (pn stn : Nat) (i1 i2 i3 i4 : Int) (hrl : rg.length = 16) (hpn : pc = pn) (hst : steps = stn) (hx : hp1 ⟨0, 13, 0⟩ = .box 1 (bxR code inp pc rg gm nm rd steps en go no gc gk gn n) false) (hc : hp1 ⟨0, 13, 24⟩ = .arr gc 4 119 RD false) (hcl : RD.length = n) (hk : hp1 ⟨0, 13, 25⟩ = .arr gk 1 4 RK false) (hkl : RK.length = n) (hn : hp1 ⟨0, 13, 28⟩ = .arr gn 1 3 (rowIx cs) false) (hnl : cs.length = n)
    (hpl : pn < n) (hn1 : n ≤ 1048576) (hcp : RD[pn]? = some [iv i1, iv i2, iv i3, iv i4]) (hkp : RK[pn]? = some [bv false]) (hst1 : stn < 9223372036854775806) (d : Nat) :
    ∃ hp', (lim Tryz.prog E47 X47).hpc 0 d 162 [.ptr ⟨0, 13, 0⟩ 1 0] hp1 = some (.tup [], hp') ∧ (∃ cs' : List Int, cs'.length = n ∧ hp' ⟨0, 13, 28⟩ = .arr gn 1 3 (rowIx cs') false) ∧ hp' ⟨0, 13, 0⟩ = .box 1 (bxR code inp (pn : Int) rg gm nm rd ((stn : Int) + 1) 6 go no gc gk gn n) false ∧ ∀ y : Nm, y.d = 0 → y ≠ ⟨0, 13, 0⟩ → y ≠ ⟨0, 13, 28⟩ → hp' y = hp1 y := by
  refine unkey ?_
  refine lim_hpcW Tryz.func162 rfl rfl bodyOk_162 rfl rfl ?_
  subst hpn hst
  have hst1' := wrapN (k := stn) (by omega)
  have hcg : ∀ h, RD[pn]'h = [iv i1, iv i2, iv i3, iv i4] := fun h => by rw [List.getElem?_eq_getElem h] at hcp; exact Option.some.inj hcp
  have hkg : ∀ h, RK[pn]'h = [bv false] := fun h => by rw [List.getElem?_eq_getElem h] at hkp; exact Option.some.inj hkp
  obtain ⟨cx, hcx0⟩ : ∃ cx, cs[pn]? = some cx := ⟨_, List.getElem?_eq_getElem (by omega)⟩
  have hRl : (rowIx cs).length = n := by simp [hnl]
  have hRp : (rowIx cs)[pn]? = some [iv cx] := by rw [List.getElem?_map, hcx0]; rfl
  have hRg : ∀ h, (rowIx cs)[pn]'h = [iv cx] := fun h => by rw [List.getElem?_eq_getElem h] at hRp; exact Option.some.inj hRp
  have hRs := rowIx_set cs pn (IntKind.i64.wrap (cx + 1))
  have hcsl : (cs.set pn (IntKind.i64.wrap (cx + 1))).length = n := by simp [hnl]
  generalize cs.set pn (IntKind.i64.wrap (cx + 1)) = cs' at hRs hcsl
  generalize rowIx cs = RN at hn hRl hRp hRg hRs
  clear hcx0 hnl
  have hpI : ¬ (n : Int) ≤ pn := by omega
  have hp0' : ¬ (pn : Int) < 0 := by omega
  repeat' (first | ((with_reducible first | apply Wo_u | apply Wo_n | apply ex2 | apply W_sc | apply W_c | apply Wd_u | apply Wd_n | apply ex4 | apply EndQ_ret | apply EndQ_normal); (conv => lhs; simp -implicitDefEqProofs [*]) <;> exact rfl) | (with_reducible first | apply Wo_nil | apply W_ss | apply W_srl | apply W_rl | apply W_sblock | apply W_block | apply W_sskip | apply W_skip | apply W_sret | apply W_ret | apply W_sexit | apply W_exit | apply thenW_n | apply thenW_r | apply thenW_e | apply inB_n | apply inB_r | apply inB_e) | ((with_reducible apply Wo_gt); (exact rfl); ((conv => lhs; simp -implicitDefEqProofs [*]) <;> exact rfl); (conv => lhs; simp -implicitDefEqProofs [*]) <;> exact rfl) | ((with_reducible apply Wo_gf); (exact rfl); ((conv => lhs; simp -implicitDefEqProofs [*]) <;> exact rfl); (exact rfl)) | ((with_reducible apply Wo_gx); (exact rfl); ((conv => lhs; simp -implicitDefEqProofs [*]) <;> exact rfl)) | ((with_reducible apply Wo_gsT); (exact rfl); ((conv => lhs; simp -implicitDefEqProofs [*]) <;> exact rfl)) | ((with_reducible apply Wo_gsF); (exact rfl); ((conv => lhs; simp -implicitDefEqProofs [*]) <;> exact rfl)) | ((with_reducible apply Wd_gsT); (exact rfl); ((conv => lhs; simp -implicitDefEqProofs [*]) <;> exact rfl)) | ((with_reducible apply Wd_gsF); (exact rfl); ((conv => lhs; simp -implicitDefEqProofs [*]) <;> exact rfl)) | ((with_reducible first | apply W_srdl | apply W_rdl); kernel_rfl) | ((with_reducible apply Wd_nil); kernel_rfl) | ((with_reducible apply inB_o); rotate_left; exact rfl) | (intro h h'; try simp [*, -h] at h') | ((with_reducible apply Wd_gx); (exact rfl); ((conv => lhs; simp -implicitDefEqProofs [*]) <;> exact rfl)))
  all_goals exact ⟨by simp, _, _, rfl, rfl, ⟨cs', hcsl, by simp [*]⟩, by simp [*], fun y h1 h2 h3 => (by have e1 : ∀ k i, y ≠ ⟨k + 1, i, 0⟩ := fun k i e => (by subst e; simp at h1); have e2 : ∀ i, y ≠ ⟨1, i, 0⟩ := fun i => e1 0 i; simp [*])⟩
set_option maxHeartbeats 8000000 in
theorem s162_1 {code : List Int} {inp : ByteArray} {pc : Int} {rg : List Int} {gm nm : Nat} {rd steps en : Int} {go no gc gk gn n : Nat} (hp1 : Hp) (RD RK : List (List AV)) (cs : List Int) (na nb nc pn stn : Nat) (xa xb : Int) (hnc : nc ≤ 65535) (hrl : rg.length = 16) (hpn : pc = pn) (hst : steps = stn) (hx : hp1 ⟨0, 13, 0⟩ = .box 1 (bxR code inp pc rg gm nm rd steps en go no gc gk gn n) false) (hc : hp1 ⟨0, 13, 24⟩ = .arr gc 4 119 RD false) (hcl : RD.length = n) (hk : hp1 ⟨0, 13, 25⟩ = .arr gk 1 4 RK false) (hkl : RK.length = n) (hn : hp1 ⟨0, 13, 28⟩ = .arr gn 1 3 (rowIx cs) false) (hnl : cs.length = n)
    (hpl : pn < n) (hn1 : n ≤ 1048576) (hcp : RD[pn]? = some [iv 1, iv na, iv nb, iv nc]) (hkp : RK[pn]? = some [bv true]) (hst1 : stn < 9223372036854775806) (ha : na < 16) (hb16 : nb < 16) (hga : rg[na]? = some xa) (hgb : rg[nb]? = some xb) (d : Nat) :
    ∃ hp', (lim Tryz.prog E47 X47).hpc 0 d 162 [.ptr ⟨0, 13, 0⟩ 1 0] hp1 = some (.tup [], hp') ∧ (∃ cs' : List Int, cs'.length = n ∧ hp' ⟨0, 13, 28⟩ = .arr gn 1 3 (rowIx cs') false) ∧ hp' ⟨0, 13, 0⟩ = .box 1 (bxR code inp ((pn : Int) + 1) (rg.set na (nc : Int)) gm nm rd ((stn : Int) + 1) en go no gc gk gn n) false ∧ ∀ y : Nm, y.d = 0 → y ≠ ⟨0, 13, 0⟩ → y ≠ ⟨0, 13, 28⟩ → hp' y = hp1 y := by
  refine unkey ?_
  refine lim_hpcW Tryz.func162 rfl rfl bodyOk_162 rfl rfl ?_
  have hNA := fun (k : Nat) (h : k < 16) => (⟨by omega, by omega⟩ : 1 + k ≤ 27 ∧ 1 + k < 28)
  have hA := hNA _ ha
  have hB := hNA _ hb16
  have hga' := getW hga
  have hgb' := getW hgb
  subst hpn hst
  have hst1' := wrapN (k := stn) (by omega)
  have hp1' := wrapN (k := pn) (by omega)
  have hcg : ∀ h, RD[pn]'h = [iv 1, iv na, iv nb, iv nc] := fun h => by rw [List.getElem?_eq_getElem h] at hcp; exact Option.some.inj hcp
  have hkg : ∀ h, RK[pn]'h = [bv true] := fun h => by rw [List.getElem?_eq_getElem h] at hkp; exact Option.some.inj hkp
  obtain ⟨cx, hcx0⟩ : ∃ cx, cs[pn]? = some cx := ⟨_, List.getElem?_eq_getElem (by omega)⟩
  have hRl : (rowIx cs).length = n := by simp [hnl]
  have hRp : (rowIx cs)[pn]? = some [iv cx] := by rw [List.getElem?_map, hcx0]; rfl
  have hRg : ∀ h, (rowIx cs)[pn]'h = [iv cx] := fun h => by rw [List.getElem?_eq_getElem h] at hRp; exact Option.some.inj hRp
  have hRs := rowIx_set cs pn (IntKind.i64.wrap (cx + 1))
  have hcsl : (cs.set pn (IntKind.i64.wrap (cx + 1))).length = n := by simp [hnl]
  generalize cs.set pn (IntKind.i64.wrap (cx + 1)) = cs' at hRs hcsl
  generalize rowIx cs = RN at hn hRl hRp hRg hRs
  clear hcx0 hnl
  have hpI : ¬ (n : Int) ≤ pn := by omega
  have hp0' : ¬ (pn : Int) < 0 := by omega
  have u0 : IntKind.u32.wrap (nc : Int) = nc := by rw [IntKind.wrap_u32]; omega
  have hset := fun d hp => s215 (code := code) (inp := inp) (pc := pn) (rg := rg) (gm := gm) (nm := nm) (rd := rd) (steps := (stn : Int) + 1) (en := en) (go := go) (no := no) (gc := gc) (gk := gk) (gn := gn) (n := n) na ha (nc) (by omega) (by omega) hrl d hp
  clear hNA
  exact step14
set_option maxHeartbeats 8000000 in
theorem s162_2 {code : List Int} {inp : ByteArray} {pc : Int} {rg : List Int} {gm nm : Nat} {rd steps en : Int} {go no gc gk gn n : Nat} (hp1 : Hp) (RD RK : List (List AV)) (cs : List Int) (na nb nc pn stn : Nat) (xa xb : Int) (hnc : nc ≤ 65535) (hxa : Ma.U xa) (hrl : rg.length = 16) (hpn : pc = pn) (hst : steps = stn) (hx : hp1 ⟨0, 13, 0⟩ = .box 1 (bxR code inp pc rg gm nm rd steps en go no gc gk gn n) false) (hc : hp1 ⟨0, 13, 24⟩ = .arr gc 4 119 RD false) (hcl : RD.length = n) (hk : hp1 ⟨0, 13, 25⟩ = .arr gk 1 4 RK false) (hkl : RK.length = n) (hn : hp1 ⟨0, 13, 28⟩ = .arr gn 1 3 (rowIx cs) false) (hnl : cs.length = n)
    (hpl : pn < n) (hn1 : n ≤ 1048576) (hcp : RD[pn]? = some [iv 2, iv na, iv nb, iv nc]) (hkp : RK[pn]? = some [bv true]) (hst1 : stn < 9223372036854775806) (ha : na < 16) (hb16 : nb < 16) (hga : rg[na]? = some xa) (hgb : rg[nb]? = some xb) (d : Nat) :
    ∃ hp', (lim Tryz.prog E47 X47).hpc 0 d 162 [.ptr ⟨0, 13, 0⟩ 1 0] hp1 = some (.tup [], hp') ∧ (∃ cs' : List Int, cs'.length = n ∧ hp' ⟨0, 13, 28⟩ = .arr gn 1 3 (rowIx cs') false) ∧ hp' ⟨0, 13, 0⟩ = .box 1 (bxR code inp ((pn : Int) + 1) (rg.set na (xa % 65536 + (nc : Int) * 65536)) gm nm rd ((stn : Int) + 1) en go no gc gk gn n) false ∧ ∀ y : Nm, y.d = 0 → y ≠ ⟨0, 13, 0⟩ → y ≠ ⟨0, 13, 28⟩ → hp' y = hp1 y := by
  refine unkey ?_
  refine lim_hpcW Tryz.func162 rfl rfl bodyOk_162 rfl rfl ?_
  have hNA := fun (k : Nat) (h : k < 16) => (⟨by omega, by omega⟩ : 1 + k ≤ 27 ∧ 1 + k < 28)
  have hA := hNA _ ha
  have hB := hNA _ hb16
  have hga' := getW hga
  have hgb' := getW hgb
  subst hpn hst
  have hst1' := wrapN (k := stn) (by omega)
  have hp1' := wrapN (k := pn) (by omega)
  have hcg : ∀ h, RD[pn]'h = [iv 2, iv na, iv nb, iv nc] := fun h => by rw [List.getElem?_eq_getElem h] at hcp; exact Option.some.inj hcp
  have hkg : ∀ h, RK[pn]'h = [bv true] := fun h => by rw [List.getElem?_eq_getElem h] at hkp; exact Option.some.inj hkp
  obtain ⟨cx, hcx0⟩ : ∃ cx, cs[pn]? = some cx := ⟨_, List.getElem?_eq_getElem (by omega)⟩
  have hRl : (rowIx cs).length = n := by simp [hnl]
  have hRp : (rowIx cs)[pn]? = some [iv cx] := by rw [List.getElem?_map, hcx0]; rfl
  have hRg : ∀ h, (rowIx cs)[pn]'h = [iv cx] := fun h => by rw [List.getElem?_eq_getElem h] at hRp; exact Option.some.inj hRp
  have hRs := rowIx_set cs pn (IntKind.i64.wrap (cx + 1))
  have hcsl : (cs.set pn (IntKind.i64.wrap (cx + 1))).length = n := by simp [hnl]
  generalize cs.set pn (IntKind.i64.wrap (cx + 1)) = cs' at hRs hcsl
  generalize rowIx cs = RN at hn hRl hRp hRg hRs
  clear hcx0 hnl
  have hpI : ¬ (n : Int) ≤ pn := by omega
  have hp0' : ¬ (pn : Int) < 0 := by omega
  have u0 : IntKind.u32.wrap (nc : Int) = nc := by rw [IntKind.wrap_u32]; omega
  have u1 : xa.tmod 65536 = xa % 65536 := Int.tmod_eq_emod_of_nonneg hxa.1
  have u2 : IntKind.u32.wrap ((nc : Int) * 65536) = (nc : Int) * 65536 := by rw [IntKind.wrap_u32]; omega
  have u3 : IntKind.u32.wrap (xa % 65536 + (nc : Int) * 65536) = xa % 65536 + (nc : Int) * 65536 := by rw [IntKind.wrap_u32]; omega
  clear hxa
  have hset := fun d hp => s215 (code := code) (inp := inp) (pc := pn) (rg := rg) (gm := gm) (nm := nm) (rd := rd) (steps := (stn : Int) + 1) (en := en) (go := go) (no := no) (gc := gc) (gk := gk) (gn := gn) (n := n) na ha (xa % 65536 + (nc : Int) * 65536) (by omega) (by omega) hrl d hp
  clear hNA
  exact step14
set_option maxHeartbeats 8000000 in
theorem s162_3 {code : List Int} {inp : ByteArray} {pc : Int} {rg : List Int} {gm nm : Nat} {rd steps en : Int} {go no gc gk gn n : Nat} (hp1 : Hp) (RD RK : List (List AV)) (cs : List Int) (na nb nc pn stn : Nat) (xa xb : Int) (hrl : rg.length = 16) (hpn : pc = pn) (hst : steps = stn) (hx : hp1 ⟨0, 13, 0⟩ = .box 1 (bxR code inp pc rg gm nm rd steps en go no gc gk gn n) false) (hc : hp1 ⟨0, 13, 24⟩ = .arr gc 4 119 RD false) (hcl : RD.length = n) (hk : hp1 ⟨0, 13, 25⟩ = .arr gk 1 4 RK false) (hkl : RK.length = n) (hn : hp1 ⟨0, 13, 28⟩ = .arr gn 1 3 (rowIx cs) false) (hnl : cs.length = n)
    (hpl : pn < n) (hn1 : n ≤ 1048576) (hcp : RD[pn]? = some [iv 3, iv na, iv nb, iv nc]) (hkp : RK[pn]? = some [bv true]) (hst1 : stn < 9223372036854775806) (ha : na < 16) (hb16 : nb < 16) (hga : rg[na]? = some xa) (hgb : rg[nb]? = some xb) (d : Nat) :
    ∃ hp', (lim Tryz.prog E47 X47).hpc 0 d 162 [.ptr ⟨0, 13, 0⟩ 1 0] hp1 = some (.tup [], hp') ∧ (∃ cs' : List Int, cs'.length = n ∧ hp' ⟨0, 13, 28⟩ = .arr gn 1 3 (rowIx cs') false) ∧ hp' ⟨0, 13, 0⟩ = .box 1 (bxR code inp ((pn : Int) + 1) (rg.set na xb) gm nm rd ((stn : Int) + 1) en go no gc gk gn n) false ∧ ∀ y : Nm, y.d = 0 → y ≠ ⟨0, 13, 0⟩ → y ≠ ⟨0, 13, 28⟩ → hp' y = hp1 y := by
  refine unkey ?_
  refine lim_hpcW Tryz.func162 rfl rfl bodyOk_162 rfl rfl ?_
  have hNA := fun (k : Nat) (h : k < 16) => (⟨by omega, by omega⟩ : 1 + k ≤ 27 ∧ 1 + k < 28)
  have hA := hNA _ ha
  have hB := hNA _ hb16
  have hga' := getW hga
  have hgb' := getW hgb
  subst hpn hst
  have hst1' := wrapN (k := stn) (by omega)
  have hp1' := wrapN (k := pn) (by omega)
  have hcg : ∀ h, RD[pn]'h = [iv 3, iv na, iv nb, iv nc] := fun h => by rw [List.getElem?_eq_getElem h] at hcp; exact Option.some.inj hcp
  have hkg : ∀ h, RK[pn]'h = [bv true] := fun h => by rw [List.getElem?_eq_getElem h] at hkp; exact Option.some.inj hkp
  obtain ⟨cx, hcx0⟩ : ∃ cx, cs[pn]? = some cx := ⟨_, List.getElem?_eq_getElem (by omega)⟩
  have hRl : (rowIx cs).length = n := by simp [hnl]
  have hRp : (rowIx cs)[pn]? = some [iv cx] := by rw [List.getElem?_map, hcx0]; rfl
  have hRg : ∀ h, (rowIx cs)[pn]'h = [iv cx] := fun h => by rw [List.getElem?_eq_getElem h] at hRp; exact Option.some.inj hRp
  have hRs := rowIx_set cs pn (IntKind.i64.wrap (cx + 1))
  have hcsl : (cs.set pn (IntKind.i64.wrap (cx + 1))).length = n := by simp [hnl]
  generalize cs.set pn (IntKind.i64.wrap (cx + 1)) = cs' at hRs hcsl
  generalize rowIx cs = RN at hn hRl hRp hRg hRs
  clear hcx0 hnl
  have hpI : ¬ (n : Int) ≤ pn := by omega
  have hp0' : ¬ (pn : Int) < 0 := by omega
  have hset := fun d hp => s215 (code := code) (inp := inp) (pc := pn) (rg := rg) (gm := gm) (nm := nm) (rd := rd) (steps := (stn : Int) + 1) (en := en) (go := go) (no := no) (gc := gc) (gk := gk) (gn := gn) (n := n) na ha (xb) (by omega) (by omega) hrl d hp
  clear hNA
  exact step14
set_option maxHeartbeats 8000000 in
theorem s162_18 {code : List Int} {inp : ByteArray} {pc : Int} {rg : List Int} {gm nm : Nat} {rd steps en : Int} {go no gc gk gn n : Nat} (hp1 : Hp) (RD RK : List (List AV)) (cs : List Int) (na nb nc pn stn : Nat) (xa xb : Int) (hrl : rg.length = 16) (hpn : pc = pn) (hst : steps = stn) (hx : hp1 ⟨0, 13, 0⟩ = .box 1 (bxR code inp pc rg gm nm rd steps en go no gc gk gn n) false) (hc : hp1 ⟨0, 13, 24⟩ = .arr gc 4 119 RD false) (hcl : RD.length = n) (hk : hp1 ⟨0, 13, 25⟩ = .arr gk 1 4 RK false) (hkl : RK.length = n) (hn : hp1 ⟨0, 13, 28⟩ = .arr gn 1 3 (rowIx cs) false) (hnl : cs.length = n)
    (hpl : pn < n) (hn1 : n ≤ 1048576) (hcp : RD[pn]? = some [iv 18, iv na, iv nb, iv nc]) (hkp : RK[pn]? = some [bv true]) (hst1 : stn < 9223372036854775806) (ha : na < 16) (hb16 : nb < 16) (hga : rg[na]? = some xa) (hgb : rg[nb]? = some xb) (d : Nat) :
    ∃ hp', (lim Tryz.prog E47 X47).hpc 0 d 162 [.ptr ⟨0, 13, 0⟩ 1 0] hp1 = some (.tup [], hp') ∧ (∃ cs' : List Int, cs'.length = n ∧ hp' ⟨0, 13, 28⟩ = .arr gn 1 3 (rowIx cs') false) ∧ hp' ⟨0, 13, 0⟩ = .box 1 (bxR code inp (nc : Int) rg gm nm rd ((stn : Int) + 1) en go no gc gk gn n) false ∧ ∀ y : Nm, y.d = 0 → y ≠ ⟨0, 13, 0⟩ → y ≠ ⟨0, 13, 28⟩ → hp' y = hp1 y := by
  refine unkey ?_
  refine lim_hpcW Tryz.func162 rfl rfl bodyOk_162 rfl rfl ?_
  have hNA := fun (k : Nat) (h : k < 16) => (⟨by omega, by omega⟩ : 1 + k ≤ 27 ∧ 1 + k < 28)
  have hA := hNA _ ha
  have hB := hNA _ hb16
  have hga' := getW hga
  have hgb' := getW hgb
  subst hpn hst
  have hst1' := wrapN (k := stn) (by omega)
  have hp1' := wrapN (k := pn) (by omega)
  have hcg : ∀ h, RD[pn]'h = [iv 18, iv na, iv nb, iv nc] := fun h => by rw [List.getElem?_eq_getElem h] at hcp; exact Option.some.inj hcp
  have hkg : ∀ h, RK[pn]'h = [bv true] := fun h => by rw [List.getElem?_eq_getElem h] at hkp; exact Option.some.inj hkp
  obtain ⟨cx, hcx0⟩ : ∃ cx, cs[pn]? = some cx := ⟨_, List.getElem?_eq_getElem (by omega)⟩
  have hRl : (rowIx cs).length = n := by simp [hnl]
  have hRp : (rowIx cs)[pn]? = some [iv cx] := by rw [List.getElem?_map, hcx0]; rfl
  have hRg : ∀ h, (rowIx cs)[pn]'h = [iv cx] := fun h => by rw [List.getElem?_eq_getElem h] at hRp; exact Option.some.inj hRp
  have hRs := rowIx_set cs pn (IntKind.i64.wrap (cx + 1))
  have hcsl : (cs.set pn (IntKind.i64.wrap (cx + 1))).length = n := by simp [hnl]
  generalize cs.set pn (IntKind.i64.wrap (cx + 1)) = cs' at hRs hcsl
  generalize rowIx cs = RN at hn hRl hRp hRg hRs
  clear hcx0 hnl
  have hpI : ¬ (n : Int) ≤ pn := by omega
  have hp0' : ¬ (pn : Int) < 0 := by omega
  clear hNA
  exact step14
set_option maxHeartbeats 8000000 in
theorem s162_26 {code : List Int} {inp : ByteArray} {pc : Int} {rg : List Int} {gm nm : Nat} {rd steps en : Int} {go no gc gk gn n : Nat} (hp1 : Hp) (RD RK : List (List AV)) (cs : List Int) (na nb nc pn stn : Nat) (xa xb : Int) (hrl : rg.length = 16) (hpn : pc = pn) (hst : steps = stn) (hx : hp1 ⟨0, 13, 0⟩ = .box 1 (bxR code inp pc rg gm nm rd steps en go no gc gk gn n) false) (hc : hp1 ⟨0, 13, 24⟩ = .arr gc 4 119 RD false) (hcl : RD.length = n) (hk : hp1 ⟨0, 13, 25⟩ = .arr gk 1 4 RK false) (hkl : RK.length = n) (hn : hp1 ⟨0, 13, 28⟩ = .arr gn 1 3 (rowIx cs) false) (hnl : cs.length = n)
    (hpl : pn < n) (hn1 : n ≤ 1048576) (hcp : RD[pn]? = some [iv 26, iv na, iv nb, iv nc]) (hkp : RK[pn]? = some [bv true]) (hst1 : stn < 9223372036854775806) (ha : na < 16) (hb16 : nb < 16) (hga : rg[na]? = some xa) (hgb : rg[nb]? = some xb) (d : Nat) :
    ∃ hp', (lim Tryz.prog E47 X47).hpc 0 d 162 [.ptr ⟨0, 13, 0⟩ 1 0] hp1 = some (.tup [], hp') ∧ (∃ cs' : List Int, cs'.length = n ∧ hp' ⟨0, 13, 28⟩ = .arr gn 1 3 (rowIx cs') false) ∧ hp' ⟨0, 13, 0⟩ = .box 1 (bxR code inp (pn : Int) rg gm nm rd ((stn : Int) + 1) 1 go no gc gk gn n) false ∧ ∀ y : Nm, y.d = 0 → y ≠ ⟨0, 13, 0⟩ → y ≠ ⟨0, 13, 28⟩ → hp' y = hp1 y := by
  refine unkey ?_
  refine lim_hpcW Tryz.func162 rfl rfl bodyOk_162 rfl rfl ?_
  have hNA := fun (k : Nat) (h : k < 16) => (⟨by omega, by omega⟩ : 1 + k ≤ 27 ∧ 1 + k < 28)
  have hA := hNA _ ha
  have hB := hNA _ hb16
  have hga' := getW hga
  have hgb' := getW hgb
  subst hpn hst
  have hst1' := wrapN (k := stn) (by omega)
  have hp1' := wrapN (k := pn) (by omega)
  have hcg : ∀ h, RD[pn]'h = [iv 26, iv na, iv nb, iv nc] := fun h => by rw [List.getElem?_eq_getElem h] at hcp; exact Option.some.inj hcp
  have hkg : ∀ h, RK[pn]'h = [bv true] := fun h => by rw [List.getElem?_eq_getElem h] at hkp; exact Option.some.inj hkp
  obtain ⟨cx, hcx0⟩ : ∃ cx, cs[pn]? = some cx := ⟨_, List.getElem?_eq_getElem (by omega)⟩
  have hRl : (rowIx cs).length = n := by simp [hnl]
  have hRp : (rowIx cs)[pn]? = some [iv cx] := by rw [List.getElem?_map, hcx0]; rfl
  have hRg : ∀ h, (rowIx cs)[pn]'h = [iv cx] := fun h => by rw [List.getElem?_eq_getElem h] at hRp; exact Option.some.inj hRp
  have hRs := rowIx_set cs pn (IntKind.i64.wrap (cx + 1))
  have hcsl : (cs.set pn (IntKind.i64.wrap (cx + 1))).length = n := by simp [hnl]
  generalize cs.set pn (IntKind.i64.wrap (cx + 1)) = cs' at hRs hcsl
  generalize rowIx cs = RN at hn hRl hRp hRg hRs
  clear hcx0 hnl
  have hpI : ¬ (n : Int) ≤ pn := by omega
  have hp0' : ¬ (pn : Int) < 0 := by omega
  clear hNA
  exact step14
end Go.Proofs.YtaeeffddinppeaaGreatDoor
namespace Go.Proofs.YtaeeffddinppeaaGreatDoor
open Go Go.Ab
attribute [-simp] Prog.bind getCs putCs
attribute [local simp ↓] run_bind
attribute [local simp ↓] runF_bind
attribute [local simp] run_getCsN runF_getCsN facetsC putCs_one run_putCsN runF_putCsN facetsW facetsH
attribute [local simp] take1 br_len br_reg br_regg bt_reg bt_pc bt_rd bt_steps bt_en bt_out br_0 bh_0 br_17 bh_17 br_18 bh_18 br_19 bh_19 br_20 bh_20 br_21 bh_21 br_22 bh_22 br_23 bh_23 br_24 bh_24 br_25 bh_25 br_26 bh_26 br_27 bh_27
set_option maxHeartbeats 8000000 in
theorem s162_16i {code : List Int} {inp : ByteArray} {pc : Int} {rg : List Int} {gm nm : Nat} {rd steps en : Int} {go no gc gk gn n : Nat} (hp1 : Hp) (RD RK : List (List AV)) (cs : List Int) (na nb nc pn stn : Nat) (xa xb : Int) (hnc : nc ≤ 65535) (at_ : Nat) (hat : (xb + nc) % 4294967296 = (at_ : Int)) (mem : List Int) (hnm : nm = mem.length) (hml : mem.length ≤ 1048576) (hmm : hp1 ⟨0, 13, 18⟩ = .arr gm 1 32 (rowW mem) false) (x : Int) (hcx : mem[at_]? = some x) (hrl : rg.length = 16) (hpn : pc = pn) (hst : steps = stn) (hx : hp1 ⟨0, 13, 0⟩ = .box 1 (bxR code inp pc rg gm nm rd steps en go no gc gk gn n) false) (hc : hp1 ⟨0, 13, 24⟩ = .arr gc 4 119 RD false) (hcl : RD.length = n) (hk : hp1 ⟨0, 13, 25⟩ = .arr gk 1 4 RK false) (hkl : RK.length = n) (hn : hp1 ⟨0, 13, 28⟩ = .arr gn 1 3 (rowIx cs) false) (hnl : cs.length = n)
    (hpl : pn < n) (hn1 : n ≤ 1048576) (hcp : RD[pn]? = some [iv 16, iv na, iv nb, iv nc]) (hkp : RK[pn]? = some [bv true]) (hst1 : stn < 9223372036854775806) (ha : na < 16) (hb16 : nb < 16) (hga : rg[na]? = some xa) (hgb : rg[nb]? = some xb) (d : Nat) :
    ∃ hp', (lim Tryz.prog E47 X47).hpc 0 d 162 [.ptr ⟨0, 13, 0⟩ 1 0] hp1 = some (.tup [], hp') ∧ (∃ cs' : List Int, cs'.length = n ∧ hp' ⟨0, 13, 28⟩ = .arr gn 1 3 (rowIx cs') false) ∧ hp' ⟨0, 13, 0⟩ = .box 1 (bxR code inp ((pn : Int) + 1) (rg.set na x) gm mem.length rd ((stn : Int) + 1) en go no gc gk gn n) false ∧ ∀ y : Nm, y.d = 0 → y ≠ ⟨0, 13, 0⟩ → y ≠ ⟨0, 13, 28⟩ → hp' y = hp1 y := by
  refine unkey ?_
  refine lim_hpcW Tryz.func162 rfl rfl bodyOk_162 rfl rfl ?_
  have hNA := fun (k : Nat) (h : k < 16) => (⟨by omega, by omega⟩ : 1 + k ≤ 27 ∧ 1 + k < 28)
  have hA := hNA _ ha
  have hB := hNA _ hb16
  have hga' := getW hga
  have hgb' := getW hgb
  subst hpn hst
  have hst1' := wrapN (k := stn) (by omega)
  have hp1' := wrapN (k := pn) (by omega)
  have hcg : ∀ h, RD[pn]'h = [iv 16, iv na, iv nb, iv nc] := fun h => by rw [List.getElem?_eq_getElem h] at hcp; exact Option.some.inj hcp
  have hkg : ∀ h, RK[pn]'h = [bv true] := fun h => by rw [List.getElem?_eq_getElem h] at hkp; exact Option.some.inj hkp
  obtain ⟨cx, hcx0⟩ : ∃ cx, cs[pn]? = some cx := ⟨_, List.getElem?_eq_getElem (by omega)⟩
  have hRl : (rowIx cs).length = n := by simp [hnl]
  have hRp : (rowIx cs)[pn]? = some [iv cx] := by rw [List.getElem?_map, hcx0]; rfl
  have hRg : ∀ h, (rowIx cs)[pn]'h = [iv cx] := fun h => by rw [List.getElem?_eq_getElem h] at hRp; exact Option.some.inj hRp
  have hRs := rowIx_set cs pn (IntKind.i64.wrap (cx + 1))
  have hcsl : (cs.set pn (IntKind.i64.wrap (cx + 1))).length = n := by simp [hnl]
  generalize cs.set pn (IntKind.i64.wrap (cx + 1)) = cs' at hRs hcsl
  generalize rowIx cs = RN at hn hRl hRp hRg hRs
  clear hcx0 hnl
  have hpI : ¬ (n : Int) ≤ pn := by omega
  have hp0' : ¬ (pn : Int) < 0 := by omega
  subst hnm
  have htk : (rowW mem).take mem.length = rowW mem := List.take_of_length_le (by simp)
  have hrml : (rowW mem).length = mem.length := List.length_map ..
  have hf := s216i mem xb nc at_ hml hnc hat x hcx
  clear hat
  generalize rowW mem = RM at *
  have hset := fun d hp => s215 (code := code) (inp := inp) (pc := pn) (rg := rg) (gm := gm) (nm := mem.length) (rd := rd) (steps := (stn : Int) + 1) (en := en) (go := go) (no := no) (gc := gc) (gk := gk) (gn := gn) (n := n) na ha (x) (by omega) (by omega) hrl d hp
  clear hNA
  exact step14
set_option maxHeartbeats 8000000 in
theorem s162_16o {code : List Int} {inp : ByteArray} {pc : Int} {rg : List Int} {gm nm : Nat} {rd steps en : Int} {go no gc gk gn n : Nat} (hp1 : Hp) (RD RK : List (List AV)) (cs : List Int) (na nb nc pn stn : Nat) (xa xb : Int) (hnc : nc ≤ 65535) (at_ : Nat) (hat : (xb + nc) % 4294967296 = (at_ : Int)) (mem : List Int) (hnm : nm = mem.length) (hml : mem.length ≤ 1048576) (hmm : hp1 ⟨0, 13, 18⟩ = .arr gm 1 32 (rowW mem) false) (hcx : mem.length ≤ at_) (hrl : rg.length = 16) (hpn : pc = pn) (hst : steps = stn) (hx : hp1 ⟨0, 13, 0⟩ = .box 1 (bxR code inp pc rg gm nm rd steps en go no gc gk gn n) false) (hc : hp1 ⟨0, 13, 24⟩ = .arr gc 4 119 RD false) (hcl : RD.length = n) (hk : hp1 ⟨0, 13, 25⟩ = .arr gk 1 4 RK false) (hkl : RK.length = n) (hn : hp1 ⟨0, 13, 28⟩ = .arr gn 1 3 (rowIx cs) false) (hnl : cs.length = n)
    (hpl : pn < n) (hn1 : n ≤ 1048576) (hcp : RD[pn]? = some [iv 16, iv na, iv nb, iv nc]) (hkp : RK[pn]? = some [bv true]) (hst1 : stn < 9223372036854775806) (ha : na < 16) (hb16 : nb < 16) (hga : rg[na]? = some xa) (hgb : rg[nb]? = some xb) (d : Nat) :
    ∃ hp', (lim Tryz.prog E47 X47).hpc 0 d 162 [.ptr ⟨0, 13, 0⟩ 1 0] hp1 = some (.tup [], hp') ∧ (∃ cs' : List Int, cs'.length = n ∧ hp' ⟨0, 13, 28⟩ = .arr gn 1 3 (rowIx cs') false) ∧ hp' ⟨0, 13, 0⟩ = .box 1 (bxR code inp (pn : Int) rg gm mem.length rd ((stn : Int) + 1) 8 go no gc gk gn n) false ∧ ∀ y : Nm, y.d = 0 → y ≠ ⟨0, 13, 0⟩ → y ≠ ⟨0, 13, 28⟩ → hp' y = hp1 y := by
  refine unkey ?_
  refine lim_hpcW Tryz.func162 rfl rfl bodyOk_162 rfl rfl ?_
  have hNA := fun (k : Nat) (h : k < 16) => (⟨by omega, by omega⟩ : 1 + k ≤ 27 ∧ 1 + k < 28)
  have hA := hNA _ ha
  have hB := hNA _ hb16
  have hga' := getW hga
  have hgb' := getW hgb
  subst hpn hst
  have hst1' := wrapN (k := stn) (by omega)
  have hp1' := wrapN (k := pn) (by omega)
  have hcg : ∀ h, RD[pn]'h = [iv 16, iv na, iv nb, iv nc] := fun h => by rw [List.getElem?_eq_getElem h] at hcp; exact Option.some.inj hcp
  have hkg : ∀ h, RK[pn]'h = [bv true] := fun h => by rw [List.getElem?_eq_getElem h] at hkp; exact Option.some.inj hkp
  obtain ⟨cx, hcx0⟩ : ∃ cx, cs[pn]? = some cx := ⟨_, List.getElem?_eq_getElem (by omega)⟩
  have hRl : (rowIx cs).length = n := by simp [hnl]
  have hRp : (rowIx cs)[pn]? = some [iv cx] := by rw [List.getElem?_map, hcx0]; rfl
  have hRg : ∀ h, (rowIx cs)[pn]'h = [iv cx] := fun h => by rw [List.getElem?_eq_getElem h] at hRp; exact Option.some.inj hRp
  have hRs := rowIx_set cs pn (IntKind.i64.wrap (cx + 1))
  have hcsl : (cs.set pn (IntKind.i64.wrap (cx + 1))).length = n := by simp [hnl]
  generalize cs.set pn (IntKind.i64.wrap (cx + 1)) = cs' at hRs hcsl
  generalize rowIx cs = RN at hn hRl hRp hRg hRs
  clear hcx0 hnl
  have hpI : ¬ (n : Int) ≤ pn := by omega
  have hp0' : ¬ (pn : Int) < 0 := by omega
  subst hnm
  have htk : (rowW mem).take mem.length = rowW mem := List.take_of_length_le (by simp)
  have hrml : (rowW mem).length = mem.length := List.length_map ..
  have hf := s216o mem xb nc at_ hml hnc hat hcx
  clear hat hcx
  generalize rowW mem = RM at *
  clear hNA
  exact step14
set_option maxHeartbeats 8000000 in
theorem s162_27i {code : List Int} {inp : ByteArray} {pc : Int} {rg : List Int} {gm nm : Nat} {rd steps en : Int} {go no gc gk gn n : Nat} (hp1 : Hp) (RD RK : List (List AV)) (cs : List Int) (na nb nc pn stn : Nat) (xa xb : Int) (hnc : nc ≤ 65535) (at_ : Nat) (hat : (xb + nc) % 4294967296 = (at_ : Int)) (hwl : code.length ≤ 1048576) (x : Int) (hcx : code[at_]? = some x) (hrl : rg.length = 16) (hpn : pc = pn) (hst : steps = stn) (hx : hp1 ⟨0, 13, 0⟩ = .box 1 (bxR code inp pc rg gm nm rd steps en go no gc gk gn n) false) (hc : hp1 ⟨0, 13, 24⟩ = .arr gc 4 119 RD false) (hcl : RD.length = n) (hk : hp1 ⟨0, 13, 25⟩ = .arr gk 1 4 RK false) (hkl : RK.length = n) (hn : hp1 ⟨0, 13, 28⟩ = .arr gn 1 3 (rowIx cs) false) (hnl : cs.length = n)
    (hpl : pn < n) (hn1 : n ≤ 1048576) (hcp : RD[pn]? = some [iv 27, iv na, iv nb, iv nc]) (hkp : RK[pn]? = some [bv true]) (hst1 : stn < 9223372036854775806) (ha : na < 16) (hb16 : nb < 16) (hga : rg[na]? = some xa) (hgb : rg[nb]? = some xb) (d : Nat) :
    ∃ hp', (lim Tryz.prog E47 X47).hpc 0 d 162 [.ptr ⟨0, 13, 0⟩ 1 0] hp1 = some (.tup [], hp') ∧ (∃ cs' : List Int, cs'.length = n ∧ hp' ⟨0, 13, 28⟩ = .arr gn 1 3 (rowIx cs') false) ∧ hp' ⟨0, 13, 0⟩ = .box 1 (bxR code inp ((pn : Int) + 1) (rg.set na x) gm nm rd ((stn : Int) + 1) en go no gc gk gn n) false ∧ ∀ y : Nm, y.d = 0 → y ≠ ⟨0, 13, 0⟩ → y ≠ ⟨0, 13, 28⟩ → hp' y = hp1 y := by
  refine unkey ?_
  refine lim_hpcW Tryz.func162 rfl rfl bodyOk_162 rfl rfl ?_
  have hNA := fun (k : Nat) (h : k < 16) => (⟨by omega, by omega⟩ : 1 + k ≤ 27 ∧ 1 + k < 28)
  have hA := hNA _ ha
  have hB := hNA _ hb16
  have hga' := getW hga
  have hgb' := getW hgb
  subst hpn hst
  have hst1' := wrapN (k := stn) (by omega)
  have hp1' := wrapN (k := pn) (by omega)
  have hcg : ∀ h, RD[pn]'h = [iv 27, iv na, iv nb, iv nc] := fun h => by rw [List.getElem?_eq_getElem h] at hcp; exact Option.some.inj hcp
  have hkg : ∀ h, RK[pn]'h = [bv true] := fun h => by rw [List.getElem?_eq_getElem h] at hkp; exact Option.some.inj hkp
  obtain ⟨cx, hcx0⟩ : ∃ cx, cs[pn]? = some cx := ⟨_, List.getElem?_eq_getElem (by omega)⟩
  have hRl : (rowIx cs).length = n := by simp [hnl]
  have hRp : (rowIx cs)[pn]? = some [iv cx] := by rw [List.getElem?_map, hcx0]; rfl
  have hRg : ∀ h, (rowIx cs)[pn]'h = [iv cx] := fun h => by rw [List.getElem?_eq_getElem h] at hRp; exact Option.some.inj hRp
  have hRs := rowIx_set cs pn (IntKind.i64.wrap (cx + 1))
  have hcsl : (cs.set pn (IntKind.i64.wrap (cx + 1))).length = n := by simp [hnl]
  generalize cs.set pn (IntKind.i64.wrap (cx + 1)) = cs' at hRs hcsl
  generalize rowIx cs = RN at hn hRl hRp hRg hRs
  clear hcx0 hnl
  have hpI : ¬ (n : Int) ≤ pn := by omega
  have hp0' : ¬ (pn : Int) < 0 := by omega
  have hf := s216i code xb nc at_ hwl hnc hat x hcx
  clear hat
  have hset := fun d hp => s215 (code := code) (inp := inp) (pc := pn) (rg := rg) (gm := gm) (nm := nm) (rd := rd) (steps := (stn : Int) + 1) (en := en) (go := go) (no := no) (gc := gc) (gk := gk) (gn := gn) (n := n) na ha (x) (by omega) (by omega) hrl d hp
  clear hNA
  exact step14
set_option maxHeartbeats 8000000 in
theorem s162_27o {code : List Int} {inp : ByteArray} {pc : Int} {rg : List Int} {gm nm : Nat} {rd steps en : Int} {go no gc gk gn n : Nat} (hp1 : Hp) (RD RK : List (List AV)) (cs : List Int) (na nb nc pn stn : Nat) (xa xb : Int) (hnc : nc ≤ 65535) (at_ : Nat) (hat : (xb + nc) % 4294967296 = (at_ : Int)) (hwl : code.length ≤ 1048576) (hcx : code.length ≤ at_) (hrl : rg.length = 16) (hpn : pc = pn) (hst : steps = stn) (hx : hp1 ⟨0, 13, 0⟩ = .box 1 (bxR code inp pc rg gm nm rd steps en go no gc gk gn n) false) (hc : hp1 ⟨0, 13, 24⟩ = .arr gc 4 119 RD false) (hcl : RD.length = n) (hk : hp1 ⟨0, 13, 25⟩ = .arr gk 1 4 RK false) (hkl : RK.length = n) (hn : hp1 ⟨0, 13, 28⟩ = .arr gn 1 3 (rowIx cs) false) (hnl : cs.length = n)
    (hpl : pn < n) (hn1 : n ≤ 1048576) (hcp : RD[pn]? = some [iv 27, iv na, iv nb, iv nc]) (hkp : RK[pn]? = some [bv true]) (hst1 : stn < 9223372036854775806) (ha : na < 16) (hb16 : nb < 16) (hga : rg[na]? = some xa) (hgb : rg[nb]? = some xb) (d : Nat) :
    ∃ hp', (lim Tryz.prog E47 X47).hpc 0 d 162 [.ptr ⟨0, 13, 0⟩ 1 0] hp1 = some (.tup [], hp') ∧ (∃ cs' : List Int, cs'.length = n ∧ hp' ⟨0, 13, 28⟩ = .arr gn 1 3 (rowIx cs') false) ∧ hp' ⟨0, 13, 0⟩ = .box 1 (bxR code inp (pn : Int) rg gm nm rd ((stn : Int) + 1) 8 go no gc gk gn n) false ∧ ∀ y : Nm, y.d = 0 → y ≠ ⟨0, 13, 0⟩ → y ≠ ⟨0, 13, 28⟩ → hp' y = hp1 y := by
  refine unkey ?_
  refine lim_hpcW Tryz.func162 rfl rfl bodyOk_162 rfl rfl ?_
  have hNA := fun (k : Nat) (h : k < 16) => (⟨by omega, by omega⟩ : 1 + k ≤ 27 ∧ 1 + k < 28)
  have hA := hNA _ ha
  have hB := hNA _ hb16
  have hga' := getW hga
  have hgb' := getW hgb
  subst hpn hst
  have hst1' := wrapN (k := stn) (by omega)
  have hp1' := wrapN (k := pn) (by omega)
  have hcg : ∀ h, RD[pn]'h = [iv 27, iv na, iv nb, iv nc] := fun h => by rw [List.getElem?_eq_getElem h] at hcp; exact Option.some.inj hcp
  have hkg : ∀ h, RK[pn]'h = [bv true] := fun h => by rw [List.getElem?_eq_getElem h] at hkp; exact Option.some.inj hkp
  obtain ⟨cx, hcx0⟩ : ∃ cx, cs[pn]? = some cx := ⟨_, List.getElem?_eq_getElem (by omega)⟩
  have hRl : (rowIx cs).length = n := by simp [hnl]
  have hRp : (rowIx cs)[pn]? = some [iv cx] := by rw [List.getElem?_map, hcx0]; rfl
  have hRg : ∀ h, (rowIx cs)[pn]'h = [iv cx] := fun h => by rw [List.getElem?_eq_getElem h] at hRp; exact Option.some.inj hRp
  have hRs := rowIx_set cs pn (IntKind.i64.wrap (cx + 1))
  have hcsl : (cs.set pn (IntKind.i64.wrap (cx + 1))).length = n := by simp [hnl]
  generalize cs.set pn (IntKind.i64.wrap (cx + 1)) = cs' at hRs hcsl
  generalize rowIx cs = RN at hn hRl hRp hRg hRs
  clear hcx0 hnl
  have hpI : ¬ (n : Int) ≤ pn := by omega
  have hp0' : ¬ (pn : Int) < 0 := by omega
  have hf := s216o code xb nc at_ hwl hnc hat hcx
  clear hat hcx
  clear hNA
  exact step14
end Go.Proofs.YtaeeffddinppeaaGreatDoor
