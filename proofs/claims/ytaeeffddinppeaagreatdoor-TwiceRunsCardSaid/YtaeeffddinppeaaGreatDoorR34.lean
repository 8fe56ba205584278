/- A part of the proof: Vf, Vg, Vh. -/
import Derived.Test.YtaeeffddinppeaaGreatDoorR33
set_option linter.unusedSimpArgs false
set_option linter.unusedVariables false
namespace Go.Proofs.YtaeeffddinppeaaGreatDoor
open Go Go.Ab
attribute [-simp] Prog.bind getCs putCs
attribute [local simp ↓] run_bind
attribute [local simp ↓] runF_bind
attribute [local simp] run_getCsN runF_getCsN facetsC putCs_one run_putCsN runF_putCsN facetsW facetsH
attribute [local simp] take1 br_len br_reg br_regg bt_reg bt_pc bt_rd bt_steps bt_en bt_out br_0 bh_0 br_17 bh_17 br_18 bh_18 br_19 bh_19 br_20 bh_20 br_21 bh_21 br_22 bh_22 br_23 bh_23 br_24 bh_24 br_25 bh_25 br_26 bh_26 br_27 bh_27
set_option maxHeartbeats 8000000 in
theorem s162_17i {code : List Int} {inp : ByteArray} {pc : Int} {rg : List Int} {gm nm : Nat} {rd steps en : Int} {go no gc gk gn n : Nat} (hp1 : Hp) (RD RK : List (List AV)) (cs : List Int) (na nb nc pn stn : Nat) (xa xb : Int) (hnc : nc ≤ 65535) (at_ : Nat) (hat : (xb + nc) % 4294967296 = (at_ : Int)) (mem : List Int) (hnm : nm = mem.length) (hml : mem.length ≤ 1048576) (hmm : hp1 ⟨0, 13, 18⟩ = .arr gm 1 32 (rowW mem) false) (hcx : at_ < mem.length) (hrl : rg.length = 16) (hpn : pc = pn) (hst : steps = stn) (hx : hp1 ⟨0, 13, 0⟩ = .box 1 (bxR code inp pc rg gm nm rd steps en go no gc gk gn n) false) (hc : hp1 ⟨0, 13, 24⟩ = .arr gc 4 119 RD false) (hcl : RD.length = n) (hk : hp1 ⟨0, 13, 25⟩ = .arr gk 1 4 RK false) (hkl : RK.length = n) (hn : hp1 ⟨0, 13, 28⟩ = .arr gn 1 3 (rowIx cs) false) (hnl : cs.length = n)
    (hpl : pn < n) (hn1 : n ≤ 1048576) (hcp : RD[pn]? = some [iv 17, iv na, iv nb, iv nc]) (hkp : RK[pn]? = some [bv true]) (hst1 : stn < 9223372036854775806) (ha : na < 16) (hb16 : nb < 16) (hga : rg[na]? = some xa) (hgb : rg[nb]? = some xb) (d : Nat) :
    ∃ hp', (lim Tryz.prog E47 X47).hpc 0 d 162 [.ptr ⟨0, 13, 0⟩ 1 0] hp1 = some (.tup [], hp') ∧ (∃ cs' : List Int, cs'.length = n ∧ hp' ⟨0, 13, 28⟩ = .arr gn 1 3 (rowIx cs') false) ∧ hp' ⟨0, 13, 0⟩ = .box 1 (bxR code inp ((pn : Int) + 1) rg gm mem.length rd ((stn : Int) + 1) en go no gc gk gn n) false ∧ hp' ⟨0, 13, 18⟩ = .arr gm 1 32 (rowW (mem.set at_ xa)) false ∧ ∀ y : Nm, y.d = 0 → y ≠ ⟨0, 13, 0⟩ → y ≠ ⟨0, 13, 28⟩ → y ≠ ⟨0, 13, 18⟩ → hp' y = hp1 y := by
  refine unkey ?_
  refine lim_hpcW Tryz.func162 rfl rfl bodyOk_162 rfl rfl ?_
  have hNA := fun (k : Nat) (h : k < 16) => (⟨by omega, by omega⟩ : 1 + k ≤ 27 ∧ 1 + k < 28)
  have hA := hNA _ ha
  have hB := hNA _ hb16
  have hga' := getW hga
  have hgb' := getW hgb
  subst hpn hst
  have hst1' := wrapN (k := stn) (by omega)
  have hp1' := wrapN (k := pn) (by omega)
  have hcg : ∀ h, RD[pn]'h = [iv 17, iv na, iv nb, iv nc] := fun h => by rw [List.getElem?_eq_getElem h] at hcp; exact Option.some.inj hcp
  have hkg : ∀ h, RK[pn]'h = [bv true] := fun h => by rw [List.getElem?_eq_getElem h] at hkp; exact Option.some.inj hkp
  obtain ⟨cx, hcx0⟩ : ∃ cx, cs[pn]? = some cx := ⟨_, List.getElem?_eq_getElem (by omega)⟩
  have hRl : (rowIx cs).length = n := by simp [hnl]
  have hRp : (rowIx cs)[pn]? = some [iv cx] := by rw [List.getElem?_map, hcx0]; rfl
  have hRg : ∀ h, (rowIx cs)[pn]'h = [iv cx] := fun h => by rw [List.getElem?_eq_getElem h] at hRp; exact Option.some.inj hRp
  have hRs := rowIx_set cs pn (IntKind.i64.wrap (cx + 1))
  have hcsl : (cs.set pn (IntKind.i64.wrap (cx + 1))).length = n := by simp [hnl]
  generalize cs.set pn (IntKind.i64.wrap (cx + 1)) = cs' at hRs hcsl
  generalize rowIx cs = RN at hn hRl hRp hRg hRs
  clear hcx0 hnl
  have hpI : ¬ (n : Int) ≤ pn := by omega
  have hp0' : ¬ (pn : Int) < 0 := by omega
  subst hnm
  have u0 : IntKind.u32.wrap (nc : Int) = nc := by rw [IntKind.wrap_u32]; omega
  have w1 : IntKind.u32.wrap (xb + nc) = (at_ : Int) := by rw [IntKind.wrap_u32]; exact hat
  have w2 : IntKind.u64.wrap (at_ : Int) = at_ := by rw [IntKind.wrap_u64]; omega
  have w3 : IntKind.u64.wrap (mem.length : Int) = mem.length := by rw [IntKind.wrap_u64]; omega
  clear hat
  have htk : (rowW mem).take mem.length = rowW mem := List.take_of_length_le (by simp)
  have hrml : (rowW mem).length = mem.length := List.length_map ..
  have q1 : ¬ (mem.length : Int) ≤ at_ := by omega
  have hrm : (rowW mem)[at_]? = some [uv mem[at_]] := by rw [List.getElem?_map, List.getElem?_eq_getElem hcx]; rfl
  have q3 : ∀ h, (rowW mem)[at_]'h = [uv mem[at_]] := fun h => by rw [List.getElem?_eq_getElem h] at hrm; exact Option.some.inj hrm
  have hrs : (rowW mem).set at_ [uv xa] = rowW (mem.set at_ xa) := by simp [List.map_set]
  generalize rowW (mem.set at_ xa) = RM' at *
  generalize mem[at_] = mx at *
  generalize rowW mem = RM at *
  clear hNA
  exact step15
set_option maxHeartbeats 8000000 in
theorem s162_17o {code : List Int} {inp : ByteArray} {pc : Int} {rg : List Int} {gm nm : Nat} {rd steps en : Int} {go no gc gk gn n : Nat} (hp1 : Hp) (RD RK : List (List AV)) (cs : List Int) (na nb nc pn stn : Nat) (xa xb : Int) (hnc : nc ≤ 65535) (at_ : Nat) (hat : (xb + nc) % 4294967296 = (at_ : Int)) (mem : List Int) (hnm : nm = mem.length) (hml : mem.length ≤ 1048576) (hmm : hp1 ⟨0, 13, 18⟩ = .arr gm 1 32 (rowW mem) false) (hcx : mem.length ≤ at_) (hrl : rg.length = 16) (hpn : pc = pn) (hst : steps = stn) (hx : hp1 ⟨0, 13, 0⟩ = .box 1 (bxR code inp pc rg gm nm rd steps en go no gc gk gn n) false) (hc : hp1 ⟨0, 13, 24⟩ = .arr gc 4 119 RD false) (hcl : RD.length = n) (hk : hp1 ⟨0, 13, 25⟩ = .arr gk 1 4 RK false) (hkl : RK.length = n) (hn : hp1 ⟨0, 13, 28⟩ = .arr gn 1 3 (rowIx cs) false) (hnl : cs.length = n)
    (hpl : pn < n) (hn1 : n ≤ 1048576) (hcp : RD[pn]? = some [iv 17, iv na, iv nb, iv nc]) (hkp : RK[pn]? = some [bv true]) (hst1 : stn < 9223372036854775806) (ha : na < 16) (hb16 : nb < 16) (hga : rg[na]? = some xa) (hgb : rg[nb]? = some xb) (d : Nat) :
    ∃ hp', (lim Tryz.prog E47 X47).hpc 0 d 162 [.ptr ⟨0, 13, 0⟩ 1 0] hp1 = some (.tup [], hp') ∧ (∃ cs' : List Int, cs'.length = n ∧ hp' ⟨0, 13, 28⟩ = .arr gn 1 3 (rowIx cs') false) ∧ hp' ⟨0, 13, 0⟩ = .box 1 (bxR code inp (pn : Int) rg gm mem.length rd ((stn : Int) + 1) 8 go no gc gk gn n) false ∧ ∀ y : Nm, y.d = 0 → y ≠ ⟨0, 13, 0⟩ → y ≠ ⟨0, 13, 28⟩ → hp' y = hp1 y := by
  refine unkey ?_
  refine lim_hpcW Tryz.func162 rfl rfl bodyOk_162 rfl rfl ?_
  have hNA := fun (k : Nat) (h : k < 16) => (⟨by omega, by omega⟩ : 1 + k ≤ 27 ∧ 1 + k < 28)
  have hA := hNA _ ha
  have hB := hNA _ hb16
  have hga' := getW hga
  have hgb' := getW hgb
  subst hpn hst
  have hst1' := wrapN (k := stn) (by omega)
  have hp1' := wrapN (k := pn) (by omega)
  have hcg : ∀ h, RD[pn]'h = [iv 17, iv na, iv nb, iv nc] := fun h => by rw [List.getElem?_eq_getElem h] at hcp; exact Option.some.inj hcp
  have hkg : ∀ h, RK[pn]'h = [bv true] := fun h => by rw [List.getElem?_eq_getElem h] at hkp; exact Option.some.inj hkp
  obtain ⟨cx, hcx0⟩ : ∃ cx, cs[pn]? = some cx := ⟨_, List.getElem?_eq_getElem (by omega)⟩
  have hRl : (rowIx cs).length = n := by simp [hnl]
  have hRp : (rowIx cs)[pn]? = some [iv cx] := by rw [List.getElem?_map, hcx0]; rfl
  have hRg : ∀ h, (rowIx cs)[pn]'h = [iv cx] := fun h => by rw [List.getElem?_eq_getElem h] at hRp; exact Option.some.inj hRp
  have hRs := rowIx_set cs pn (IntKind.i64.wrap (cx + 1))
  have hcsl : (cs.set pn (IntKind.i64.wrap (cx + 1))).length = n := by simp [hnl]
  generalize cs.set pn (IntKind.i64.wrap (cx + 1)) = cs' at hRs hcsl
  generalize rowIx cs = RN at hn hRl hRp hRg hRs
  clear hcx0 hnl
  have hpI : ¬ (n : Int) ≤ pn := by omega
  have hp0' : ¬ (pn : Int) < 0 := by omega
  subst hnm
  have u0 : IntKind.u32.wrap (nc : Int) = nc := by rw [IntKind.wrap_u32]; omega
  have w1 : IntKind.u32.wrap (xb + nc) = (at_ : Int) := by rw [IntKind.wrap_u32]; exact hat
  have w2 : IntKind.u64.wrap (at_ : Int) = at_ := by rw [IntKind.wrap_u64]; omega
  have w3 : IntKind.u64.wrap (mem.length : Int) = mem.length := by rw [IntKind.wrap_u64]; omega
  clear hat
  have htk : (rowW mem).take mem.length = rowW mem := List.take_of_length_le (by simp)
  have hrml : (rowW mem).length = mem.length := List.length_map ..
  have q1 : (mem.length : Int) ≤ at_ := by omega
  clear hcx
  generalize rowW mem = RM at *
  clear hNA
  exact step14
set_option maxHeartbeats 8000000 in
theorem s162_21 {code : List Int} {inp : ByteArray} {pc : Int} {rg : List Int} {gm nm : Nat} {rd steps en : Int} {go no gc gk gn n : Nat} (hp1 : Hp) (RD RK : List (List AV)) (cs : List Int) (na nb nc pn stn : Nat) (xa xb : Int) (hrl : rg.length = 16) (hpn : pc = pn) (hst : steps = stn) (hx : hp1 ⟨0, 13, 0⟩ = .box 1 (bxR code inp pc rg gm nm rd steps en go no gc gk gn n) false) (hc : hp1 ⟨0, 13, 24⟩ = .arr gc 4 119 RD false) (hcl : RD.length = n) (hk : hp1 ⟨0, 13, 25⟩ = .arr gk 1 4 RK false) (hkl : RK.length = n) (hn : hp1 ⟨0, 13, 28⟩ = .arr gn 1 3 (rowIx cs) false) (hnl : cs.length = n)
    (hpl : pn < n) (hn1 : n ≤ 1048576) (hcp : RD[pn]? = some [iv 21, iv na, iv nb, iv nc]) (hkp : RK[pn]? = some [bv true]) (hst1 : stn < 9223372036854775806) (ha : na < 16) (hb16 : nb < 16) (hga : rg[na]? = some xa) (hgb : rg[nb]? = some xb) (d : Nat) :
    ∃ hp', (lim Tryz.prog E47 X47).hpc 0 d 162 [.ptr ⟨0, 13, 0⟩ 1 0] hp1 = some (.tup [], hp') ∧ (∃ cs' : List Int, cs'.length = n ∧ hp' ⟨0, 13, 28⟩ = .arr gn 1 3 (rowIx cs') false) ∧ hp' ⟨0, 13, 0⟩ = .box 1 (bxR code inp (nc : Int) (rg.set na (((pn : Int) + 1) % 4294967296)) gm nm rd ((stn : Int) + 1) en go no gc gk gn n) false ∧ ∀ y : Nm, y.d = 0 → y ≠ ⟨0, 13, 0⟩ → y ≠ ⟨0, 13, 28⟩ → hp' y = hp1 y := by
  refine unkey ?_
  refine lim_hpcW Tryz.func162 rfl rfl bodyOk_162 rfl rfl ?_
  have hNA := fun (k : Nat) (h : k < 16) => (⟨by omega, by omega⟩ : 1 + k ≤ 27 ∧ 1 + k < 28)
  have hA := hNA _ ha
  have hB := hNA _ hb16
  have hga' := getW hga
  have hgb' := getW hgb
  subst hpn hst
  have hst1' := wrapN (k := stn) (by omega)
  have hp1' := wrapN (k := pn) (by omega)
  have hcg : ∀ h, RD[pn]'h = [iv 21, iv na, iv nb, iv nc] := fun h => by rw [List.getElem?_eq_getElem h] at hcp; exact Option.some.inj hcp
  have hkg : ∀ h, RK[pn]'h = [bv true] := fun h => by rw [List.getElem?_eq_getElem h] at hkp; exact Option.some.inj hkp
  obtain ⟨cx, hcx0⟩ : ∃ cx, cs[pn]? = some cx := ⟨_, List.getElem?_eq_getElem (by omega)⟩
  have hRl : (rowIx cs).length = n := by simp [hnl]
  have hRp : (rowIx cs)[pn]? = some [iv cx] := by rw [List.getElem?_map, hcx0]; rfl
  have hRg : ∀ h, (rowIx cs)[pn]'h = [iv cx] := fun h => by rw [List.getElem?_eq_getElem h] at hRp; exact Option.some.inj hRp
  have hRs := rowIx_set cs pn (IntKind.i64.wrap (cx + 1))
  have hcsl : (cs.set pn (IntKind.i64.wrap (cx + 1))).length = n := by simp [hnl]
  generalize cs.set pn (IntKind.i64.wrap (cx + 1)) = cs' at hRs hcsl
  generalize rowIx cs = RN at hn hRl hRp hRg hRs
  clear hcx0 hnl
  have hpI : ¬ (n : Int) ≤ pn := by omega
  have hp0' : ¬ (pn : Int) < 0 := by omega
  have u0 : IntKind.u32.wrap (pn : Int) = pn := by rw [IntKind.wrap_u32]; omega
  have u1 : IntKind.u32.wrap ((pn : Int) + 1) = ((pn : Int) + 1) % 4294967296 := IntKind.wrap_u32 _
  clear hNA
  exact step14
set_option maxHeartbeats 8000000 in
theorem s162_22 {code : List Int} {inp : ByteArray} {pc : Int} {rg : List Int} {gm nm : Nat} {rd steps en : Int} {go no gc gk gn n : Nat} (hp1 : Hp) (RD RK : List (List AV)) (cs : List Int) (na nb nc pn stn : Nat) (xa xb : Int) (hxa : Ma.U xa) (hrl : rg.length = 16) (hpn : pc = pn) (hst : steps = stn) (hx : hp1 ⟨0, 13, 0⟩ = .box 1 (bxR code inp pc rg gm nm rd steps en go no gc gk gn n) false) (hc : hp1 ⟨0, 13, 24⟩ = .arr gc 4 119 RD false) (hcl : RD.length = n) (hk : hp1 ⟨0, 13, 25⟩ = .arr gk 1 4 RK false) (hkl : RK.length = n) (hn : hp1 ⟨0, 13, 28⟩ = .arr gn 1 3 (rowIx cs) false) (hnl : cs.length = n)
    (hpl : pn < n) (hn1 : n ≤ 1048576) (hcp : RD[pn]? = some [iv 22, iv na, iv nb, iv nc]) (hkp : RK[pn]? = some [bv true]) (hst1 : stn < 9223372036854775806) (ha : na < 16) (hb16 : nb < 16) (hga : rg[na]? = some xa) (hgb : rg[nb]? = some xb) (d : Nat) :
    ∃ hp', (lim Tryz.prog E47 X47).hpc 0 d 162 [.ptr ⟨0, 13, 0⟩ 1 0] hp1 = some (.tup [], hp') ∧ (∃ cs' : List Int, cs'.length = n ∧ hp' ⟨0, 13, 28⟩ = .arr gn 1 3 (rowIx cs') false) ∧ hp' ⟨0, 13, 0⟩ = .box 1 (bxR code inp xa rg gm nm rd ((stn : Int) + 1) en go no gc gk gn n) false ∧ ∀ y : Nm, y.d = 0 → y ≠ ⟨0, 13, 0⟩ → y ≠ ⟨0, 13, 28⟩ → hp' y = hp1 y := by
  refine unkey ?_
  refine lim_hpcW Tryz.func162 rfl rfl bodyOk_162 rfl rfl ?_
  have hNA := fun (k : Nat) (h : k < 16) => (⟨by omega, by omega⟩ : 1 + k ≤ 27 ∧ 1 + k < 28)
  have hA := hNA _ ha
  have hB := hNA _ hb16
  have hga' := getW hga
  have hgb' := getW hgb
  subst hpn hst
  have hst1' := wrapN (k := stn) (by omega)
  have hp1' := wrapN (k := pn) (by omega)
  have hcg : ∀ h, RD[pn]'h = [iv 22, iv na, iv nb, iv nc] := fun h => by rw [List.getElem?_eq_getElem h] at hcp; exact Option.some.inj hcp
  have hkg : ∀ h, RK[pn]'h = [bv true] := fun h => by rw [List.getElem?_eq_getElem h] at hkp; exact Option.some.inj hkp
  obtain ⟨cx, hcx0⟩ : ∃ cx, cs[pn]? = some cx := ⟨_, List.getElem?_eq_getElem (by omega)⟩
  have hRl : (rowIx cs).length = n := by simp [hnl]
  have hRp : (rowIx cs)[pn]? = some [iv cx] := by rw [List.getElem?_map, hcx0]; rfl
  have hRg : ∀ h, (rowIx cs)[pn]'h = [iv cx] := fun h => by rw [List.getElem?_eq_getElem h] at hRp; exact Option.some.inj hRp
  have hRs := rowIx_set cs pn (IntKind.i64.wrap (cx + 1))
  have hcsl : (cs.set pn (IntKind.i64.wrap (cx + 1))).length = n := by simp [hnl]
  generalize cs.set pn (IntKind.i64.wrap (cx + 1)) = cs' at hRs hcsl
  generalize rowIx cs = RN at hn hRl hRp hRg hRs
  clear hcx0 hnl
  have hpI : ¬ (n : Int) ≤ pn := by omega
  have hp0' : ¬ (pn : Int) < 0 := by omega
  have hw2 : IntKind.i64.wrap xa = xa := by unfold Ma.U at hxa; exact wrap64 (by omega) (by omega)
  clear hxa
  clear hNA
  exact step14
set_option maxHeartbeats 8000000 in
theorem s162_25i {code : List Int} {inp : ByteArray} {pc : Int} {rg : List Int} {gm nm : Nat} {rd steps en : Int} {go no gc gk gn n : Nat} (hp1 : Hp) (RD RK : List (List AV)) (cs : List Int) (na nb nc pn stn : Nat) (xa xb : Int) (hnc : nc ≤ 65535) (hcx : xa < (nc : Int)) (hrl : rg.length = 16) (hpn : pc = pn) (hst : steps = stn) (hx : hp1 ⟨0, 13, 0⟩ = .box 1 (bxR code inp pc rg gm nm rd steps en go no gc gk gn n) false) (hc : hp1 ⟨0, 13, 24⟩ = .arr gc 4 119 RD false) (hcl : RD.length = n) (hk : hp1 ⟨0, 13, 25⟩ = .arr gk 1 4 RK false) (hkl : RK.length = n) (hn : hp1 ⟨0, 13, 28⟩ = .arr gn 1 3 (rowIx cs) false) (hnl : cs.length = n)
    (hpl : pn < n) (hn1 : n ≤ 1048576) (hcp : RD[pn]? = some [iv 25, iv na, iv nb, iv nc]) (hkp : RK[pn]? = some [bv true]) (hst1 : stn < 9223372036854775806) (ha : na < 16) (hb16 : nb < 16) (hga : rg[na]? = some xa) (hgb : rg[nb]? = some xb) (d : Nat) :
    ∃ hp', (lim Tryz.prog E47 X47).hpc 0 d 162 [.ptr ⟨0, 13, 0⟩ 1 0] hp1 = some (.tup [], hp') ∧ (∃ cs' : List Int, cs'.length = n ∧ hp' ⟨0, 13, 28⟩ = .arr gn 1 3 (rowIx cs') false) ∧ hp' ⟨0, 13, 0⟩ = .box 1 (bxR code inp ((pn : Int) + 1) rg gm nm rd ((stn : Int) + 1) en go no gc gk gn n) false ∧ ∀ y : Nm, y.d = 0 → y ≠ ⟨0, 13, 0⟩ → y ≠ ⟨0, 13, 28⟩ → hp' y = hp1 y := by
  refine unkey ?_
  refine lim_hpcW Tryz.func162 rfl rfl bodyOk_162 rfl rfl ?_
  have hNA := fun (k : Nat) (h : k < 16) => (⟨by omega, by omega⟩ : 1 + k ≤ 27 ∧ 1 + k < 28)
  have hA := hNA _ ha
  have hB := hNA _ hb16
  have hga' := getW hga
  have hgb' := getW hgb
  subst hpn hst
  have hst1' := wrapN (k := stn) (by omega)
  have hp1' := wrapN (k := pn) (by omega)
  have hcg : ∀ h, RD[pn]'h = [iv 25, iv na, iv nb, iv nc] := fun h => by rw [List.getElem?_eq_getElem h] at hcp; exact Option.some.inj hcp
  have hkg : ∀ h, RK[pn]'h = [bv true] := fun h => by rw [List.getElem?_eq_getElem h] at hkp; exact Option.some.inj hkp
  obtain ⟨cx, hcx0⟩ : ∃ cx, cs[pn]? = some cx := ⟨_, List.getElem?_eq_getElem (by omega)⟩
  have hRl : (rowIx cs).length = n := by simp [hnl]
  have hRp : (rowIx cs)[pn]? = some [iv cx] := by rw [List.getElem?_map, hcx0]; rfl
  have hRg : ∀ h, (rowIx cs)[pn]'h = [iv cx] := fun h => by rw [List.getElem?_eq_getElem h] at hRp; exact Option.some.inj hRp
  have hRs := rowIx_set cs pn (IntKind.i64.wrap (cx + 1))
  have hcsl : (cs.set pn (IntKind.i64.wrap (cx + 1))).length = n := by simp [hnl]
  generalize cs.set pn (IntKind.i64.wrap (cx + 1)) = cs' at hRs hcsl
  generalize rowIx cs = RN at hn hRl hRp hRg hRs
  clear hcx0 hnl
  have hpI : ¬ (n : Int) ≤ pn := by omega
  have hp0' : ¬ (pn : Int) < 0 := by omega
  have u0 : IntKind.u32.wrap (nc : Int) = nc := by rw [IntKind.wrap_u32]; omega
  have q1' : ¬ (nc : Int) ≤ xa := by omega
  clear hNA
  exact step14
set_option maxHeartbeats 8000000 in
theorem s162_25o {code : List Int} {inp : ByteArray} {pc : Int} {rg : List Int} {gm nm : Nat} {rd steps en : Int} {go no gc gk gn n : Nat} (hp1 : Hp) (RD RK : List (List AV)) (cs : List Int) (na nb nc pn stn : Nat) (xa xb : Int) (hnc : nc ≤ 65535) (hcx : (nc : Int) ≤ xa) (hrl : rg.length = 16) (hpn : pc = pn) (hst : steps = stn) (hx : hp1 ⟨0, 13, 0⟩ = .box 1 (bxR code inp pc rg gm nm rd steps en go no gc gk gn n) false) (hc : hp1 ⟨0, 13, 24⟩ = .arr gc 4 119 RD false) (hcl : RD.length = n) (hk : hp1 ⟨0, 13, 25⟩ = .arr gk 1 4 RK false) (hkl : RK.length = n) (hn : hp1 ⟨0, 13, 28⟩ = .arr gn 1 3 (rowIx cs) false) (hnl : cs.length = n)
    (hpl : pn < n) (hn1 : n ≤ 1048576) (hcp : RD[pn]? = some [iv 25, iv na, iv nb, iv nc]) (hkp : RK[pn]? = some [bv true]) (hst1 : stn < 9223372036854775806) (ha : na < 16) (hb16 : nb < 16) (hga : rg[na]? = some xa) (hgb : rg[nb]? = some xb) (d : Nat) :
    ∃ hp', (lim Tryz.prog E47 X47).hpc 0 d 162 [.ptr ⟨0, 13, 0⟩ 1 0] hp1 = some (.tup [], hp') ∧ (∃ cs' : List Int, cs'.length = n ∧ hp' ⟨0, 13, 28⟩ = .arr gn 1 3 (rowIx cs') false) ∧ hp' ⟨0, 13, 0⟩ = .box 1 (bxR code inp (pn : Int) rg gm nm rd ((stn : Int) + 1) 3 go no gc gk gn n) false ∧ ∀ y : Nm, y.d = 0 → y ≠ ⟨0, 13, 0⟩ → y ≠ ⟨0, 13, 28⟩ → hp' y = hp1 y := by
  refine unkey ?_
  refine lim_hpcW Tryz.func162 rfl rfl bodyOk_162 rfl rfl ?_
  have hNA := fun (k : Nat) (h : k < 16) => (⟨by omega, by omega⟩ : 1 + k ≤ 27 ∧ 1 + k < 28)
  have hA := hNA _ ha
  have hB := hNA _ hb16
  have hga' := getW hga
  have hgb' := getW hgb
  subst hpn hst
  have hst1' := wrapN (k := stn) (by omega)
  have hp1' := wrapN (k := pn) (by omega)
  have hcg : ∀ h, RD[pn]'h = [iv 25, iv na, iv nb, iv nc] := fun h => by rw [List.getElem?_eq_getElem h] at hcp; exact Option.some.inj hcp
  have hkg : ∀ h, RK[pn]'h = [bv true] := fun h => by rw [List.getElem?_eq_getElem h] at hkp; exact Option.some.inj hkp
  obtain ⟨cx, hcx0⟩ : ∃ cx, cs[pn]? = some cx := ⟨_, List.getElem?_eq_getElem (by omega)⟩
  have hRl : (rowIx cs).length = n := by simp [hnl]
  have hRp : (rowIx cs)[pn]? = some [iv cx] := by rw [List.getElem?_map, hcx0]; rfl
  have hRg : ∀ h, (rowIx cs)[pn]'h = [iv cx] := fun h => by rw [List.getElem?_eq_getElem h] at hRp; exact Option.some.inj hRp
  have hRs := rowIx_set cs pn (IntKind.i64.wrap (cx + 1))
  have hcsl : (cs.set pn (IntKind.i64.wrap (cx + 1))).length = n := by simp [hnl]
  generalize cs.set pn (IntKind.i64.wrap (cx + 1)) = cs' at hRs hcsl
  generalize rowIx cs = RN at hn hRl hRp hRg hRs
  clear hcx0 hnl
  have hpI : ¬ (n : Int) ≤ pn := by omega
  have hp0' : ¬ (pn : Int) < 0 := by omega
  have u0 : IntKind.u32.wrap (nc : Int) = nc := by rw [IntKind.wrap_u32]; omega
  clear hNA
  exact step14
end Go.Proofs.YtaeeffddinppeaaGreatDoor
namespace Go.Proofs.YtaeeffddinppeaaGreatDoor
open Go Go.Ab
attribute [-simp] Prog.bind getCs putCs
attribute [local simp ↓] run_bind
attribute [local simp ↓] runF_bind
attribute [local simp] run_getCsN runF_getCsN facetsC putCs_one run_putCsN runF_putCsN facetsW facetsH
attribute [local simp] take1 br_len br_reg br_regg bt_reg bt_pc bt_rd bt_steps bt_en bt_out br_0 bh_0 br_17 bh_17 br_18 bh_18 br_19 bh_19 br_20 bh_20 br_21 bh_21 br_22 bh_22 br_23 bh_23 br_24 bh_24 br_25 bh_25 br_26 bh_26 br_27 bh_27
set_option maxHeartbeats 8000000 in
theorem s162_19t {code : List Int} {inp : ByteArray} {pc : Int} {rg : List Int} {gm nm : Nat} {rd steps en : Int} {go no gc gk gn n : Nat} (hp1 : Hp) (RD RK : List (List AV)) (cs : List Int) (na nb nc pn stn : Nat) (xa xb : Int) (h0 : xa = 0) (hrl : rg.length = 16) (hpn : pc = pn) (hst : steps = stn) (hx : hp1 ⟨0, 13, 0⟩ = .box 1 (bxR code inp pc rg gm nm rd steps en go no gc gk gn n) false) (hc : hp1 ⟨0, 13, 24⟩ = .arr gc 4 119 RD false) (hcl : RD.length = n) (hk : hp1 ⟨0, 13, 25⟩ = .arr gk 1 4 RK false) (hkl : RK.length = n) (hn : hp1 ⟨0, 13, 28⟩ = .arr gn 1 3 (rowIx cs) false) (hnl : cs.length = n)
    (hpl : pn < n) (hn1 : n ≤ 1048576) (hcp : RD[pn]? = some [iv 19, iv na, iv nb, iv nc]) (hkp : RK[pn]? = some [bv true]) (hst1 : stn < 9223372036854775806) (ha : na < 16) (hb16 : nb < 16) (hga : rg[na]? = some xa) (hgb : rg[nb]? = some xb) (d : Nat) :
    ∃ hp', (lim Tryz.prog E47 X47).hpc 0 d 162 [.ptr ⟨0, 13, 0⟩ 1 0] hp1 = some (.tup [], hp') ∧ (∃ cs' : List Int, cs'.length = n ∧ hp' ⟨0, 13, 28⟩ = .arr gn 1 3 (rowIx cs') false) ∧ hp' ⟨0, 13, 0⟩ = .box 1 (bxR code inp (nc : Int) rg gm nm rd ((stn : Int) + 1) en go no gc gk gn n) false ∧ ∀ y : Nm, y.d = 0 → y ≠ ⟨0, 13, 0⟩ → y ≠ ⟨0, 13, 28⟩ → hp' y = hp1 y := by
  refine unkey ?_
  refine lim_hpcW Tryz.func162 rfl rfl bodyOk_162 rfl rfl ?_
  have hNA := fun (k : Nat) (h : k < 16) => (⟨by omega, by omega⟩ : 1 + k ≤ 27 ∧ 1 + k < 28)
  have hA := hNA _ ha
  have hB := hNA _ hb16
  have hga' := getW hga
  have hgb' := getW hgb
  subst hpn hst
  have hst1' := wrapN (k := stn) (by omega)
  have hp1' := wrapN (k := pn) (by omega)
  have hcg : ∀ h, RD[pn]'h = [iv 19, iv na, iv nb, iv nc] := fun h => by rw [List.getElem?_eq_getElem h] at hcp; exact Option.some.inj hcp
  have hkg : ∀ h, RK[pn]'h = [bv true] := fun h => by rw [List.getElem?_eq_getElem h] at hkp; exact Option.some.inj hkp
  obtain ⟨cx, hcx0⟩ : ∃ cx, cs[pn]? = some cx := ⟨_, List.getElem?_eq_getElem (by omega)⟩
  have hRl : (rowIx cs).length = n := by simp [hnl]
  have hRp : (rowIx cs)[pn]? = some [iv cx] := by rw [List.getElem?_map, hcx0]; rfl
  have hRg : ∀ h, (rowIx cs)[pn]'h = [iv cx] := fun h => by rw [List.getElem?_eq_getElem h] at hRp; exact Option.some.inj hRp
  have hRs := rowIx_set cs pn (IntKind.i64.wrap (cx + 1))
  have hcsl : (cs.set pn (IntKind.i64.wrap (cx + 1))).length = n := by simp [hnl]
  generalize cs.set pn (IntKind.i64.wrap (cx + 1)) = cs' at hRs hcsl
  generalize rowIx cs = RN at hn hRl hRp hRg hRs
  clear hcx0 hnl
  have hpI : ¬ (n : Int) ≤ pn := by omega
  have hp0' : ¬ (pn : Int) < 0 := by omega
  have hb := beq_dec xa 0
  simp only [h0, ne_eq, not_false_iff, not_true, decide_true] at hb
  subst h0
  have hset := fun d hp => s217 (code := code) (inp := inp) (pc := pn) (rg := rg) (gm := gm) (nm := nm) (rd := rd) (steps := (stn : Int) + 1) (en := en) (go := go) (no := no) (gc := gc) (gk := gk) (gn := gn) (n := n) true (nc) (by omega) (by omega) hrl d hp
  simp only [if_true, if_false, Bool.false_eq_true] at hset
  clear hNA
  exact step14
set_option maxHeartbeats 8000000 in
theorem s162_19f {code : List Int} {inp : ByteArray} {pc : Int} {rg : List Int} {gm nm : Nat} {rd steps en : Int} {go no gc gk gn n : Nat} (hp1 : Hp) (RD RK : List (List AV)) (cs : List Int) (na nb nc pn stn : Nat) (xa xb : Int) (h0 : xa ≠ 0) (hrl : rg.length = 16) (hpn : pc = pn) (hst : steps = stn) (hx : hp1 ⟨0, 13, 0⟩ = .box 1 (bxR code inp pc rg gm nm rd steps en go no gc gk gn n) false) (hc : hp1 ⟨0, 13, 24⟩ = .arr gc 4 119 RD false) (hcl : RD.length = n) (hk : hp1 ⟨0, 13, 25⟩ = .arr gk 1 4 RK false) (hkl : RK.length = n) (hn : hp1 ⟨0, 13, 28⟩ = .arr gn 1 3 (rowIx cs) false) (hnl : cs.length = n)
    (hpl : pn < n) (hn1 : n ≤ 1048576) (hcp : RD[pn]? = some [iv 19, iv na, iv nb, iv nc]) (hkp : RK[pn]? = some [bv true]) (hst1 : stn < 9223372036854775806) (ha : na < 16) (hb16 : nb < 16) (hga : rg[na]? = some xa) (hgb : rg[nb]? = some xb) (d : Nat) :
    ∃ hp', (lim Tryz.prog E47 X47).hpc 0 d 162 [.ptr ⟨0, 13, 0⟩ 1 0] hp1 = some (.tup [], hp') ∧ (∃ cs' : List Int, cs'.length = n ∧ hp' ⟨0, 13, 28⟩ = .arr gn 1 3 (rowIx cs') false) ∧ hp' ⟨0, 13, 0⟩ = .box 1 (bxR code inp ((pn : Int) + 1) rg gm nm rd ((stn : Int) + 1) en go no gc gk gn n) false ∧ ∀ y : Nm, y.d = 0 → y ≠ ⟨0, 13, 0⟩ → y ≠ ⟨0, 13, 28⟩ → hp' y = hp1 y := by
  refine unkey ?_
  refine lim_hpcW Tryz.func162 rfl rfl bodyOk_162 rfl rfl ?_
  have hNA := fun (k : Nat) (h : k < 16) => (⟨by omega, by omega⟩ : 1 + k ≤ 27 ∧ 1 + k < 28)
  have hA := hNA _ ha
  have hB := hNA _ hb16
  have hga' := getW hga
  have hgb' := getW hgb
  subst hpn hst
  have hst1' := wrapN (k := stn) (by omega)
  have hp1' := wrapN (k := pn) (by omega)
  have hcg : ∀ h, RD[pn]'h = [iv 19, iv na, iv nb, iv nc] := fun h => by rw [List.getElem?_eq_getElem h] at hcp; exact Option.some.inj hcp
  have hkg : ∀ h, RK[pn]'h = [bv true] := fun h => by rw [List.getElem?_eq_getElem h] at hkp; exact Option.some.inj hkp
  obtain ⟨cx, hcx0⟩ : ∃ cx, cs[pn]? = some cx := ⟨_, List.getElem?_eq_getElem (by omega)⟩
  have hRl : (rowIx cs).length = n := by simp [hnl]
  have hRp : (rowIx cs)[pn]? = some [iv cx] := by rw [List.getElem?_map, hcx0]; rfl
  have hRg : ∀ h, (rowIx cs)[pn]'h = [iv cx] := fun h => by rw [List.getElem?_eq_getElem h] at hRp; exact Option.some.inj hRp
  have hRs := rowIx_set cs pn (IntKind.i64.wrap (cx + 1))
  have hcsl : (cs.set pn (IntKind.i64.wrap (cx + 1))).length = n := by simp [hnl]
  generalize cs.set pn (IntKind.i64.wrap (cx + 1)) = cs' at hRs hcsl
  generalize rowIx cs = RN at hn hRl hRp hRg hRs
  clear hcx0 hnl
  have hpI : ¬ (n : Int) ≤ pn := by omega
  have hp0' : ¬ (pn : Int) < 0 := by omega
  have hb := beq_dec xa 0
  simp only [h0, ne_eq, not_false_iff, not_true, decide_false] at hb
  have hset := fun d hp => s217 (code := code) (inp := inp) (pc := pn) (rg := rg) (gm := gm) (nm := nm) (rd := rd) (steps := (stn : Int) + 1) (en := en) (go := go) (no := no) (gc := gc) (gk := gk) (gn := gn) (n := n) false (nc) (by omega) (by omega) hrl d hp
  simp only [if_true, if_false, Bool.false_eq_true] at hset
  clear hNA
  exact step14
set_option maxHeartbeats 8000000 in
theorem s162_20t {code : List Int} {inp : ByteArray} {pc : Int} {rg : List Int} {gm nm : Nat} {rd steps en : Int} {go no gc gk gn n : Nat} (hp1 : Hp) (RD RK : List (List AV)) (cs : List Int) (na nb nc pn stn : Nat) (xa xb : Int) (h0 : xa ≠ 0) (hrl : rg.length = 16) (hpn : pc = pn) (hst : steps = stn) (hx : hp1 ⟨0, 13, 0⟩ = .box 1 (bxR code inp pc rg gm nm rd steps en go no gc gk gn n) false) (hc : hp1 ⟨0, 13, 24⟩ = .arr gc 4 119 RD false) (hcl : RD.length = n) (hk : hp1 ⟨0, 13, 25⟩ = .arr gk 1 4 RK false) (hkl : RK.length = n) (hn : hp1 ⟨0, 13, 28⟩ = .arr gn 1 3 (rowIx cs) false) (hnl : cs.length = n)
    (hpl : pn < n) (hn1 : n ≤ 1048576) (hcp : RD[pn]? = some [iv 20, iv na, iv nb, iv nc]) (hkp : RK[pn]? = some [bv true]) (hst1 : stn < 9223372036854775806) (ha : na < 16) (hb16 : nb < 16) (hga : rg[na]? = some xa) (hgb : rg[nb]? = some xb) (d : Nat) :
    ∃ hp', (lim Tryz.prog E47 X47).hpc 0 d 162 [.ptr ⟨0, 13, 0⟩ 1 0] hp1 = some (.tup [], hp') ∧ (∃ cs' : List Int, cs'.length = n ∧ hp' ⟨0, 13, 28⟩ = .arr gn 1 3 (rowIx cs') false) ∧ hp' ⟨0, 13, 0⟩ = .box 1 (bxR code inp (nc : Int) rg gm nm rd ((stn : Int) + 1) en go no gc gk gn n) false ∧ ∀ y : Nm, y.d = 0 → y ≠ ⟨0, 13, 0⟩ → y ≠ ⟨0, 13, 28⟩ → hp' y = hp1 y := by
  refine unkey ?_
  refine lim_hpcW Tryz.func162 rfl rfl bodyOk_162 rfl rfl ?_
  have hNA := fun (k : Nat) (h : k < 16) => (⟨by omega, by omega⟩ : 1 + k ≤ 27 ∧ 1 + k < 28)
  have hA := hNA _ ha
  have hB := hNA _ hb16
  have hga' := getW hga
  have hgb' := getW hgb
  subst hpn hst
  have hst1' := wrapN (k := stn) (by omega)
  have hp1' := wrapN (k := pn) (by omega)
  have hcg : ∀ h, RD[pn]'h = [iv 20, iv na, iv nb, iv nc] := fun h => by rw [List.getElem?_eq_getElem h] at hcp; exact Option.some.inj hcp
  have hkg : ∀ h, RK[pn]'h = [bv true] := fun h => by rw [List.getElem?_eq_getElem h] at hkp; exact Option.some.inj hkp
  obtain ⟨cx, hcx0⟩ : ∃ cx, cs[pn]? = some cx := ⟨_, List.getElem?_eq_getElem (by omega)⟩
  have hRl : (rowIx cs).length = n := by simp [hnl]
  have hRp : (rowIx cs)[pn]? = some [iv cx] := by rw [List.getElem?_map, hcx0]; rfl
  have hRg : ∀ h, (rowIx cs)[pn]'h = [iv cx] := fun h => by rw [List.getElem?_eq_getElem h] at hRp; exact Option.some.inj hRp
  have hRs := rowIx_set cs pn (IntKind.i64.wrap (cx + 1))
  have hcsl : (cs.set pn (IntKind.i64.wrap (cx + 1))).length = n := by simp [hnl]
  generalize cs.set pn (IntKind.i64.wrap (cx + 1)) = cs' at hRs hcsl
  generalize rowIx cs = RN at hn hRl hRp hRg hRs
  clear hcx0 hnl
  have hpI : ¬ (n : Int) ≤ pn := by omega
  have hp0' : ¬ (pn : Int) < 0 := by omega
  have hb := bne_dec xa 0
  simp only [h0, ne_eq, not_false_iff, not_true, decide_true] at hb
  have hset := fun d hp => s217 (code := code) (inp := inp) (pc := pn) (rg := rg) (gm := gm) (nm := nm) (rd := rd) (steps := (stn : Int) + 1) (en := en) (go := go) (no := no) (gc := gc) (gk := gk) (gn := gn) (n := n) true (nc) (by omega) (by omega) hrl d hp
  simp only [if_true, if_false, Bool.false_eq_true] at hset
  clear hNA
  exact step14
set_option maxHeartbeats 8000000 in
theorem s162_20f {code : List Int} {inp : ByteArray} {pc : Int} {rg : List Int} {gm nm : Nat} {rd steps en : Int} {go no gc gk gn n : Nat} (hp1 : Hp) (RD RK : List (List AV)) (cs : List Int) (na nb nc pn stn : Nat) (xa xb : Int) (h0 : xa = 0) (hrl : rg.length = 16) (hpn : pc = pn) (hst : steps = stn) (hx : hp1 ⟨0, 13, 0⟩ = .box 1 (bxR code inp pc rg gm nm rd steps en go no gc gk gn n) false) (hc : hp1 ⟨0, 13, 24⟩ = .arr gc 4 119 RD false) (hcl : RD.length = n) (hk : hp1 ⟨0, 13, 25⟩ = .arr gk 1 4 RK false) (hkl : RK.length = n) (hn : hp1 ⟨0, 13, 28⟩ = .arr gn 1 3 (rowIx cs) false) (hnl : cs.length = n)
    (hpl : pn < n) (hn1 : n ≤ 1048576) (hcp : RD[pn]? = some [iv 20, iv na, iv nb, iv nc]) (hkp : RK[pn]? = some [bv true]) (hst1 : stn < 9223372036854775806) (ha : na < 16) (hb16 : nb < 16) (hga : rg[na]? = some xa) (hgb : rg[nb]? = some xb) (d : Nat) :
    ∃ hp', (lim Tryz.prog E47 X47).hpc 0 d 162 [.ptr ⟨0, 13, 0⟩ 1 0] hp1 = some (.tup [], hp') ∧ (∃ cs' : List Int, cs'.length = n ∧ hp' ⟨0, 13, 28⟩ = .arr gn 1 3 (rowIx cs') false) ∧ hp' ⟨0, 13, 0⟩ = .box 1 (bxR code inp ((pn : Int) + 1) rg gm nm rd ((stn : Int) + 1) en go no gc gk gn n) false ∧ ∀ y : Nm, y.d = 0 → y ≠ ⟨0, 13, 0⟩ → y ≠ ⟨0, 13, 28⟩ → hp' y = hp1 y := by
  refine unkey ?_
  refine lim_hpcW Tryz.func162 rfl rfl bodyOk_162 rfl rfl ?_
  have hNA := fun (k : Nat) (h : k < 16) => (⟨by omega, by omega⟩ : 1 + k ≤ 27 ∧ 1 + k < 28)
  have hA := hNA _ ha
  have hB := hNA _ hb16
  have hga' := getW hga
  have hgb' := getW hgb
  subst hpn hst
  have hst1' := wrapN (k := stn) (by omega)
  have hp1' := wrapN (k := pn) (by omega)
  have hcg : ∀ h, RD[pn]'h = [iv 20, iv na, iv nb, iv nc] := fun h => by rw [List.getElem?_eq_getElem h] at hcp; exact Option.some.inj hcp
  have hkg : ∀ h, RK[pn]'h = [bv true] := fun h => by rw [List.getElem?_eq_getElem h] at hkp; exact Option.some.inj hkp
  obtain ⟨cx, hcx0⟩ : ∃ cx, cs[pn]? = some cx := ⟨_, List.getElem?_eq_getElem (by omega)⟩
  have hRl : (rowIx cs).length = n := by simp [hnl]
  have hRp : (rowIx cs)[pn]? = some [iv cx] := by rw [List.getElem?_map, hcx0]; rfl
  have hRg : ∀ h, (rowIx cs)[pn]'h = [iv cx] := fun h => by rw [List.getElem?_eq_getElem h] at hRp; exact Option.some.inj hRp
  have hRs := rowIx_set cs pn (IntKind.i64.wrap (cx + 1))
  have hcsl : (cs.set pn (IntKind.i64.wrap (cx + 1))).length = n := by simp [hnl]
  generalize cs.set pn (IntKind.i64.wrap (cx + 1)) = cs' at hRs hcsl
  generalize rowIx cs = RN at hn hRl hRp hRg hRs
  clear hcx0 hnl
  have hpI : ¬ (n : Int) ≤ pn := by omega
  have hp0' : ¬ (pn : Int) < 0 := by omega
  have hb := bne_dec xa 0
  simp only [h0, ne_eq, not_false_iff, not_true, decide_false] at hb
  subst h0
  have hset := fun d hp => s217 (code := code) (inp := inp) (pc := pn) (rg := rg) (gm := gm) (nm := nm) (rd := rd) (steps := (stn : Int) + 1) (en := en) (go := go) (no := no) (gc := gc) (gk := gk) (gn := gn) (n := n) false (nc) (by omega) (by omega) hrl d hp
  simp only [if_true, if_false, Bool.false_eq_true] at hset
  clear hNA
  exact step14
end Go.Proofs.YtaeeffddinppeaaGreatDoor
namespace Go.Proofs.YtaeeffddinppeaaGreatDoor
open Go Go.Ab
attribute [-simp] Prog.bind getCs putCs
attribute [local simp ↓] run_bind
attribute [local simp ↓] runF_bind
attribute [local simp] run_getCsN runF_getCsN facetsC putCs_one run_putCsN runF_putCsN facetsW facetsH
attribute [local simp] take1 br_len br_reg br_regg bt_reg bt_pc bt_rd bt_steps bt_en bt_out br_0 bh_0 br_17 bh_17 br_18 bh_18 br_19 bh_19 br_20 bh_20 br_21 bh_21 br_22 bh_22 br_23 bh_23 br_24 bh_24 br_25 bh_25 br_26 bh_26 br_27 bh_27
def snocR (l : List Int) (x : Int) : List (List AV) := rowB (l ++ [x])
set_option maxHeartbeats 8000000 in
theorem s162_23o {code : List Int} {inp : ByteArray} {pc : Int} {rg : List Int} {gm nm : Nat} {rd steps en : Int} {go no gc gk gn n : Nat} (hp1 : Hp) (RD RK : List (List AV)) (cs : List Int) (na nb nc pn stn : Nat) (xa xb : Int) (rdn : Nat) (hrd : rd = rdn) (hr1 : inp.size ≤ rdn) (hrl : rg.length = 16) (hpn : pc = pn) (hst : steps = stn) (hx : hp1 ⟨0, 13, 0⟩ = .box 1 (bxR code inp pc rg gm nm rd steps en go no gc gk gn n) false) (hc : hp1 ⟨0, 13, 24⟩ = .arr gc 4 119 RD false) (hcl : RD.length = n) (hk : hp1 ⟨0, 13, 25⟩ = .arr gk 1 4 RK false) (hkl : RK.length = n) (hn : hp1 ⟨0, 13, 28⟩ = .arr gn 1 3 (rowIx cs) false) (hnl : cs.length = n)
    (hpl : pn < n) (hn1 : n ≤ 1048576) (hcp : RD[pn]? = some [iv 23, iv na, iv nb, iv nc]) (hkp : RK[pn]? = some [bv true]) (hst1 : stn < 9223372036854775806) (ha : na < 16) (hb16 : nb < 16) (hga : rg[na]? = some xa) (hgb : rg[nb]? = some xb) (d : Nat) :
    ∃ hp', (lim Tryz.prog E47 X47).hpc 0 d 162 [.ptr ⟨0, 13, 0⟩ 1 0] hp1 = some (.tup [], hp') ∧ (∃ cs' : List Int, cs'.length = n ∧ hp' ⟨0, 13, 28⟩ = .arr gn 1 3 (rowIx cs') false) ∧ hp' ⟨0, 13, 0⟩ = .box 1 (bxR code inp ((pn : Int) + 1) (rg.set na 256) gm nm rd ((stn : Int) + 1) en go no gc gk gn n) false ∧ ∀ y : Nm, y.d = 0 → y ≠ ⟨0, 13, 0⟩ → y ≠ ⟨0, 13, 28⟩ → hp' y = hp1 y := by
  refine unkey ?_
  refine lim_hpcW Tryz.func162 rfl rfl bodyOk_162 rfl rfl ?_
  have hNA := fun (k : Nat) (h : k < 16) => (⟨by omega, by omega⟩ : 1 + k ≤ 27 ∧ 1 + k < 28)
  have hA := hNA _ ha
  have hB := hNA _ hb16
  have hga' := getW hga
  have hgb' := getW hgb
  subst hpn hst
  have hst1' := wrapN (k := stn) (by omega)
  have hp1' := wrapN (k := pn) (by omega)
  have hcg : ∀ h, RD[pn]'h = [iv 23, iv na, iv nb, iv nc] := fun h => by rw [List.getElem?_eq_getElem h] at hcp; exact Option.some.inj hcp
  have hkg : ∀ h, RK[pn]'h = [bv true] := fun h => by rw [List.getElem?_eq_getElem h] at hkp; exact Option.some.inj hkp
  obtain ⟨cx, hcx0⟩ : ∃ cx, cs[pn]? = some cx := ⟨_, List.getElem?_eq_getElem (by omega)⟩
  have hRl : (rowIx cs).length = n := by simp [hnl]
  have hRp : (rowIx cs)[pn]? = some [iv cx] := by rw [List.getElem?_map, hcx0]; rfl
  have hRg : ∀ h, (rowIx cs)[pn]'h = [iv cx] := fun h => by rw [List.getElem?_eq_getElem h] at hRp; exact Option.some.inj hRp
  have hRs := rowIx_set cs pn (IntKind.i64.wrap (cx + 1))
  have hcsl : (cs.set pn (IntKind.i64.wrap (cx + 1))).length = n := by simp [hnl]
  generalize cs.set pn (IntKind.i64.wrap (cx + 1)) = cs' at hRs hcsl
  generalize rowIx cs = RN at hn hRl hRp hRg hRs
  clear hcx0 hnl
  have hpI : ¬ (n : Int) ≤ pn := by omega
  have hp0' : ¬ (pn : Int) < 0 := by omega
  subst hrd
  have q0' : ¬ (rdn : Int) < 0 := by omega
  have q1' : (inp.size : Int) ≤ rdn := by omega
  have hset := fun d hp => s215 (code := code) (inp := inp) (pc := pn) (rg := rg) (gm := gm) (nm := nm) (rd := (rdn : Int)) (steps := (stn : Int) + 1) (en := en) (go := go) (no := no) (gc := gc) (gk := gk) (gn := gn) (n := n) na ha (256) (by omega) (by omega) hrl d hp
  clear hNA
  exact step14
set_option maxHeartbeats 8000000 in
theorem s162_23i {code : List Int} {inp : ByteArray} {pc : Int} {rg : List Int} {gm nm : Nat} {rd steps en : Int} {go no gc gk gn n : Nat} (hp1 : Hp) (RD RK : List (List AV)) (cs : List Int) (na nb nc pn stn : Nat) (xa xb : Int) (rdn : Nat) (hrd : rd = rdn) (b : UInt8) (hbb : inp.data[rdn]? = some b) (hsz : inp.size ≤ 1048576) (hrl : rg.length = 16) (hpn : pc = pn) (hst : steps = stn) (hx : hp1 ⟨0, 13, 0⟩ = .box 1 (bxR code inp pc rg gm nm rd steps en go no gc gk gn n) false) (hc : hp1 ⟨0, 13, 24⟩ = .arr gc 4 119 RD false) (hcl : RD.length = n) (hk : hp1 ⟨0, 13, 25⟩ = .arr gk 1 4 RK false) (hkl : RK.length = n) (hn : hp1 ⟨0, 13, 28⟩ = .arr gn 1 3 (rowIx cs) false) (hnl : cs.length = n)
    (hpl : pn < n) (hn1 : n ≤ 1048576) (hcp : RD[pn]? = some [iv 23, iv na, iv nb, iv nc]) (hkp : RK[pn]? = some [bv true]) (hst1 : stn < 9223372036854775806) (ha : na < 16) (hb16 : nb < 16) (hga : rg[na]? = some xa) (hgb : rg[nb]? = some xb) (d : Nat) :
    ∃ hp', (lim Tryz.prog E47 X47).hpc 0 d 162 [.ptr ⟨0, 13, 0⟩ 1 0] hp1 = some (.tup [], hp') ∧ (∃ cs' : List Int, cs'.length = n ∧ hp' ⟨0, 13, 28⟩ = .arr gn 1 3 (rowIx cs') false) ∧ hp' ⟨0, 13, 0⟩ = .box 1 (bxR code inp ((pn : Int) + 1) (rg.set na (b.toNat : Int)) gm nm ((rdn : Int) + 1) ((stn : Int) + 1) en go no gc gk gn n) false ∧ ∀ y : Nm, y.d = 0 → y ≠ ⟨0, 13, 0⟩ → y ≠ ⟨0, 13, 28⟩ → hp' y = hp1 y := by
  refine unkey ?_
  refine lim_hpcW Tryz.func162 rfl rfl bodyOk_162 rfl rfl ?_
  have hNA := fun (k : Nat) (h : k < 16) => (⟨by omega, by omega⟩ : 1 + k ≤ 27 ∧ 1 + k < 28)
  have hA := hNA _ ha
  have hB := hNA _ hb16
  have hga' := getW hga
  have hgb' := getW hgb
  subst hpn hst
  have hst1' := wrapN (k := stn) (by omega)
  have hp1' := wrapN (k := pn) (by omega)
  have hcg : ∀ h, RD[pn]'h = [iv 23, iv na, iv nb, iv nc] := fun h => by rw [List.getElem?_eq_getElem h] at hcp; exact Option.some.inj hcp
  have hkg : ∀ h, RK[pn]'h = [bv true] := fun h => by rw [List.getElem?_eq_getElem h] at hkp; exact Option.some.inj hkp
  obtain ⟨cx, hcx0⟩ : ∃ cx, cs[pn]? = some cx := ⟨_, List.getElem?_eq_getElem (by omega)⟩
  have hRl : (rowIx cs).length = n := by simp [hnl]
  have hRp : (rowIx cs)[pn]? = some [iv cx] := by rw [List.getElem?_map, hcx0]; rfl
  have hRg : ∀ h, (rowIx cs)[pn]'h = [iv cx] := fun h => by rw [List.getElem?_eq_getElem h] at hRp; exact Option.some.inj hRp
  have hRs := rowIx_set cs pn (IntKind.i64.wrap (cx + 1))
  have hcsl : (cs.set pn (IntKind.i64.wrap (cx + 1))).length = n := by simp [hnl]
  generalize cs.set pn (IntKind.i64.wrap (cx + 1)) = cs' at hRs hcsl
  generalize rowIx cs = RN at hn hRl hRp hRg hRs
  clear hcx0 hnl
  have hpI : ¬ (n : Int) ≤ pn := by omega
  have hp0' : ¬ (pn : Int) < 0 := by omega
  subst hrd
  have hlt : rdn < inp.size := (Array.getElem?_eq_some_iff.1 hbb).1
  have q0' : ¬ (rdn : Int) < 0 := by omega
  have q1' : ¬ (inp.size : Int) ≤ rdn := by omega
  have q2' : rdn < inp.data.size := hlt
  have q3' : ∀ h, inp.data[rdn]'h = b := fun h => by rw [Array.getElem?_eq_getElem h] at hbb; exact Option.some.inj hbb
  have q4' : IntKind.u32.wrap (b.toNat : Int) = b.toNat := by have := b.toNat_lt; rw [IntKind.wrap_u32]; omega
  have q5' := wrapN (k := rdn) (by omega)
  have hset := fun d hp => s215 (code := code) (inp := inp) (pc := pn) (rg := rg) (gm := gm) (nm := nm) (rd := (rdn : Int) + 1) (steps := (stn : Int) + 1) (en := en) (go := go) (no := no) (gc := gc) (gk := gk) (gn := gn) (n := n) na ha ((b.toNat : Int)) (by omega) (by omega) hrl d hp
  clear hNA
  exact step14
set_option maxHeartbeats 8000000 in
theorem s162_24o {code : List Int} {inp : ByteArray} {pc : Int} {rg : List Int} {gm nm : Nat} {rd steps en : Int} {go no gc gk gn n : Nat} (hp1 : Hp) (RD RK : List (List AV)) (cs : List Int) (na nb nc pn stn : Nat) (xa xb : Int) (out : List Int) (hno : no = out.length) (hmo : hp1 ⟨0, 13, 23⟩ = .arr go 1 5 (rowB out) false) (hol : 65536 ≤ out.length) (hrl : rg.length = 16) (hpn : pc = pn) (hst : steps = stn) (hx : hp1 ⟨0, 13, 0⟩ = .box 1 (bxR code inp pc rg gm nm rd steps en go no gc gk gn n) false) (hc : hp1 ⟨0, 13, 24⟩ = .arr gc 4 119 RD false) (hcl : RD.length = n) (hk : hp1 ⟨0, 13, 25⟩ = .arr gk 1 4 RK false) (hkl : RK.length = n) (hn : hp1 ⟨0, 13, 28⟩ = .arr gn 1 3 (rowIx cs) false) (hnl : cs.length = n)
    (hpl : pn < n) (hn1 : n ≤ 1048576) (hcp : RD[pn]? = some [iv 24, iv na, iv nb, iv nc]) (hkp : RK[pn]? = some [bv true]) (hst1 : stn < 9223372036854775806) (ha : na < 16) (hb16 : nb < 16) (hga : rg[na]? = some xa) (hgb : rg[nb]? = some xb) (d : Nat) :
    ∃ hp', (lim Tryz.prog E47 X47).hpc 0 d 162 [.ptr ⟨0, 13, 0⟩ 1 0] hp1 = some (.tup [], hp') ∧ (∃ cs' : List Int, cs'.length = n ∧ hp' ⟨0, 13, 28⟩ = .arr gn 1 3 (rowIx cs') false) ∧ hp' ⟨0, 13, 0⟩ = .box 1 (bxR code inp (pn : Int) rg gm nm rd ((stn : Int) + 1) 4 go no gc gk gn n) false ∧ ∀ y : Nm, y.d = 0 → y ≠ ⟨0, 13, 0⟩ → y ≠ ⟨0, 13, 28⟩ → hp' y = hp1 y := by
  refine unkey ?_
  refine lim_hpcW Tryz.func162 rfl rfl bodyOk_162 rfl rfl ?_
  have hNA := fun (k : Nat) (h : k < 16) => (⟨by omega, by omega⟩ : 1 + k ≤ 27 ∧ 1 + k < 28)
  have hA := hNA _ ha
  have hB := hNA _ hb16
  have hga' := getW hga
  have hgb' := getW hgb
  subst hpn hst
  have hst1' := wrapN (k := stn) (by omega)
  have hp1' := wrapN (k := pn) (by omega)
  have hcg : ∀ h, RD[pn]'h = [iv 24, iv na, iv nb, iv nc] := fun h => by rw [List.getElem?_eq_getElem h] at hcp; exact Option.some.inj hcp
  have hkg : ∀ h, RK[pn]'h = [bv true] := fun h => by rw [List.getElem?_eq_getElem h] at hkp; exact Option.some.inj hkp
  obtain ⟨cx, hcx0⟩ : ∃ cx, cs[pn]? = some cx := ⟨_, List.getElem?_eq_getElem (by omega)⟩
  have hRl : (rowIx cs).length = n := by simp [hnl]
  have hRp : (rowIx cs)[pn]? = some [iv cx] := by rw [List.getElem?_map, hcx0]; rfl
  have hRg : ∀ h, (rowIx cs)[pn]'h = [iv cx] := fun h => by rw [List.getElem?_eq_getElem h] at hRp; exact Option.some.inj hRp
  have hRs := rowIx_set cs pn (IntKind.i64.wrap (cx + 1))
  have hcsl : (cs.set pn (IntKind.i64.wrap (cx + 1))).length = n := by simp [hnl]
  generalize cs.set pn (IntKind.i64.wrap (cx + 1)) = cs' at hRs hcsl
  generalize rowIx cs = RN at hn hRl hRp hRg hRs
  clear hcx0 hnl
  have hpI : ¬ (n : Int) ≤ pn := by omega
  have hp0' : ¬ (pn : Int) < 0 := by omega
  subst hno
  have v0 : (65536 : Int) ≤ out.length := by omega
  clear hol
  generalize rowB out = RB at *
  clear hNA
  exact step14
set_option maxHeartbeats 8000000 in
theorem s162_24i {code : List Int} {inp : ByteArray} {pc : Int} {rg : List Int} {gm nm : Nat} {rd steps en : Int} {go no gc gk gn n : Nat} (hp1 : Hp) (RD RK : List (List AV)) (cs : List Int) (na nb nc pn stn : Nat) (xa xb : Int) (out : List Int) (hno : no = out.length) (hmo : hp1 ⟨0, 13, 23⟩ = .arr go 1 5 (rowB out) false) (hxa : Ma.U xa) (hol : out.length < 65536) (hrl : rg.length = 16) (hpn : pc = pn) (hst : steps = stn) (hx : hp1 ⟨0, 13, 0⟩ = .box 1 (bxR code inp pc rg gm nm rd steps en go no gc gk gn n) false) (hc : hp1 ⟨0, 13, 24⟩ = .arr gc 4 119 RD false) (hcl : RD.length = n) (hk : hp1 ⟨0, 13, 25⟩ = .arr gk 1 4 RK false) (hkl : RK.length = n) (hn : hp1 ⟨0, 13, 28⟩ = .arr gn 1 3 (rowIx cs) false) (hnl : cs.length = n)
    (hpl : pn < n) (hn1 : n ≤ 1048576) (hcp : RD[pn]? = some [iv 24, iv na, iv nb, iv nc]) (hkp : RK[pn]? = some [bv true]) (hst1 : stn < 9223372036854775806) (ha : na < 16) (hb16 : nb < 16) (hga : rg[na]? = some xa) (hgb : rg[nb]? = some xb) (d : Nat) :
    ∃ hp', (lim Tryz.prog E47 X47).hpc 0 d 162 [.ptr ⟨0, 13, 0⟩ 1 0] hp1 = some (.tup [], hp') ∧ (∃ cs' : List Int, cs'.length = n ∧ hp' ⟨0, 13, 28⟩ = .arr gn 1 3 (rowIx cs') false) ∧ hp' ⟨0, 13, 0⟩ = .box 1 (bxR code inp ((pn : Int) + 1) rg gm nm rd ((stn : Int) + 1) en (go + 1) (out.length + 1) gc gk gn n) false ∧ hp' ⟨0, 13, 23⟩ = .arr (go + 1) 1 5 (snocR out (xa % 256)) false ∧ ∀ y : Nm, y.d = 0 → y ≠ ⟨0, 13, 0⟩ → y ≠ ⟨0, 13, 28⟩ → y ≠ ⟨0, 13, 23⟩ → hp' y = hp1 y := by
  refine unkey ?_
  refine lim_hpcW Tryz.func162 rfl rfl bodyOk_162 rfl rfl ?_
  have hNA := fun (k : Nat) (h : k < 16) => (⟨by omega, by omega⟩ : 1 + k ≤ 27 ∧ 1 + k < 28)
  have hA := hNA _ ha
  have hB := hNA _ hb16
  have hga' := getW hga
  have hgb' := getW hgb
  subst hpn hst
  have hst1' := wrapN (k := stn) (by omega)
  have hp1' := wrapN (k := pn) (by omega)
  have hcg : ∀ h, RD[pn]'h = [iv 24, iv na, iv nb, iv nc] := fun h => by rw [List.getElem?_eq_getElem h] at hcp; exact Option.some.inj hcp
  have hkg : ∀ h, RK[pn]'h = [bv true] := fun h => by rw [List.getElem?_eq_getElem h] at hkp; exact Option.some.inj hkp
  obtain ⟨cx, hcx0⟩ : ∃ cx, cs[pn]? = some cx := ⟨_, List.getElem?_eq_getElem (by omega)⟩
  have hRl : (rowIx cs).length = n := by simp [hnl]
  have hRp : (rowIx cs)[pn]? = some [iv cx] := by rw [List.getElem?_map, hcx0]; rfl
  have hRg : ∀ h, (rowIx cs)[pn]'h = [iv cx] := fun h => by rw [List.getElem?_eq_getElem h] at hRp; exact Option.some.inj hRp
  have hRs := rowIx_set cs pn (IntKind.i64.wrap (cx + 1))
  have hcsl : (cs.set pn (IntKind.i64.wrap (cx + 1))).length = n := by simp [hnl]
  generalize cs.set pn (IntKind.i64.wrap (cx + 1)) = cs' at hRs hcsl
  generalize rowIx cs = RN at hn hRl hRp hRg hRs
  clear hcx0 hnl
  have hpI : ¬ (n : Int) ≤ pn := by omega
  have hp0' : ¬ (pn : Int) < 0 := by omega
  subst hno
  have v0 : ¬ (65536 : Int) ≤ out.length := by omega
  have u0 : xa.tmod 256 = xa % 256 := Int.tmod_eq_emod_of_nonneg hxa.1
  have u1 : IntKind.u32.wrap (xa % 256) = xa % 256 := by rw [IntKind.wrap_u32]; omega
  have u2 : IntKind.u8.wrap (xa % 256) = xa % 256 := by rw [IntKind.wrap_u8]; omega
  have u4 : out.length + 1 ≤ 140737488355328 := by omega
  have u5 : out.length ≤ 9223372036854775806 := by omega
  have u6 : rowB out ++ [[.sc (.int .u8 (xa % 256))]] = snocR out (xa % 256) := by simp [snocR]
  have u7 : (rowB out).length = out.length := List.length_map ..
  clear hxa
  generalize snocR out (xa % 256) = SB at *
  generalize rowB out = RB at *
  clear hNA
  exact step15
end Go.Proofs.YtaeeffddinppeaaGreatDoor
