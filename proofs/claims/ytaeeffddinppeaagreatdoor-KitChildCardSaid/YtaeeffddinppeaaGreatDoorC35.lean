/- A part of the proof: Kp, Kq, Kr. -/
import Derived.Test.YtaeeffddinppeaaGreatDoorC33
set_option linter.unusedSimpArgs false
set_option linter.unusedVariables false
namespace Go.Proofs.YtaeeffddinppeaaGreatDoor
open Go Go.Ab
attribute [-simp] Prog.bind getCs putCs
attribute [local simp ↓] run_bind
attribute [local simp ↓] runF_bind
attribute [local simp] run_getCsN runF_getCsN facetsC putCs_one run_putCsN
set_option maxHeartbeats 8000000 in
theorem h39_li1 (s : MS) (g n : Nat) (ws : List Int) (inp : ByteArray) (RD RK : List (List AV)) (cs : List Int) (v : Nat) (hv : v ≤ 65535) (d : Nat) (hp1 : Hp)
    (hx : hp1 ⟨0, 13, 0⟩ = .box 1 (bxc s g n ws inp) false) (ho : hp1 ⟨0, 13, 23⟩ = .arr g 1 5 (rowB s.out) false) (hc : hp1 ⟨0, 13, 24⟩ = .arr 2 4 119 RD false) (hcl : RD.length = n) (hcp : RD[s.pc]? = some [iv 1, iv 1, iv 0, iv v])
    (hk : hp1 ⟨0, 13, 25⟩ = .arr 2 1 4 RK false) (hkl : RK.length = n) (hkp : RK[s.pc]? = some [bv true]) (hn : hp1 ⟨0, 13, 28⟩ = .arr 2 1 3 (rowI cs) false) (hnl : cs.length = n) (hpc : s.pc < n) (hn1 : n ≤ 100000) (hst : s.steps ≤ 100000) :
    ∃ hp' g' cs', (lim Tryz.prog E47 X47).hpc 0 d 162 [.ptr ⟨0, 13, 0⟩ 1 0] hp1 = some (.tup [], hp') ∧ Post { s with steps := s.steps + 1, R := setR s.R 1 v, pc := s.pc + 1 } g' n ws inp cs' hp1 hp' := by
  have key : ∃ z hp', (lim Tryz.prog E47 X47).hpc 0 d 162 [.ptr ⟨0, 13, 0⟩ 1 0] hp1 = some (z, hp') ∧ (z = .tup [] ∧ ∃ g' cs', Post { s with steps := s.steps + 1, R := setR s.R 1 v, pc := s.pc + 1 } g' n ws inp cs' hp1 hp') := by
    refine lim_hpcW (R := fun z hp' => z = .tup [] ∧ ∃ g' cs', Post { s with steps := s.steps + 1, R := setR s.R 1 v, pc := s.pc + 1 } g' n ws inp cs' hp1 hp') Tryz.func162 rfl rfl bodyOk_162 rfl rfl ?_
    obtain ⟨p, R, st, en, out⟩ := s
    simp only [bxc] at hx
    simp only at ho hcp hkp hpc hst
    have hst1 := wrapN (k := st) (by omega)
    have hp1' := wrapN (k := p) (by omega)
    have hcg : ∀ h, RD[p]'h = [iv 1, iv 1, iv 0, iv v] := fun h => by rw [List.getElem?_eq_getElem h] at hcp; exact Option.some.inj hcp
    have hkg : ∀ h, RK[p]'h = [bv true] := fun h => by rw [List.getElem?_eq_getElem h] at hkp; exact Option.some.inj hkp
    obtain ⟨cx, hcx⟩ : ∃ cx, cs[p]? = some cx := ⟨_, List.getElem?_eq_getElem (by omega)⟩
    have hRl : (rowI cs).length = n := by simp [hnl]
    have hRp : (rowI cs)[p]? = some [iv cx] := by rw [List.getElem?_map, hcx]; rfl
    have hRg : ∀ h, (rowI cs)[p]'h = [iv cx] := fun h => by rw [List.getElem?_eq_getElem h] at hRp; exact Option.some.inj hRp
    have hRs := rowI_set cs p (IntKind.i64.wrap (cx + 1))
    have hcsl : (cs.set p (IntKind.i64.wrap (cx + 1))).length = n := by simp [hnl]
    have hHP := Lib.hid (⟨rfl, rfl⟩ : hp1 = hp1 ∧ cs.set p (IntKind.i64.wrap (cx + 1)) = cs.set p (IntKind.i64.wrap (cx + 1)))
    generalize cs.set p (IntKind.i64.wrap (cx + 1)) = cs' at hRs hcsl
    generalize rowI cs = RN at hn hRl hRp hRg hRs
    clear hcx hnl
    have hpI : ¬ (n : Int) ≤ p := by omega
    have hp0' : ¬ (p : Int) < 0 := by omega
    have u0 : IntKind.u32.wrap (v : Int) = v := by rw [IntKind.wrap_u32]; omega
    have hset := fun d hp => h44_1 v ⟨p, R, st + 1, en, out⟩ g n ws inp (by simp only; omega) d hp
    simp only [bxc, setR, Int.natCast_add, Int.cast_ofNat_Int, reduceIte, Nat.reduceEqDiff] at hset
    exact step11
  obtain ⟨z, hp', h1, rfl, g', cs', h2⟩ := key
  exact ⟨hp', g', cs', h1, h2⟩
set_option maxHeartbeats 8000000 in
theorem h39_li8 (s : MS) (g n : Nat) (ws : List Int) (inp : ByteArray) (RD RK : List (List AV)) (cs : List Int) (v : Nat) (hv : v ≤ 65535) (d : Nat) (hp1 : Hp)
    (hx : hp1 ⟨0, 13, 0⟩ = .box 1 (bxc s g n ws inp) false) (ho : hp1 ⟨0, 13, 23⟩ = .arr g 1 5 (rowB s.out) false) (hc : hp1 ⟨0, 13, 24⟩ = .arr 2 4 119 RD false) (hcl : RD.length = n) (hcp : RD[s.pc]? = some [iv 1, iv 8, iv 0, iv v])
    (hk : hp1 ⟨0, 13, 25⟩ = .arr 2 1 4 RK false) (hkl : RK.length = n) (hkp : RK[s.pc]? = some [bv true]) (hn : hp1 ⟨0, 13, 28⟩ = .arr 2 1 3 (rowI cs) false) (hnl : cs.length = n) (hpc : s.pc < n) (hn1 : n ≤ 100000) (hst : s.steps ≤ 100000) :
    ∃ hp' g' cs', (lim Tryz.prog E47 X47).hpc 0 d 162 [.ptr ⟨0, 13, 0⟩ 1 0] hp1 = some (.tup [], hp') ∧ Post { s with steps := s.steps + 1, R := setR s.R 8 v, pc := s.pc + 1 } g' n ws inp cs' hp1 hp' := by
  have key : ∃ z hp', (lim Tryz.prog E47 X47).hpc 0 d 162 [.ptr ⟨0, 13, 0⟩ 1 0] hp1 = some (z, hp') ∧ (z = .tup [] ∧ ∃ g' cs', Post { s with steps := s.steps + 1, R := setR s.R 8 v, pc := s.pc + 1 } g' n ws inp cs' hp1 hp') := by
    refine lim_hpcW (R := fun z hp' => z = .tup [] ∧ ∃ g' cs', Post { s with steps := s.steps + 1, R := setR s.R 8 v, pc := s.pc + 1 } g' n ws inp cs' hp1 hp') Tryz.func162 rfl rfl bodyOk_162 rfl rfl ?_
    obtain ⟨p, R, st, en, out⟩ := s
    simp only [bxc] at hx
    simp only at ho hcp hkp hpc hst
    have hst1 := wrapN (k := st) (by omega)
    have hp1' := wrapN (k := p) (by omega)
    have hcg : ∀ h, RD[p]'h = [iv 1, iv 8, iv 0, iv v] := fun h => by rw [List.getElem?_eq_getElem h] at hcp; exact Option.some.inj hcp
    have hkg : ∀ h, RK[p]'h = [bv true] := fun h => by rw [List.getElem?_eq_getElem h] at hkp; exact Option.some.inj hkp
    obtain ⟨cx, hcx⟩ : ∃ cx, cs[p]? = some cx := ⟨_, List.getElem?_eq_getElem (by omega)⟩
    have hRl : (rowI cs).length = n := by simp [hnl]
    have hRp : (rowI cs)[p]? = some [iv cx] := by rw [List.getElem?_map, hcx]; rfl
    have hRg : ∀ h, (rowI cs)[p]'h = [iv cx] := fun h => by rw [List.getElem?_eq_getElem h] at hRp; exact Option.some.inj hRp
    have hRs := rowI_set cs p (IntKind.i64.wrap (cx + 1))
    have hcsl : (cs.set p (IntKind.i64.wrap (cx + 1))).length = n := by simp [hnl]
    have hHP := Lib.hid (⟨rfl, rfl⟩ : hp1 = hp1 ∧ cs.set p (IntKind.i64.wrap (cx + 1)) = cs.set p (IntKind.i64.wrap (cx + 1)))
    generalize cs.set p (IntKind.i64.wrap (cx + 1)) = cs' at hRs hcsl
    generalize rowI cs = RN at hn hRl hRp hRg hRs
    clear hcx hnl
    have hpI : ¬ (n : Int) ≤ p := by omega
    have hp0' : ¬ (p : Int) < 0 := by omega
    have u0 : IntKind.u32.wrap (v : Int) = v := by rw [IntKind.wrap_u32]; omega
    have hset := fun d hp => h44_8 v ⟨p, R, st + 1, en, out⟩ g n ws inp (by simp only; omega) d hp
    simp only [bxc, setR, Int.natCast_add, Int.cast_ofNat_Int, reduceIte, Nat.reduceEqDiff] at hset
    exact step11
  obtain ⟨z, hp', h1, rfl, g', cs', h2⟩ := key
  exact ⟨hp', g', cs', h1, h2⟩
set_option maxHeartbeats 8000000 in
theorem h39_li7 (s : MS) (g n : Nat) (ws : List Int) (inp : ByteArray) (RD RK : List (List AV)) (cs : List Int) (v : Nat) (hv : v ≤ 65535) (d : Nat) (hp1 : Hp)
    (hx : hp1 ⟨0, 13, 0⟩ = .box 1 (bxc s g n ws inp) false) (ho : hp1 ⟨0, 13, 23⟩ = .arr g 1 5 (rowB s.out) false) (hc : hp1 ⟨0, 13, 24⟩ = .arr 2 4 119 RD false) (hcl : RD.length = n) (hcp : RD[s.pc]? = some [iv 1, iv 7, iv 0, iv v])
    (hk : hp1 ⟨0, 13, 25⟩ = .arr 2 1 4 RK false) (hkl : RK.length = n) (hkp : RK[s.pc]? = some [bv true]) (hn : hp1 ⟨0, 13, 28⟩ = .arr 2 1 3 (rowI cs) false) (hnl : cs.length = n) (hpc : s.pc < n) (hn1 : n ≤ 100000) (hst : s.steps ≤ 100000) :
    ∃ hp' g' cs', (lim Tryz.prog E47 X47).hpc 0 d 162 [.ptr ⟨0, 13, 0⟩ 1 0] hp1 = some (.tup [], hp') ∧ Post { s with steps := s.steps + 1, R := setR s.R 7 v, pc := s.pc + 1 } g' n ws inp cs' hp1 hp' := by
  have key : ∃ z hp', (lim Tryz.prog E47 X47).hpc 0 d 162 [.ptr ⟨0, 13, 0⟩ 1 0] hp1 = some (z, hp') ∧ (z = .tup [] ∧ ∃ g' cs', Post { s with steps := s.steps + 1, R := setR s.R 7 v, pc := s.pc + 1 } g' n ws inp cs' hp1 hp') := by
    refine lim_hpcW (R := fun z hp' => z = .tup [] ∧ ∃ g' cs', Post { s with steps := s.steps + 1, R := setR s.R 7 v, pc := s.pc + 1 } g' n ws inp cs' hp1 hp') Tryz.func162 rfl rfl bodyOk_162 rfl rfl ?_
    obtain ⟨p, R, st, en, out⟩ := s
    simp only [bxc] at hx
    simp only at ho hcp hkp hpc hst
    have hst1 := wrapN (k := st) (by omega)
    have hp1' := wrapN (k := p) (by omega)
    have hcg : ∀ h, RD[p]'h = [iv 1, iv 7, iv 0, iv v] := fun h => by rw [List.getElem?_eq_getElem h] at hcp; exact Option.some.inj hcp
    have hkg : ∀ h, RK[p]'h = [bv true] := fun h => by rw [List.getElem?_eq_getElem h] at hkp; exact Option.some.inj hkp
    obtain ⟨cx, hcx⟩ : ∃ cx, cs[p]? = some cx := ⟨_, List.getElem?_eq_getElem (by omega)⟩
    have hRl : (rowI cs).length = n := by simp [hnl]
    have hRp : (rowI cs)[p]? = some [iv cx] := by rw [List.getElem?_map, hcx]; rfl
    have hRg : ∀ h, (rowI cs)[p]'h = [iv cx] := fun h => by rw [List.getElem?_eq_getElem h] at hRp; exact Option.some.inj hRp
    have hRs := rowI_set cs p (IntKind.i64.wrap (cx + 1))
    have hcsl : (cs.set p (IntKind.i64.wrap (cx + 1))).length = n := by simp [hnl]
    have hHP := Lib.hid (⟨rfl, rfl⟩ : hp1 = hp1 ∧ cs.set p (IntKind.i64.wrap (cx + 1)) = cs.set p (IntKind.i64.wrap (cx + 1)))
    generalize cs.set p (IntKind.i64.wrap (cx + 1)) = cs' at hRs hcsl
    generalize rowI cs = RN at hn hRl hRp hRg hRs
    clear hcx hnl
    have hpI : ¬ (n : Int) ≤ p := by omega
    have hp0' : ¬ (p : Int) < 0 := by omega
    have u0 : IntKind.u32.wrap (v : Int) = v := by rw [IntKind.wrap_u32]; omega
    have hset := fun d hp => h44_7 v ⟨p, R, st + 1, en, out⟩ g n ws inp (by simp only; omega) d hp
    simp only [bxc, setR, Int.natCast_add, Int.cast_ofNat_Int, reduceIte, Nat.reduceEqDiff] at hset
    exact step11
  obtain ⟨z, hp', h1, rfl, g', cs', h2⟩ := key
  exact ⟨hp', g', cs', h1, h2⟩
set_option maxHeartbeats 8000000 in
theorem h39_li4 (s : MS) (g n : Nat) (ws : List Int) (inp : ByteArray) (RD RK : List (List AV)) (cs : List Int) (v : Nat) (hv : v ≤ 65535) (d : Nat) (hp1 : Hp)
    (hx : hp1 ⟨0, 13, 0⟩ = .box 1 (bxc s g n ws inp) false) (ho : hp1 ⟨0, 13, 23⟩ = .arr g 1 5 (rowB s.out) false) (hc : hp1 ⟨0, 13, 24⟩ = .arr 2 4 119 RD false) (hcl : RD.length = n) (hcp : RD[s.pc]? = some [iv 1, iv 4, iv 0, iv v])
    (hk : hp1 ⟨0, 13, 25⟩ = .arr 2 1 4 RK false) (hkl : RK.length = n) (hkp : RK[s.pc]? = some [bv true]) (hn : hp1 ⟨0, 13, 28⟩ = .arr 2 1 3 (rowI cs) false) (hnl : cs.length = n) (hpc : s.pc < n) (hn1 : n ≤ 100000) (hst : s.steps ≤ 100000) :
    ∃ hp' g' cs', (lim Tryz.prog E47 X47).hpc 0 d 162 [.ptr ⟨0, 13, 0⟩ 1 0] hp1 = some (.tup [], hp') ∧ Post { s with steps := s.steps + 1, R := setR s.R 4 v, pc := s.pc + 1 } g' n ws inp cs' hp1 hp' := by
  have key : ∃ z hp', (lim Tryz.prog E47 X47).hpc 0 d 162 [.ptr ⟨0, 13, 0⟩ 1 0] hp1 = some (z, hp') ∧ (z = .tup [] ∧ ∃ g' cs', Post { s with steps := s.steps + 1, R := setR s.R 4 v, pc := s.pc + 1 } g' n ws inp cs' hp1 hp') := by
    refine lim_hpcW (R := fun z hp' => z = .tup [] ∧ ∃ g' cs', Post { s with steps := s.steps + 1, R := setR s.R 4 v, pc := s.pc + 1 } g' n ws inp cs' hp1 hp') Tryz.func162 rfl rfl bodyOk_162 rfl rfl ?_
    obtain ⟨p, R, st, en, out⟩ := s
    simp only [bxc] at hx
    simp only at ho hcp hkp hpc hst
    have hst1 := wrapN (k := st) (by omega)
    have hp1' := wrapN (k := p) (by omega)
    have hcg : ∀ h, RD[p]'h = [iv 1, iv 4, iv 0, iv v] := fun h => by rw [List.getElem?_eq_getElem h] at hcp; exact Option.some.inj hcp
    have hkg : ∀ h, RK[p]'h = [bv true] := fun h => by rw [List.getElem?_eq_getElem h] at hkp; exact Option.some.inj hkp
    obtain ⟨cx, hcx⟩ : ∃ cx, cs[p]? = some cx := ⟨_, List.getElem?_eq_getElem (by omega)⟩
    have hRl : (rowI cs).length = n := by simp [hnl]
    have hRp : (rowI cs)[p]? = some [iv cx] := by rw [List.getElem?_map, hcx]; rfl
    have hRg : ∀ h, (rowI cs)[p]'h = [iv cx] := fun h => by rw [List.getElem?_eq_getElem h] at hRp; exact Option.some.inj hRp
    have hRs := rowI_set cs p (IntKind.i64.wrap (cx + 1))
    have hcsl : (cs.set p (IntKind.i64.wrap (cx + 1))).length = n := by simp [hnl]
    have hHP := Lib.hid (⟨rfl, rfl⟩ : hp1 = hp1 ∧ cs.set p (IntKind.i64.wrap (cx + 1)) = cs.set p (IntKind.i64.wrap (cx + 1)))
    generalize cs.set p (IntKind.i64.wrap (cx + 1)) = cs' at hRs hcsl
    generalize rowI cs = RN at hn hRl hRp hRg hRs
    clear hcx hnl
    have hpI : ¬ (n : Int) ≤ p := by omega
    have hp0' : ¬ (p : Int) < 0 := by omega
    have u0 : IntKind.u32.wrap (v : Int) = v := by rw [IntKind.wrap_u32]; omega
    have hset := fun d hp => h44_4 v ⟨p, R, st + 1, en, out⟩ g n ws inp (by simp only; omega) d hp
    simp only [bxc, setR, Int.natCast_add, Int.cast_ofNat_Int, reduceIte, Nat.reduceEqDiff] at hset
    exact step11
  obtain ⟨z, hp', h1, rfl, g', cs', h2⟩ := key
  exact ⟨hp', g', cs', h1, h2⟩
set_option maxHeartbeats 8000000 in
theorem h39_mov (s : MS) (g n : Nat) (ws : List Int) (inp : ByteArray) (RD RK : List (List AV)) (cs : List Int)  (d : Nat) (hp1 : Hp)
    (hx : hp1 ⟨0, 13, 0⟩ = .box 1 (bxc s g n ws inp) false) (ho : hp1 ⟨0, 13, 23⟩ = .arr g 1 5 (rowB s.out) false) (hc : hp1 ⟨0, 13, 24⟩ = .arr 2 4 119 RD false) (hcl : RD.length = n) (hcp : RD[s.pc]? = some [iv 3, iv 2, iv 4, iv 0])
    (hk : hp1 ⟨0, 13, 25⟩ = .arr 2 1 4 RK false) (hkl : RK.length = n) (hkp : RK[s.pc]? = some [bv true]) (hn : hp1 ⟨0, 13, 28⟩ = .arr 2 1 3 (rowI cs) false) (hnl : cs.length = n) (hpc : s.pc < n) (hn1 : n ≤ 100000) (hst : s.steps ≤ 100000) :
    ∃ hp' g' cs', (lim Tryz.prog E47 X47).hpc 0 d 162 [.ptr ⟨0, 13, 0⟩ 1 0] hp1 = some (.tup [], hp') ∧ Post { s with steps := s.steps + 1, R := setR s.R 2 (s.R 4), pc := s.pc + 1 } g' n ws inp cs' hp1 hp' := by
  have key : ∃ z hp', (lim Tryz.prog E47 X47).hpc 0 d 162 [.ptr ⟨0, 13, 0⟩ 1 0] hp1 = some (z, hp') ∧ (z = .tup [] ∧ ∃ g' cs', Post { s with steps := s.steps + 1, R := setR s.R 2 (s.R 4), pc := s.pc + 1 } g' n ws inp cs' hp1 hp') := by
    refine lim_hpcW (R := fun z hp' => z = .tup [] ∧ ∃ g' cs', Post { s with steps := s.steps + 1, R := setR s.R 2 (s.R 4), pc := s.pc + 1 } g' n ws inp cs' hp1 hp') Tryz.func162 rfl rfl bodyOk_162 rfl rfl ?_
    obtain ⟨p, R, st, en, out⟩ := s
    simp only [bxc] at hx
    simp only at ho hcp hkp hpc hst
    have hst1 := wrapN (k := st) (by omega)
    have hp1' := wrapN (k := p) (by omega)
    have hcg : ∀ h, RD[p]'h = [iv 3, iv 2, iv 4, iv 0] := fun h => by rw [List.getElem?_eq_getElem h] at hcp; exact Option.some.inj hcp
    have hkg : ∀ h, RK[p]'h = [bv true] := fun h => by rw [List.getElem?_eq_getElem h] at hkp; exact Option.some.inj hkp
    obtain ⟨cx, hcx⟩ : ∃ cx, cs[p]? = some cx := ⟨_, List.getElem?_eq_getElem (by omega)⟩
    have hRl : (rowI cs).length = n := by simp [hnl]
    have hRp : (rowI cs)[p]? = some [iv cx] := by rw [List.getElem?_map, hcx]; rfl
    have hRg : ∀ h, (rowI cs)[p]'h = [iv cx] := fun h => by rw [List.getElem?_eq_getElem h] at hRp; exact Option.some.inj hRp
    have hRs := rowI_set cs p (IntKind.i64.wrap (cx + 1))
    have hcsl : (cs.set p (IntKind.i64.wrap (cx + 1))).length = n := by simp [hnl]
    have hHP := Lib.hid (⟨rfl, rfl⟩ : hp1 = hp1 ∧ cs.set p (IntKind.i64.wrap (cx + 1)) = cs.set p (IntKind.i64.wrap (cx + 1)))
    generalize cs.set p (IntKind.i64.wrap (cx + 1)) = cs' at hRs hcsl
    generalize rowI cs = RN at hn hRl hRp hRg hRs
    clear hcx hnl
    have hpI : ¬ (n : Int) ≤ p := by omega
    have hp0' : ¬ (p : Int) < 0 := by omega
    have hset := fun d hp => h44_2 (R 4) ⟨p, R, st + 1, en, out⟩ g n ws inp (by simp only; omega) d hp
    simp only [bxc, setR, Int.natCast_add, Int.cast_ofNat_Int, reduceIte, Nat.reduceEqDiff] at hset
    exact step11
  obtain ⟨z, hp', h1, rfl, g', cs', h2⟩ := key
  exact ⟨hp', g', cs', h1, h2⟩
set_option maxHeartbeats 8000000 in
theorem h39_call (s : MS) (g n : Nat) (ws : List Int) (inp : ByteArray) (RD RK : List (List AV)) (cs : List Int)  (d : Nat) (hp1 : Hp)
    (hx : hp1 ⟨0, 13, 0⟩ = .box 1 (bxc s g n ws inp) false) (ho : hp1 ⟨0, 13, 23⟩ = .arr g 1 5 (rowB s.out) false) (hc : hp1 ⟨0, 13, 24⟩ = .arr 2 4 119 RD false) (hcl : RD.length = n) (hcp : RD[s.pc]? = some [iv 21, iv 15, iv 0, iv 19])
    (hk : hp1 ⟨0, 13, 25⟩ = .arr 2 1 4 RK false) (hkl : RK.length = n) (hkp : RK[s.pc]? = some [bv true]) (hn : hp1 ⟨0, 13, 28⟩ = .arr 2 1 3 (rowI cs) false) (hnl : cs.length = n) (hpc : s.pc < n) (hn1 : n ≤ 100000) (hst : s.steps ≤ 100000) :
    ∃ hp' g' cs', (lim Tryz.prog E47 X47).hpc 0 d 162 [.ptr ⟨0, 13, 0⟩ 1 0] hp1 = some (.tup [], hp') ∧ Post { s with steps := s.steps + 1, R := setR s.R 15 (s.pc + 1), pc := 19 } g' n ws inp cs' hp1 hp' := by
  have key : ∃ z hp', (lim Tryz.prog E47 X47).hpc 0 d 162 [.ptr ⟨0, 13, 0⟩ 1 0] hp1 = some (z, hp') ∧ (z = .tup [] ∧ ∃ g' cs', Post { s with steps := s.steps + 1, R := setR s.R 15 (s.pc + 1), pc := 19 } g' n ws inp cs' hp1 hp') := by
    refine lim_hpcW (R := fun z hp' => z = .tup [] ∧ ∃ g' cs', Post { s with steps := s.steps + 1, R := setR s.R 15 (s.pc + 1), pc := 19 } g' n ws inp cs' hp1 hp') Tryz.func162 rfl rfl bodyOk_162 rfl rfl ?_
    obtain ⟨p, R, st, en, out⟩ := s
    simp only [bxc] at hx
    simp only at ho hcp hkp hpc hst
    have hst1 := wrapN (k := st) (by omega)
    have hp1' := wrapN (k := p) (by omega)
    have hcg : ∀ h, RD[p]'h = [iv 21, iv 15, iv 0, iv 19] := fun h => by rw [List.getElem?_eq_getElem h] at hcp; exact Option.some.inj hcp
    have hkg : ∀ h, RK[p]'h = [bv true] := fun h => by rw [List.getElem?_eq_getElem h] at hkp; exact Option.some.inj hkp
    obtain ⟨cx, hcx⟩ : ∃ cx, cs[p]? = some cx := ⟨_, List.getElem?_eq_getElem (by omega)⟩
    have hRl : (rowI cs).length = n := by simp [hnl]
    have hRp : (rowI cs)[p]? = some [iv cx] := by rw [List.getElem?_map, hcx]; rfl
    have hRg : ∀ h, (rowI cs)[p]'h = [iv cx] := fun h => by rw [List.getElem?_eq_getElem h] at hRp; exact Option.some.inj hRp
    have hRs := rowI_set cs p (IntKind.i64.wrap (cx + 1))
    have hcsl : (cs.set p (IntKind.i64.wrap (cx + 1))).length = n := by simp [hnl]
    have hHP := Lib.hid (⟨rfl, rfl⟩ : hp1 = hp1 ∧ cs.set p (IntKind.i64.wrap (cx + 1)) = cs.set p (IntKind.i64.wrap (cx + 1)))
    generalize cs.set p (IntKind.i64.wrap (cx + 1)) = cs' at hRs hcsl
    generalize rowI cs = RN at hn hRl hRp hRg hRs
    clear hcx hnl
    have hpI : ¬ (n : Int) ≤ p := by omega
    have hp0' : ¬ (p : Int) < 0 := by omega
    have u0 : IntKind.u32.wrap (p : Int) = p := by rw [IntKind.wrap_u32]; omega
    have u1 : IntKind.u32.wrap ((p : Int) + 1) = (p : Int) + 1 := by rw [IntKind.wrap_u32]; omega
    exact step11
  obtain ⟨z, hp', h1, rfl, g', cs', h2⟩ := key
  exact ⟨hp', g', cs', h1, h2⟩
set_option maxHeartbeats 8000000 in
theorem h39_ret (s : MS) (g n : Nat) (ws : List Int) (inp : ByteArray) (RD RK : List (List AV)) (cs : List Int) (q : Nat) (hq : s.R 15 = q) (hq1 : q ≤ 100000) (d : Nat) (hp1 : Hp)
    (hx : hp1 ⟨0, 13, 0⟩ = .box 1 (bxc s g n ws inp) false) (ho : hp1 ⟨0, 13, 23⟩ = .arr g 1 5 (rowB s.out) false) (hc : hp1 ⟨0, 13, 24⟩ = .arr 2 4 119 RD false) (hcl : RD.length = n) (hcp : RD[s.pc]? = some [iv 22, iv 15, iv 0, iv 0])
    (hk : hp1 ⟨0, 13, 25⟩ = .arr 2 1 4 RK false) (hkl : RK.length = n) (hkp : RK[s.pc]? = some [bv true]) (hn : hp1 ⟨0, 13, 28⟩ = .arr 2 1 3 (rowI cs) false) (hnl : cs.length = n) (hpc : s.pc < n) (hn1 : n ≤ 100000) (hst : s.steps ≤ 100000) :
    ∃ hp' g' cs', (lim Tryz.prog E47 X47).hpc 0 d 162 [.ptr ⟨0, 13, 0⟩ 1 0] hp1 = some (.tup [], hp') ∧ Post { s with steps := s.steps + 1, pc := q } g' n ws inp cs' hp1 hp' := by
  have key : ∃ z hp', (lim Tryz.prog E47 X47).hpc 0 d 162 [.ptr ⟨0, 13, 0⟩ 1 0] hp1 = some (z, hp') ∧ (z = .tup [] ∧ ∃ g' cs', Post { s with steps := s.steps + 1, pc := q } g' n ws inp cs' hp1 hp') := by
    refine lim_hpcW (R := fun z hp' => z = .tup [] ∧ ∃ g' cs', Post { s with steps := s.steps + 1, pc := q } g' n ws inp cs' hp1 hp') Tryz.func162 rfl rfl bodyOk_162 rfl rfl ?_
    obtain ⟨p, R, st, en, out⟩ := s
    simp only [bxc] at hx
    simp only at ho hcp hkp hpc hst
    have hst1 := wrapN (k := st) (by omega)
    have hp1' := wrapN (k := p) (by omega)
    have hcg : ∀ h, RD[p]'h = [iv 22, iv 15, iv 0, iv 0] := fun h => by rw [List.getElem?_eq_getElem h] at hcp; exact Option.some.inj hcp
    have hkg : ∀ h, RK[p]'h = [bv true] := fun h => by rw [List.getElem?_eq_getElem h] at hkp; exact Option.some.inj hkp
    obtain ⟨cx, hcx⟩ : ∃ cx, cs[p]? = some cx := ⟨_, List.getElem?_eq_getElem (by omega)⟩
    have hRl : (rowI cs).length = n := by simp [hnl]
    have hRp : (rowI cs)[p]? = some [iv cx] := by rw [List.getElem?_map, hcx]; rfl
    have hRg : ∀ h, (rowI cs)[p]'h = [iv cx] := fun h => by rw [List.getElem?_eq_getElem h] at hRp; exact Option.some.inj hRp
    have hRs := rowI_set cs p (IntKind.i64.wrap (cx + 1))
    have hcsl : (cs.set p (IntKind.i64.wrap (cx + 1))).length = n := by simp [hnl]
    have hHP := Lib.hid (⟨rfl, rfl⟩ : hp1 = hp1 ∧ cs.set p (IntKind.i64.wrap (cx + 1)) = cs.set p (IntKind.i64.wrap (cx + 1)))
    generalize cs.set p (IntKind.i64.wrap (cx + 1)) = cs' at hRs hcsl
    generalize rowI cs = RN at hn hRl hRp hRg hRs
    clear hcx hnl
    have hpI : ¬ (n : Int) ≤ p := by omega
    have hp0' : ¬ (p : Int) < 0 := by omega
    simp only at hq
    have u0 : IntKind.i64.wrap (q : Int) = q := wrap64 (by omega) (by omega)
    exact step11
  obtain ⟨z, hp', h1, rfl, g', cs', h2⟩ := key
  exact ⟨hp', g', cs', h1, h2⟩
end Go.Proofs.YtaeeffddinppeaaGreatDoor
namespace Go.Proofs.YtaeeffddinppeaaGreatDoor
open Go Go.Ab
attribute [-simp] Prog.bind getCs putCs
attribute [local simp ↓] run_bind
attribute [local simp ↓] runF_bind
attribute [local simp] run_getCsN runF_getCsN facetsC putCs_one run_putCsN
set_option maxHeartbeats 8000000 in
theorem h39_halt (s : MS) (g n : Nat) (ws : List Int) (inp : ByteArray) (RD RK : List (List AV)) (cs : List Int)  (d : Nat) (hp1 : Hp)
    (hx : hp1 ⟨0, 13, 0⟩ = .box 1 (bxc s g n ws inp) false) (ho : hp1 ⟨0, 13, 23⟩ = .arr g 1 5 (rowB s.out) false) (hc : hp1 ⟨0, 13, 24⟩ = .arr 2 4 119 RD false) (hcl : RD.length = n) (hcp : RD[s.pc]? = some [iv 26, iv 0, iv 0, iv 0])
    (hk : hp1 ⟨0, 13, 25⟩ = .arr 2 1 4 RK false) (hkl : RK.length = n) (hkp : RK[s.pc]? = some [bv true]) (hn : hp1 ⟨0, 13, 28⟩ = .arr 2 1 3 (rowI cs) false) (hnl : cs.length = n) (hpc : s.pc < n) (hn1 : n ≤ 100000) (hst : s.steps ≤ 100000) :
    ∃ hp' g' cs', (lim Tryz.prog E47 X47).hpc 0 d 162 [.ptr ⟨0, 13, 0⟩ 1 0] hp1 = some (.tup [], hp') ∧ Post { s with steps := s.steps + 1, en := 1 } g' n ws inp cs' hp1 hp' := by
  have key : ∃ z hp', (lim Tryz.prog E47 X47).hpc 0 d 162 [.ptr ⟨0, 13, 0⟩ 1 0] hp1 = some (z, hp') ∧ (z = .tup [] ∧ ∃ g' cs', Post { s with steps := s.steps + 1, en := 1 } g' n ws inp cs' hp1 hp') := by
    refine lim_hpcW (R := fun z hp' => z = .tup [] ∧ ∃ g' cs', Post { s with steps := s.steps + 1, en := 1 } g' n ws inp cs' hp1 hp') Tryz.func162 rfl rfl bodyOk_162 rfl rfl ?_
    obtain ⟨p, R, st, en, out⟩ := s
    simp only [bxc] at hx
    simp only at ho hcp hkp hpc hst
    have hst1 := wrapN (k := st) (by omega)
    have hp1' := wrapN (k := p) (by omega)
    have hcg : ∀ h, RD[p]'h = [iv 26, iv 0, iv 0, iv 0] := fun h => by rw [List.getElem?_eq_getElem h] at hcp; exact Option.some.inj hcp
    have hkg : ∀ h, RK[p]'h = [bv true] := fun h => by rw [List.getElem?_eq_getElem h] at hkp; exact Option.some.inj hkp
    obtain ⟨cx, hcx⟩ : ∃ cx, cs[p]? = some cx := ⟨_, List.getElem?_eq_getElem (by omega)⟩
    have hRl : (rowI cs).length = n := by simp [hnl]
    have hRp : (rowI cs)[p]? = some [iv cx] := by rw [List.getElem?_map, hcx]; rfl
    have hRg : ∀ h, (rowI cs)[p]'h = [iv cx] := fun h => by rw [List.getElem?_eq_getElem h] at hRp; exact Option.some.inj hRp
    have hRs := rowI_set cs p (IntKind.i64.wrap (cx + 1))
    have hcsl : (cs.set p (IntKind.i64.wrap (cx + 1))).length = n := by simp [hnl]
    have hHP := Lib.hid (⟨rfl, rfl⟩ : hp1 = hp1 ∧ cs.set p (IntKind.i64.wrap (cx + 1)) = cs.set p (IntKind.i64.wrap (cx + 1)))
    generalize cs.set p (IntKind.i64.wrap (cx + 1)) = cs' at hRs hcsl
    generalize rowI cs = RN at hn hRl hRp hRg hRs
    clear hcx hnl
    have hpI : ¬ (n : Int) ≤ p := by omega
    have hp0' : ¬ (p : Int) < 0 := by omega
    exact step11
  obtain ⟨z, hp', h1, rfl, g', cs', h2⟩ := key
  exact ⟨hp', g', cs', h1, h2⟩
set_option maxHeartbeats 8000000 in
theorem h39_ldc (s : MS) (g n : Nat) (ws : List Int) (inp : ByteArray) (RD RK : List (List AV)) (cs : List Int) (j : Nat) (hj : s.R 3 = j) (hjl : j < ws.length) (hwl : ws.length ≤ 100000) (d : Nat) (hp1 : Hp)
    (hx : hp1 ⟨0, 13, 0⟩ = .box 1 (bxc s g n ws inp) false) (ho : hp1 ⟨0, 13, 23⟩ = .arr g 1 5 (rowB s.out) false) (hc : hp1 ⟨0, 13, 24⟩ = .arr 2 4 119 RD false) (hcl : RD.length = n) (hcp : RD[s.pc]? = some [iv 27, iv 2, iv 3, iv 0])
    (hk : hp1 ⟨0, 13, 25⟩ = .arr 2 1 4 RK false) (hkl : RK.length = n) (hkp : RK[s.pc]? = some [bv true]) (hn : hp1 ⟨0, 13, 28⟩ = .arr 2 1 3 (rowI cs) false) (hnl : cs.length = n) (hpc : s.pc < n) (hn1 : n ≤ 100000) (hst : s.steps ≤ 100000) :
    ∃ hp' g' cs', (lim Tryz.prog E47 X47).hpc 0 d 162 [.ptr ⟨0, 13, 0⟩ 1 0] hp1 = some (.tup [], hp') ∧ Post { s with steps := s.steps + 1, R := setR s.R 2 ws[j], pc := s.pc + 1 } g' n ws inp cs' hp1 hp' := by
  have key : ∃ z hp', (lim Tryz.prog E47 X47).hpc 0 d 162 [.ptr ⟨0, 13, 0⟩ 1 0] hp1 = some (z, hp') ∧ (z = .tup [] ∧ ∃ g' cs', Post { s with steps := s.steps + 1, R := setR s.R 2 ws[j], pc := s.pc + 1 } g' n ws inp cs' hp1 hp') := by
    refine lim_hpcW (R := fun z hp' => z = .tup [] ∧ ∃ g' cs', Post { s with steps := s.steps + 1, R := setR s.R 2 ws[j], pc := s.pc + 1 } g' n ws inp cs' hp1 hp') Tryz.func162 rfl rfl bodyOk_162 rfl rfl ?_
    obtain ⟨p, R, st, en, out⟩ := s
    simp only [bxc] at hx
    simp only at ho hcp hkp hpc hst
    have hst1 := wrapN (k := st) (by omega)
    have hp1' := wrapN (k := p) (by omega)
    have hcg : ∀ h, RD[p]'h = [iv 27, iv 2, iv 3, iv 0] := fun h => by rw [List.getElem?_eq_getElem h] at hcp; exact Option.some.inj hcp
    have hkg : ∀ h, RK[p]'h = [bv true] := fun h => by rw [List.getElem?_eq_getElem h] at hkp; exact Option.some.inj hkp
    obtain ⟨cx, hcx⟩ : ∃ cx, cs[p]? = some cx := ⟨_, List.getElem?_eq_getElem (by omega)⟩
    have hRl : (rowI cs).length = n := by simp [hnl]
    have hRp : (rowI cs)[p]? = some [iv cx] := by rw [List.getElem?_map, hcx]; rfl
    have hRg : ∀ h, (rowI cs)[p]'h = [iv cx] := fun h => by rw [List.getElem?_eq_getElem h] at hRp; exact Option.some.inj hRp
    have hRs := rowI_set cs p (IntKind.i64.wrap (cx + 1))
    have hcsl : (cs.set p (IntKind.i64.wrap (cx + 1))).length = n := by simp [hnl]
    have hHP := Lib.hid (⟨rfl, rfl⟩ : hp1 = hp1 ∧ cs.set p (IntKind.i64.wrap (cx + 1)) = cs.set p (IntKind.i64.wrap (cx + 1)))
    generalize cs.set p (IntKind.i64.wrap (cx + 1)) = cs' at hRs hcsl
    generalize rowI cs = RN at hn hRl hRp hRg hRs
    clear hcx hnl
    have hpI : ¬ (n : Int) ≤ p := by omega
    have hp0' : ¬ (p : Int) < 0 := by omega
    simp only at hj
    have h45 := d45 ws j (by omega) hjl
    have hset := fun d hp => h44_2 ws[j] ⟨p, R, st + 1, en, out⟩ g n ws inp (by simp only; omega) d hp
    simp only [bxc, setR, Int.natCast_add, Int.cast_ofNat_Int, reduceIte, Nat.reduceEqDiff] at hset
    exact step11
  obtain ⟨z, hp', h1, rfl, g', cs', h2⟩ := key
  exact ⟨hp', g', cs', h1, h2⟩
set_option maxHeartbeats 8000000 in
theorem h39_add (s : MS) (g n : Nat) (ws : List Int) (inp : ByteArray) (RD RK : List (List AV)) (cs : List Int) (h3 : U (s.R 3)) (h7 : U (s.R 7)) (d : Nat) (hp1 : Hp)
    (hx : hp1 ⟨0, 13, 0⟩ = .box 1 (bxc s g n ws inp) false) (ho : hp1 ⟨0, 13, 23⟩ = .arr g 1 5 (rowB s.out) false) (hc : hp1 ⟨0, 13, 24⟩ = .arr 2 4 119 RD false) (hcl : RD.length = n) (hcp : RD[s.pc]? = some [iv 4, iv 3, iv 3, iv 7])
    (hk : hp1 ⟨0, 13, 25⟩ = .arr 2 1 4 RK false) (hkl : RK.length = n) (hkp : RK[s.pc]? = some [bv true]) (hn : hp1 ⟨0, 13, 28⟩ = .arr 2 1 3 (rowI cs) false) (hnl : cs.length = n) (hpc : s.pc < n) (hn1 : n ≤ 100000) (hst : s.steps ≤ 100000) :
    ∃ hp' g' cs', (lim Tryz.prog E47 X47).hpc 0 d 162 [.ptr ⟨0, 13, 0⟩ 1 0] hp1 = some (.tup [], hp') ∧ Post { s with steps := s.steps + 1, R := setR s.R 3 ((s.R 3 + s.R 7) % 4294967296), pc := s.pc + 1 } g' n ws inp cs' hp1 hp' := by
  have key : ∃ z hp', (lim Tryz.prog E47 X47).hpc 0 d 162 [.ptr ⟨0, 13, 0⟩ 1 0] hp1 = some (z, hp') ∧ (z = .tup [] ∧ ∃ g' cs', Post { s with steps := s.steps + 1, R := setR s.R 3 ((s.R 3 + s.R 7) % 4294967296), pc := s.pc + 1 } g' n ws inp cs' hp1 hp') := by
    refine lim_hpcW (R := fun z hp' => z = .tup [] ∧ ∃ g' cs', Post { s with steps := s.steps + 1, R := setR s.R 3 ((s.R 3 + s.R 7) % 4294967296), pc := s.pc + 1 } g' n ws inp cs' hp1 hp') Tryz.func162 rfl rfl bodyOk_162 rfl rfl ?_
    obtain ⟨p, R, st, en, out⟩ := s
    simp only [bxc] at hx
    simp only at ho hcp hkp hpc hst
    have hst1 := wrapN (k := st) (by omega)
    have hp1' := wrapN (k := p) (by omega)
    have hcg : ∀ h, RD[p]'h = [iv 4, iv 3, iv 3, iv 7] := fun h => by rw [List.getElem?_eq_getElem h] at hcp; exact Option.some.inj hcp
    have hkg : ∀ h, RK[p]'h = [bv true] := fun h => by rw [List.getElem?_eq_getElem h] at hkp; exact Option.some.inj hkp
    obtain ⟨cx, hcx⟩ : ∃ cx, cs[p]? = some cx := ⟨_, List.getElem?_eq_getElem (by omega)⟩
    have hRl : (rowI cs).length = n := by simp [hnl]
    have hRp : (rowI cs)[p]? = some [iv cx] := by rw [List.getElem?_map, hcx]; rfl
    have hRg : ∀ h, (rowI cs)[p]'h = [iv cx] := fun h => by rw [List.getElem?_eq_getElem h] at hRp; exact Option.some.inj hRp
    have hRs := rowI_set cs p (IntKind.i64.wrap (cx + 1))
    have hcsl : (cs.set p (IntKind.i64.wrap (cx + 1))).length = n := by simp [hnl]
    have hHP := Lib.hid (⟨rfl, rfl⟩ : hp1 = hp1 ∧ cs.set p (IntKind.i64.wrap (cx + 1)) = cs.set p (IntKind.i64.wrap (cx + 1)))
    generalize cs.set p (IntKind.i64.wrap (cx + 1)) = cs' at hRs hcsl
    generalize rowI cs = RN at hn hRl hRp hRg hRs
    clear hcx hnl
    have hpI : ¬ (n : Int) ≤ p := by omega
    have hp0' : ¬ (p : Int) < 0 := by omega
    have h47 := d47_4 (R 3) (R 7) h3 h7
    have hset := fun d hp => h44_3 ((R 3 + R 7) % 4294967296) ⟨p, R, st + 1, en, out⟩ g n ws inp (by simp only; omega) d hp
    simp only [bxc, setR, Int.natCast_add, Int.cast_ofNat_Int, reduceIte, Nat.reduceEqDiff] at hset
    exact step11
  obtain ⟨z, hp', h1, rfl, g', cs', h2⟩ := key
  exact ⟨hp', g', cs', h1, h2⟩
set_option maxHeartbeats 8000000 in
theorem h39_lt (s : MS) (g n : Nat) (ws : List Int) (inp : ByteArray) (RD RK : List (List AV)) (cs : List Int) (h3 : U (s.R 3)) (h4 : U (s.R 4)) (d : Nat) (hp1 : Hp)
    (hx : hp1 ⟨0, 13, 0⟩ = .box 1 (bxc s g n ws inp) false) (ho : hp1 ⟨0, 13, 23⟩ = .arr g 1 5 (rowB s.out) false) (hc : hp1 ⟨0, 13, 24⟩ = .arr 2 4 119 RD false) (hcl : RD.length = n) (hcp : RD[s.pc]? = some [iv 14, iv 5, iv 3, iv 4])
    (hk : hp1 ⟨0, 13, 25⟩ = .arr 2 1 4 RK false) (hkl : RK.length = n) (hkp : RK[s.pc]? = some [bv true]) (hn : hp1 ⟨0, 13, 28⟩ = .arr 2 1 3 (rowI cs) false) (hnl : cs.length = n) (hpc : s.pc < n) (hn1 : n ≤ 100000) (hst : s.steps ≤ 100000) :
    ∃ hp' g' cs', (lim Tryz.prog E47 X47).hpc 0 d 162 [.ptr ⟨0, 13, 0⟩ 1 0] hp1 = some (.tup [], hp') ∧ Post { s with steps := s.steps + 1, R := setR s.R 5 (if s.R 3 < s.R 4 then 1 else 0), pc := s.pc + 1 } g' n ws inp cs' hp1 hp' := by
  have key : ∃ z hp', (lim Tryz.prog E47 X47).hpc 0 d 162 [.ptr ⟨0, 13, 0⟩ 1 0] hp1 = some (z, hp') ∧ (z = .tup [] ∧ ∃ g' cs', Post { s with steps := s.steps + 1, R := setR s.R 5 (if s.R 3 < s.R 4 then 1 else 0), pc := s.pc + 1 } g' n ws inp cs' hp1 hp') := by
    refine lim_hpcW (R := fun z hp' => z = .tup [] ∧ ∃ g' cs', Post { s with steps := s.steps + 1, R := setR s.R 5 (if s.R 3 < s.R 4 then 1 else 0), pc := s.pc + 1 } g' n ws inp cs' hp1 hp') Tryz.func162 rfl rfl bodyOk_162 rfl rfl ?_
    obtain ⟨p, R, st, en, out⟩ := s
    simp only [bxc] at hx
    simp only at ho hcp hkp hpc hst
    have hst1 := wrapN (k := st) (by omega)
    have hp1' := wrapN (k := p) (by omega)
    have hcg : ∀ h, RD[p]'h = [iv 14, iv 5, iv 3, iv 4] := fun h => by rw [List.getElem?_eq_getElem h] at hcp; exact Option.some.inj hcp
    have hkg : ∀ h, RK[p]'h = [bv true] := fun h => by rw [List.getElem?_eq_getElem h] at hkp; exact Option.some.inj hkp
    obtain ⟨cx, hcx⟩ : ∃ cx, cs[p]? = some cx := ⟨_, List.getElem?_eq_getElem (by omega)⟩
    have hRl : (rowI cs).length = n := by simp [hnl]
    have hRp : (rowI cs)[p]? = some [iv cx] := by rw [List.getElem?_map, hcx]; rfl
    have hRg : ∀ h, (rowI cs)[p]'h = [iv cx] := fun h => by rw [List.getElem?_eq_getElem h] at hRp; exact Option.some.inj hRp
    have hRs := rowI_set cs p (IntKind.i64.wrap (cx + 1))
    have hcsl : (cs.set p (IntKind.i64.wrap (cx + 1))).length = n := by simp [hnl]
    have hHP := Lib.hid (⟨rfl, rfl⟩ : hp1 = hp1 ∧ cs.set p (IntKind.i64.wrap (cx + 1)) = cs.set p (IntKind.i64.wrap (cx + 1)))
    generalize cs.set p (IntKind.i64.wrap (cx + 1)) = cs' at hRs hcsl
    generalize rowI cs = RN at hn hRl hRp hRg hRs
    clear hcx hnl
    have hpI : ¬ (n : Int) ≤ p := by omega
    have hp0' : ¬ (p : Int) < 0 := by omega
    have h47 := d47_14 (R 3) (R 4) h3 h4
    have hset := fun d hp => h44_5 (if R 3 < R 4 then 1 else 0) ⟨p, R, st + 1, en, out⟩ g n ws inp (by simp only; omega) d hp
    simp only [bxc, setR, Int.natCast_add, Int.cast_ofNat_Int, reduceIte, Nat.reduceEqDiff] at hset
    exact step11
  obtain ⟨z, hp', h1, rfl, g', cs', h2⟩ := key
  exact ⟨hp', g', cs', h1, h2⟩
set_option maxHeartbeats 8000000 in
theorem h39_shr (s : MS) (g n : Nat) (ws : List Int) (inp : ByteArray) (RD RK : List (List AV)) (cs : List Int) (h2 : U (s.R 2)) (h8 : s.R 8 = 8) (d : Nat) (hp1 : Hp)
    (hx : hp1 ⟨0, 13, 0⟩ = .box 1 (bxc s g n ws inp) false) (ho : hp1 ⟨0, 13, 23⟩ = .arr g 1 5 (rowB s.out) false) (hc : hp1 ⟨0, 13, 24⟩ = .arr 2 4 119 RD false) (hcl : RD.length = n) (hcp : RD[s.pc]? = some [iv 13, iv 2, iv 2, iv 8])
    (hk : hp1 ⟨0, 13, 25⟩ = .arr 2 1 4 RK false) (hkl : RK.length = n) (hkp : RK[s.pc]? = some [bv true]) (hn : hp1 ⟨0, 13, 28⟩ = .arr 2 1 3 (rowI cs) false) (hnl : cs.length = n) (hpc : s.pc < n) (hn1 : n ≤ 100000) (hst : s.steps ≤ 100000) :
    ∃ hp' g' cs', (lim Tryz.prog E47 X47).hpc 0 d 162 [.ptr ⟨0, 13, 0⟩ 1 0] hp1 = some (.tup [], hp') ∧ Post { s with steps := s.steps + 1, R := setR s.R 2 (s.R 2 / 256), pc := s.pc + 1 } g' n ws inp cs' hp1 hp' := by
  have key : ∃ z hp', (lim Tryz.prog E47 X47).hpc 0 d 162 [.ptr ⟨0, 13, 0⟩ 1 0] hp1 = some (z, hp') ∧ (z = .tup [] ∧ ∃ g' cs', Post { s with steps := s.steps + 1, R := setR s.R 2 (s.R 2 / 256), pc := s.pc + 1 } g' n ws inp cs' hp1 hp') := by
    refine lim_hpcW (R := fun z hp' => z = .tup [] ∧ ∃ g' cs', Post { s with steps := s.steps + 1, R := setR s.R 2 (s.R 2 / 256), pc := s.pc + 1 } g' n ws inp cs' hp1 hp') Tryz.func162 rfl rfl bodyOk_162 rfl rfl ?_
    obtain ⟨p, R, st, en, out⟩ := s
    simp only [bxc] at hx
    simp only at ho hcp hkp hpc hst
    have hst1 := wrapN (k := st) (by omega)
    have hp1' := wrapN (k := p) (by omega)
    have hcg : ∀ h, RD[p]'h = [iv 13, iv 2, iv 2, iv 8] := fun h => by rw [List.getElem?_eq_getElem h] at hcp; exact Option.some.inj hcp
    have hkg : ∀ h, RK[p]'h = [bv true] := fun h => by rw [List.getElem?_eq_getElem h] at hkp; exact Option.some.inj hkp
    obtain ⟨cx, hcx⟩ : ∃ cx, cs[p]? = some cx := ⟨_, List.getElem?_eq_getElem (by omega)⟩
    have hRl : (rowI cs).length = n := by simp [hnl]
    have hRp : (rowI cs)[p]? = some [iv cx] := by rw [List.getElem?_map, hcx]; rfl
    have hRg : ∀ h, (rowI cs)[p]'h = [iv cx] := fun h => by rw [List.getElem?_eq_getElem h] at hRp; exact Option.some.inj hRp
    have hRs := rowI_set cs p (IntKind.i64.wrap (cx + 1))
    have hcsl : (cs.set p (IntKind.i64.wrap (cx + 1))).length = n := by simp [hnl]
    have hHP := Lib.hid (⟨rfl, rfl⟩ : hp1 = hp1 ∧ cs.set p (IntKind.i64.wrap (cx + 1)) = cs.set p (IntKind.i64.wrap (cx + 1)))
    generalize cs.set p (IntKind.i64.wrap (cx + 1)) = cs' at hRs hcsl
    generalize rowI cs = RN at hn hRl hRp hRg hRs
    clear hcx hnl
    have hpI : ¬ (n : Int) ≤ p := by omega
    have hp0' : ¬ (p : Int) < 0 := by omega
    simp only at h8
    have h47 := d47_13 (R 2) h2
    have hset := fun d hp => h44_2 (R 2 / 256) ⟨p, R, st + 1, en, out⟩ g n ws inp (by simp only; omega) d hp
    simp only [bxc, setR, Int.natCast_add, Int.cast_ofNat_Int, reduceIte, Nat.reduceEqDiff] at hset
    exact step11
  obtain ⟨z, hp', h1, rfl, g', cs', h2⟩ := key
  exact ⟨hp', g', cs', h1, h2⟩
end Go.Proofs.YtaeeffddinppeaaGreatDoor
namespace Go.Proofs.YtaeeffddinppeaaGreatDoor
open Go Go.Ab
attribute [-simp] Prog.bind getCs putCs
attribute [local simp ↓] run_bind
attribute [local simp ↓] runF_bind
attribute [local simp] run_getCsN runF_getCsN facetsC putCs_one run_putCsN
set_option maxHeartbeats 8000000 in
theorem h39_jnz (s : MS) (g n : Nat) (ws : List Int) (inp : ByteArray) (RD RK : List (List AV)) (cs : List Int)  (d : Nat) (hp1 : Hp)
    (hx : hp1 ⟨0, 13, 0⟩ = .box 1 (bxc s g n ws inp) false) (ho : hp1 ⟨0, 13, 23⟩ = .arr g 1 5 (rowB s.out) false) (hc : hp1 ⟨0, 13, 24⟩ = .arr 2 4 119 RD false) (hcl : RD.length = n) (hcp : RD[s.pc]? = some [iv 20, iv 5, iv 0, iv 13])
    (hk : hp1 ⟨0, 13, 25⟩ = .arr 2 1 4 RK false) (hkl : RK.length = n) (hkp : RK[s.pc]? = some [bv true]) (hn : hp1 ⟨0, 13, 28⟩ = .arr 2 1 3 (rowI cs) false) (hnl : cs.length = n) (hpc : s.pc < n) (hn1 : n ≤ 100000) (hst : s.steps ≤ 100000) :
    ∃ hp' g' cs', (lim Tryz.prog E47 X47).hpc 0 d 162 [.ptr ⟨0, 13, 0⟩ 1 0] hp1 = some (.tup [], hp') ∧ Post { s with steps := s.steps + 1, pc := if s.R 5 ≠ 0 then 13 else s.pc + 1 } g' n ws inp cs' hp1 hp' := by
  have key : ∃ z hp', (lim Tryz.prog E47 X47).hpc 0 d 162 [.ptr ⟨0, 13, 0⟩ 1 0] hp1 = some (z, hp') ∧ (z = .tup [] ∧ ∃ g' cs', Post { s with steps := s.steps + 1, pc := if s.R 5 ≠ 0 then 13 else s.pc + 1 } g' n ws inp cs' hp1 hp') := by
    refine lim_hpcW (R := fun z hp' => z = .tup [] ∧ ∃ g' cs', Post { s with steps := s.steps + 1, pc := if s.R 5 ≠ 0 then 13 else s.pc + 1 } g' n ws inp cs' hp1 hp') Tryz.func162 rfl rfl bodyOk_162 rfl rfl ?_
    obtain ⟨p, R, st, en, out⟩ := s
    simp only [bxc] at hx
    simp only at ho hcp hkp hpc hst
    have hst1 := wrapN (k := st) (by omega)
    have hp1' := wrapN (k := p) (by omega)
    have hcg : ∀ h, RD[p]'h = [iv 20, iv 5, iv 0, iv 13] := fun h => by rw [List.getElem?_eq_getElem h] at hcp; exact Option.some.inj hcp
    have hkg : ∀ h, RK[p]'h = [bv true] := fun h => by rw [List.getElem?_eq_getElem h] at hkp; exact Option.some.inj hkp
    obtain ⟨cx, hcx⟩ : ∃ cx, cs[p]? = some cx := ⟨_, List.getElem?_eq_getElem (by omega)⟩
    have hRl : (rowI cs).length = n := by simp [hnl]
    have hRp : (rowI cs)[p]? = some [iv cx] := by rw [List.getElem?_map, hcx]; rfl
    have hRg : ∀ h, (rowI cs)[p]'h = [iv cx] := fun h => by rw [List.getElem?_eq_getElem h] at hRp; exact Option.some.inj hRp
    have hRs := rowI_set cs p (IntKind.i64.wrap (cx + 1))
    have hcsl : (cs.set p (IntKind.i64.wrap (cx + 1))).length = n := by simp [hnl]
    have hHP := Lib.hid (⟨rfl, rfl⟩ : hp1 = hp1 ∧ cs.set p (IntKind.i64.wrap (cx + 1)) = cs.set p (IntKind.i64.wrap (cx + 1)))
    generalize cs.set p (IntKind.i64.wrap (cx + 1)) = cs' at hRs hcsl
    generalize rowI cs = RN at hn hRl hRp hRg hRs
    clear hcx hnl
    have hpI : ¬ (n : Int) ≤ p := by omega
    have hp0' : ¬ (p : Int) < 0 := by omega
    have hset := fun d hp => h46 (R 5 != 0) 13 ⟨p, R, st + 1, en, out⟩ g n ws inp (by simp only; omega) d hp
    simp only [bxc, setR, Int.natCast_add, Int.cast_ofNat_Int, reduceIte, Nat.reduceEqDiff] at hset
    by_cases h5 : R 5 = 0
    all_goals first
      | have hb : (R 5 != 0) = false := by simp [h5]
      | have hb : (R 5 != 0) = true := by simp [h5]
    all_goals rw [hb] at hset
    all_goals simp only [if_true, Bool.false_eq_true, if_false] at hset
    all_goals exact step11
  obtain ⟨z, hp', h1, rfl, g', cs', h2⟩ := key
  exact ⟨hp', g', cs', h1, h2⟩
set_option maxHeartbeats 8000000 in
theorem h39_put1 (s : MS) (g n : Nat) (ws : List Int) (inp : ByteArray) (RD RK : List (List AV)) (cs : List Int) (ho1 : s.out.length ≤ 65535) (hr : 0 ≤ s.R 1) (d : Nat) (hp1 : Hp)
    (hx : hp1 ⟨0, 13, 0⟩ = .box 1 (bxc s g n ws inp) false) (ho : hp1 ⟨0, 13, 23⟩ = .arr g 1 5 (rowB s.out) false) (hc : hp1 ⟨0, 13, 24⟩ = .arr 2 4 119 RD false) (hcl : RD.length = n) (hcp : RD[s.pc]? = some [iv 24, iv 1, iv 0, iv 0])
    (hk : hp1 ⟨0, 13, 25⟩ = .arr 2 1 4 RK false) (hkl : RK.length = n) (hkp : RK[s.pc]? = some [bv true]) (hn : hp1 ⟨0, 13, 28⟩ = .arr 2 1 3 (rowI cs) false) (hnl : cs.length = n) (hpc : s.pc < n) (hn1 : n ≤ 100000) (hst : s.steps ≤ 100000) :
    ∃ hp' g' cs', (lim Tryz.prog E47 X47).hpc 0 d 162 [.ptr ⟨0, 13, 0⟩ 1 0] hp1 = some (.tup [], hp') ∧ Post { s with steps := s.steps + 1, out := s.out ++ [s.R 1 % 256], pc := s.pc + 1 } g' n ws inp cs' hp1 hp' := by
  have key : ∃ z hp', (lim Tryz.prog E47 X47).hpc 0 d 162 [.ptr ⟨0, 13, 0⟩ 1 0] hp1 = some (z, hp') ∧ (z = .tup [] ∧ ∃ g' cs', Post { s with steps := s.steps + 1, out := s.out ++ [s.R 1 % 256], pc := s.pc + 1 } g' n ws inp cs' hp1 hp') := by
    refine lim_hpcW (R := fun z hp' => z = .tup [] ∧ ∃ g' cs', Post { s with steps := s.steps + 1, out := s.out ++ [s.R 1 % 256], pc := s.pc + 1 } g' n ws inp cs' hp1 hp') Tryz.func162 rfl rfl bodyOk_162 rfl rfl ?_
    obtain ⟨p, R, st, en, out⟩ := s
    simp only [bxc] at hx
    simp only at ho hcp hkp hpc hst
    have hst1 := wrapN (k := st) (by omega)
    have hp1' := wrapN (k := p) (by omega)
    have hcg : ∀ h, RD[p]'h = [iv 24, iv 1, iv 0, iv 0] := fun h => by rw [List.getElem?_eq_getElem h] at hcp; exact Option.some.inj hcp
    have hkg : ∀ h, RK[p]'h = [bv true] := fun h => by rw [List.getElem?_eq_getElem h] at hkp; exact Option.some.inj hkp
    obtain ⟨cx, hcx⟩ : ∃ cx, cs[p]? = some cx := ⟨_, List.getElem?_eq_getElem (by omega)⟩
    have hRl : (rowI cs).length = n := by simp [hnl]
    have hRp : (rowI cs)[p]? = some [iv cx] := by rw [List.getElem?_map, hcx]; rfl
    have hRg : ∀ h, (rowI cs)[p]'h = [iv cx] := fun h => by rw [List.getElem?_eq_getElem h] at hRp; exact Option.some.inj hRp
    have hRs := rowI_set cs p (IntKind.i64.wrap (cx + 1))
    have hcsl : (cs.set p (IntKind.i64.wrap (cx + 1))).length = n := by simp [hnl]
    have hHP := Lib.hid (⟨rfl, rfl⟩ : hp1 = hp1 ∧ cs.set p (IntKind.i64.wrap (cx + 1)) = cs.set p (IntKind.i64.wrap (cx + 1)))
    generalize cs.set p (IntKind.i64.wrap (cx + 1)) = cs' at hRs hcsl
    generalize rowI cs = RN at hn hRl hRp hRg hRs
    clear hcx hnl
    have hpI : ¬ (n : Int) ≤ p := by omega
    have hp0' : ¬ (p : Int) < 0 := by omega
    simp only at ho1 hr
    have u0 : (R 1).tmod 256 = R 1 % 256 := Int.tmod_eq_emod_of_nonneg hr
    have u1 : IntKind.u32.wrap (R 1 % 256) = R 1 % 256 := by rw [IntKind.wrap_u32]; omega
    have u2 : IntKind.u8.wrap (R 1 % 256) = R 1 % 256 := by rw [IntKind.wrap_u8]; omega
    have u3 : ¬ (65536 : Int) ≤ out.length := by omega
    have u4 : out.length + 1 ≤ 140737488355328 := by omega
    have u5 : out.length ≤ 9223372036854775806 := by omega
    have u6 : rowB out ++ [[.sc (.int .u8 (R 1 % 256))]] = snocB out (R 1 % 256) := by simp [snocB]
    repeat' (first | ((with_reducible first | apply Wo_u | apply Wo_n | apply ex2 | apply W_sc | apply W_c | apply Wd_u | apply Wd_n | apply ex4 | apply EndQ_ret | apply EndQ_normal); (conv => lhs; simp -implicitDefEqProofs [*]) <;> exact rfl) | (with_reducible first | apply Wo_nil | apply W_ss | apply W_srl | apply W_rl | apply W_sblock | apply W_block | apply W_sskip | apply W_skip | apply W_sret | apply W_ret | apply W_sexit | apply W_exit | apply thenW_n | apply thenW_r | apply thenW_e | apply inB_n | apply inB_r | apply inB_e) | ((with_reducible apply Wo_gt); (exact rfl); ((conv => lhs; simp -implicitDefEqProofs [*]) <;> exact rfl); (conv => lhs; simp -implicitDefEqProofs [*]) <;> exact rfl) | ((with_reducible apply Wo_gf); (exact rfl); ((conv => lhs; simp -implicitDefEqProofs [*]) <;> exact rfl); (exact rfl)) | ((with_reducible apply Wo_gx); (exact rfl); ((conv => lhs; simp -implicitDefEqProofs [*]) <;> exact rfl)) | ((with_reducible apply Wo_gsT); (exact rfl); ((conv => lhs; simp -implicitDefEqProofs [*]) <;> exact rfl)) | ((with_reducible apply Wo_gsF); (exact rfl); ((conv => lhs; simp -implicitDefEqProofs [*]) <;> exact rfl)) | ((with_reducible apply Wd_gsT); (exact rfl); ((conv => lhs; simp -implicitDefEqProofs [*]) <;> exact rfl)) | ((with_reducible apply Wd_gsF); (exact rfl); ((conv => lhs; simp -implicitDefEqProofs [*]) <;> exact rfl)) | ((with_reducible first | apply W_srdl | apply W_rdl); kernel_rfl) | ((with_reducible apply Wd_nil); exact rfl) | ((with_reducible apply inB_o); rotate_left; exact rfl) | (intro h h'; try simp [*, -h] at h'))
    all_goals clear u6
    all_goals exact ⟨by simp, _, _, rfl, rfl, g + 1, cs', by simp [bxc, setR, *], by simp [*, snocB], by simp [*], hcsl, fun y h0 h1 h2 h3 => (by have e1 : ∀ i, y ≠ ⟨1, i, 0⟩ := fun i e => (by subst e; simp at h0); simp [h1, h2, h3, e1])⟩
  obtain ⟨z, hp', h1, rfl, g', cs', h2⟩ := key
  exact ⟨hp', g', cs', h1, h2⟩
set_option maxHeartbeats 8000000 in
theorem h39_put2 (s : MS) (g n : Nat) (ws : List Int) (inp : ByteArray) (RD RK : List (List AV)) (cs : List Int) (ho1 : s.out.length ≤ 65535) (hr : 0 ≤ s.R 2) (d : Nat) (hp1 : Hp)
    (hx : hp1 ⟨0, 13, 0⟩ = .box 1 (bxc s g n ws inp) false) (ho : hp1 ⟨0, 13, 23⟩ = .arr g 1 5 (rowB s.out) false) (hc : hp1 ⟨0, 13, 24⟩ = .arr 2 4 119 RD false) (hcl : RD.length = n) (hcp : RD[s.pc]? = some [iv 24, iv 2, iv 0, iv 0])
    (hk : hp1 ⟨0, 13, 25⟩ = .arr 2 1 4 RK false) (hkl : RK.length = n) (hkp : RK[s.pc]? = some [bv true]) (hn : hp1 ⟨0, 13, 28⟩ = .arr 2 1 3 (rowI cs) false) (hnl : cs.length = n) (hpc : s.pc < n) (hn1 : n ≤ 100000) (hst : s.steps ≤ 100000) :
    ∃ hp' g' cs', (lim Tryz.prog E47 X47).hpc 0 d 162 [.ptr ⟨0, 13, 0⟩ 1 0] hp1 = some (.tup [], hp') ∧ Post { s with steps := s.steps + 1, out := s.out ++ [s.R 2 % 256], pc := s.pc + 1 } g' n ws inp cs' hp1 hp' := by
  have key : ∃ z hp', (lim Tryz.prog E47 X47).hpc 0 d 162 [.ptr ⟨0, 13, 0⟩ 1 0] hp1 = some (z, hp') ∧ (z = .tup [] ∧ ∃ g' cs', Post { s with steps := s.steps + 1, out := s.out ++ [s.R 2 % 256], pc := s.pc + 1 } g' n ws inp cs' hp1 hp') := by
    refine lim_hpcW (R := fun z hp' => z = .tup [] ∧ ∃ g' cs', Post { s with steps := s.steps + 1, out := s.out ++ [s.R 2 % 256], pc := s.pc + 1 } g' n ws inp cs' hp1 hp') Tryz.func162 rfl rfl bodyOk_162 rfl rfl ?_
    obtain ⟨p, R, st, en, out⟩ := s
    simp only [bxc] at hx
    simp only at ho hcp hkp hpc hst
    have hst1 := wrapN (k := st) (by omega)
    have hp1' := wrapN (k := p) (by omega)
    have hcg : ∀ h, RD[p]'h = [iv 24, iv 2, iv 0, iv 0] := fun h => by rw [List.getElem?_eq_getElem h] at hcp; exact Option.some.inj hcp
    have hkg : ∀ h, RK[p]'h = [bv true] := fun h => by rw [List.getElem?_eq_getElem h] at hkp; exact Option.some.inj hkp
    obtain ⟨cx, hcx⟩ : ∃ cx, cs[p]? = some cx := ⟨_, List.getElem?_eq_getElem (by omega)⟩
    have hRl : (rowI cs).length = n := by simp [hnl]
    have hRp : (rowI cs)[p]? = some [iv cx] := by rw [List.getElem?_map, hcx]; rfl
    have hRg : ∀ h, (rowI cs)[p]'h = [iv cx] := fun h => by rw [List.getElem?_eq_getElem h] at hRp; exact Option.some.inj hRp
    have hRs := rowI_set cs p (IntKind.i64.wrap (cx + 1))
    have hcsl : (cs.set p (IntKind.i64.wrap (cx + 1))).length = n := by simp [hnl]
    have hHP := Lib.hid (⟨rfl, rfl⟩ : hp1 = hp1 ∧ cs.set p (IntKind.i64.wrap (cx + 1)) = cs.set p (IntKind.i64.wrap (cx + 1)))
    generalize cs.set p (IntKind.i64.wrap (cx + 1)) = cs' at hRs hcsl
    generalize rowI cs = RN at hn hRl hRp hRg hRs
    clear hcx hnl
    have hpI : ¬ (n : Int) ≤ p := by omega
    have hp0' : ¬ (p : Int) < 0 := by omega
    simp only at ho1 hr
    have u0 : (R 2).tmod 256 = R 2 % 256 := Int.tmod_eq_emod_of_nonneg hr
    have u1 : IntKind.u32.wrap (R 2 % 256) = R 2 % 256 := by rw [IntKind.wrap_u32]; omega
    have u2 : IntKind.u8.wrap (R 2 % 256) = R 2 % 256 := by rw [IntKind.wrap_u8]; omega
    have u3 : ¬ (65536 : Int) ≤ out.length := by omega
    have u4 : out.length + 1 ≤ 140737488355328 := by omega
    have u5 : out.length ≤ 9223372036854775806 := by omega
    have u6 : rowB out ++ [[.sc (.int .u8 (R 2 % 256))]] = snocB out (R 2 % 256) := by simp [snocB]
    repeat' (first | ((with_reducible first | apply Wo_u | apply Wo_n | apply ex2 | apply W_sc | apply W_c | apply Wd_u | apply Wd_n | apply ex4 | apply EndQ_ret | apply EndQ_normal); (conv => lhs; simp -implicitDefEqProofs [*]) <;> exact rfl) | (with_reducible first | apply Wo_nil | apply W_ss | apply W_srl | apply W_rl | apply W_sblock | apply W_block | apply W_sskip | apply W_skip | apply W_sret | apply W_ret | apply W_sexit | apply W_exit | apply thenW_n | apply thenW_r | apply thenW_e | apply inB_n | apply inB_r | apply inB_e) | ((with_reducible apply Wo_gt); (exact rfl); ((conv => lhs; simp -implicitDefEqProofs [*]) <;> exact rfl); (conv => lhs; simp -implicitDefEqProofs [*]) <;> exact rfl) | ((with_reducible apply Wo_gf); (exact rfl); ((conv => lhs; simp -implicitDefEqProofs [*]) <;> exact rfl); (exact rfl)) | ((with_reducible apply Wo_gx); (exact rfl); ((conv => lhs; simp -implicitDefEqProofs [*]) <;> exact rfl)) | ((with_reducible apply Wo_gsT); (exact rfl); ((conv => lhs; simp -implicitDefEqProofs [*]) <;> exact rfl)) | ((with_reducible apply Wo_gsF); (exact rfl); ((conv => lhs; simp -implicitDefEqProofs [*]) <;> exact rfl)) | ((with_reducible apply Wd_gsT); (exact rfl); ((conv => lhs; simp -implicitDefEqProofs [*]) <;> exact rfl)) | ((with_reducible apply Wd_gsF); (exact rfl); ((conv => lhs; simp -implicitDefEqProofs [*]) <;> exact rfl)) | ((with_reducible first | apply W_srdl | apply W_rdl); kernel_rfl) | ((with_reducible apply Wd_nil); exact rfl) | ((with_reducible apply inB_o); rotate_left; exact rfl) | (intro h h'; try simp [*, -h] at h'))
    all_goals clear u6
    all_goals exact ⟨by simp, _, _, rfl, rfl, g + 1, cs', by simp [bxc, setR, *], by simp [*, snocB], by simp [*], hcsl, fun y h0 h1 h2 h3 => (by have e1 : ∀ i, y ≠ ⟨1, i, 0⟩ := fun i e => (by subst e; simp at h0); simp [h1, h2, h3, e1])⟩
  obtain ⟨z, hp', h1, rfl, g', cs', h2⟩ := key
  exact ⟨hp', g', cs', h1, h2⟩
end Go.Proofs.YtaeeffddinppeaaGreatDoor
