/- Law 47: lies, walked. -/
import Derived.Test.YtdokejnokhicbaaDoorP6
import Derived.Test.YtdokejnokhicbaaDoorK3
namespace Go.Proofs.YtdokejnokhicbaaDoor
open Go Go.Ab
set_option linter.unusedSimpArgs false
set_option linter.unusedVariables false
def d4O : List AV → Option D4
  | [.sc (.int .u32 a), .sc (.int .u32 b), .sc (.int .u32 c), .sc (.int .u32 d)] => some ⟨a, b, c, d⟩
  | _ => none
theorem d4O_row {r : List AV} {d : D4} (h : d4O r = some d) : r = d.row := by
  unfold d4O at h
  split at h
  · cases h; rfl
  · cases h
def d4sO : List (List AV) → Option (List D4)
  | [] => some []
  | r :: rs => match d4O r, d4sO rs with
    | some d, some l => some (d :: l)
    | _, _ => none
theorem d4sO_rows : ∀ {rs : List (List AV)} {l : List D4}, d4sO rs = some l → rs = rowG l
  | [], l, h => by simp only [d4sO, Option.some.injEq] at h; subst h; rfl
  | r :: rs, l, h => by
    simp only [d4sO] at h
    split at h
    · rename_i d l' h1 h2
      cases h
      rw [d4O_row h1, d4sO_rows h2]; rfl
    · cases h
def wsO : List (List AV) → Option (List Int)
  | [] => some []
  | [.sc (.int .u32 a)] :: rs => match wsO rs with
    | some l => some (a :: l)
    | none => none
  | _ => none
theorem wsO_rows : ∀ {rs : List (List AV)} {l : List Int}, wsO rs = some l → rs = rowW l
  | [], l, h => by simp only [wsO, Option.some.injEq] at h; subst h; rfl
  | r :: rs, l, h => by
    unfold wsO at h
    split at h
    · rename_i heq; cases heq
    · rename_i a rs' heq
      cases heq
      split at h
      · rename_i l' h2
        cases h
        rw [wsO_rows h2]; rfl
      · cases h
    · cases h
def o32 : List AV → Option (List AV)
  | [.sl false 1 rows] => match wsO rows with
    | some l => if l.length ≤ 1048576 then some [.sc (.string (txtW l))] else none
    | none => none
  | _ => none
def o33 : List AV → Option (List AV)
  | [.agg a, .agg b] => match d4O a, d4O b with
    | some x, some y => some [.agg (pairP x y).row]
    | _, _ => none
  | _ => none
def o34 : List AV → Option (List AV)
  | [.sc (.string s)] => if s.size ≤ 1000000 then some [.agg (ofP s).row] else none
  | _ => none
def o48 : List AV → Option (List AV)
  | [.agg a, .agg b] => match d4O a, d4O b with
    | some x, some y => some [.vec 4 (rowG (signP x y))]
    | _, _ => none
  | _ => none
def o53 : List AV → Option (List AV)
  | [.agg a] => match d4O a with
    | some x => some [.agg (publicP x).row]
    | none => none
  | _ => none
def o54 : List AV → Option (List AV)
  | [.agg a, .sl false 4 rows] => match d4O a, d4sO rows with
    | some x, some l => if l.length = 35 then some [.agg (reachP x l).row, bv true] else none
    | _, _ => none
  | _ => none
def o19 : List AV → Option (List AV)
  | [.agg [.sc (.int .u32 a0), .sc (.int .u32 a1), .sc (.int .u32 a2), .sc (.int .u32 a3), .sc (.int .u32 b0), .sc (.int .u32 b1), .sc (.int .u32 b2), .sc (.int .u32 b3)]] => some [.agg (linkP ⟨a0, a1, a2, a3⟩ ⟨b0, b1, b2, b3⟩).row]
  | _ => none
theorem o32_ok {a r : List AV} (h : o32 a = some r) : (lim Tryd.prog E47 X47).dat 32 a = some r := by
  unfold o32 at h
  split at h
  · split at h
    · rename_i l hl
      split at h
      · rename_i hn
        cases h
        rw [wsO_rows hl]
        exact d26u l hn
      · cases h
    · cases h
  · cases h
theorem o33_ok {a r : List AV} (h : o33 a = some r) : (lim Tryd.prog E47 X47).dat 33 a = some r := by
  unfold o33 at h
  split at h
  · split at h
    · rename_i x y hx hy
      cases h
      rw [d4O_row hx, d4O_row hy]
      exact e33 x y
    · cases h
  · cases h
theorem o34_ok {a r : List AV} (h : o34 a = some r) : (lim Tryd.prog E47 X47).dat 34 a = some r := by
  unfold o34 at h
  split at h
  · split at h
    · rename_i hn
      cases h
      exact e34 _ hn
    · cases h
  · cases h
theorem o48_ok {a r : List AV} (h : o48 a = some r) : (lim Tryd.prog E47 X47).dat 48 a = some r := by
  unfold o48 at h
  split at h
  · split at h
    · rename_i x y hx hy
      cases h
      rw [d4O_row hx, d4O_row hy]
      exact e48 x y
    · cases h
  · cases h
theorem o53_ok {a r : List AV} (h : o53 a = some r) : (lim Tryd.prog E47 X47).dat 53 a = some r := by
  unfold o53 at h
  split at h
  · split at h
    · rename_i x hx
      cases h
      rw [d4O_row hx]
      exact e53 x
    · cases h
  · cases h
theorem o54_ok {a r : List AV} (h : o54 a = some r) : (lim Tryd.prog E47 X47).dat 54 a = some r := by
  unfold o54 at h
  split at h
  · split at h
    · rename_i x l hx hl
      split at h
      · rename_i hn
        cases h
        rw [d4O_row hx, d4sO_rows hl]
        exact e54 x l hn
      · cases h
    · cases h
  · cases h
theorem o19_ok {a r : List AV} (h : o19 a = some r) : (lim Tryd.prog E47 X47).dat 19 a = some r := by
  unfold o19 at h
  split at h
  · rename_i a0 a1 a2 a3 b0 b1 b2 b3
    cases h
    exact e19 ⟨a0, a1, a2, a3⟩ ⟨b0, b1, b2, b3⟩
  · cases h
def Xj : Orc := ⟨fun f args => if f = 32 then o32 args else if f = 33 then o33 args else if f = 34 then o34 args else if f = 19 then o19 args else X47.dat f args, X47.hpc⟩
theorem Xj_le : Xj.le (lim Tryd.prog E47 X47) := by
  refine ⟨fun f a r h => ?_, fun k d f a hp r h => X47_le.hpc _ _ _ _ _ _ h⟩
  simp only [Xj] at h
  by_cases h32 : f = 32
  · subst h32; simp only [if_true] at h; exact o32_ok h
  simp only [h32, if_false] at h
  by_cases h33 : f = 33
  · subst h33; simp only [if_true] at h; exact o33_ok h
  simp only [h33, if_false] at h
  by_cases h34 : f = 34
  · subst h34; simp only [if_true] at h; exact o34_ok h
  simp only [h34, if_false] at h
  by_cases h19 : f = 19
  · subst h19; simp only [if_true] at h; exact o19_ok h
  simp only [h19, if_false] at h
  exact X47_le.dat _ _ _ h
theorem le_Xj : X47.le Xj := by
  refine ⟨fun f a r h => ?_, fun k d f a hp r h => h⟩
  have hf : f = 24 := by
    simp only [X47] at h
    split at h
    · assumption
    · cases h
  subst hf
  exact h
theorem runXj {n f : Nat} {a r : List AV} (h : (evCall Tryd.prog E47 Xj n).dat f a = some r) : (lim Tryd.prog E47 X47).dat f a = some r := run_of le_Xj Xj_le h
/-! ### the seed of a key -/
def rawB (b : UInt8) : UInt8 := UInt8.ofNat b.toNat
def seedRaw (s : D4) (i : Int) : ByteArray := ⟨⟨(107 :: (toBytes (bys [s.d0, s.d1, s.d2, s.d3]) ++ toBytes (bys [IntKind.u32.wrap i]))).map rawB⟩⟩
def seedT (s : D4) (i : Int) : ByteArray := ⟨⟨107 :: toBytes (bys [s.d0, s.d1, s.d2, s.d3, IntKind.u32.wrap i])⟩⟩
theorem seedRaw_eq (s : D4) (i : Int) : seedRaw s i = seedT s i := by
  unfold seedRaw seedT
  have e : ∀ l : List UInt8, l.map rawB = l := fun l => by
    induction l with
    | nil => rfl
    | cons b l ih => simp [ih, rawB]
  rw [e]
  rfl
def seedP (s : D4) (i : Int) : D4 := ofP (seedT s i)
set_option maxRecDepth 100000 in
set_option maxHeartbeats 4000000 in
theorem e49r (s : D4) (i : Int) : (lim Tryd.prog E47 X47).dat 49 [.agg s.row, iv i] = some [.agg (ofP (seedRaw s i)).row] := runXj (n := 100) (by kernel_rfl)
theorem e49 (s : D4) (i : Int) : (lim Tryd.prog E47 X47).dat 49 [.agg s.row, iv i] = some [.agg (seedP s i).row] := by
  rw [e49r, seedRaw_eq]; rfl
def o49 : List AV → Option (List AV)
  | [.agg a, .sc (.int .i64 i)] => match d4O a with
    | some x => some [.agg (seedP x i).row]
    | none => none
  | _ => none
theorem o49_ok {a r : List AV} (h : o49 a = some r) : (lim Tryd.prog E47 X47).dat 49 a = some r := by
  unfold o49 at h
  split at h
  · split at h
    · rename_i x hx
      cases h
      rw [d4O_row hx]
      exact e49 x _
    · cases h
  · cases h
def Xk : Orc := ⟨fun f args => if f = 33 then o33 args else if f = 34 then o34 args else if f = 19 then o19 args else if f = 48 then o48 args else if f = 49 then o49 args else if f = 53 then o53 args else if f = 54 then o54 args else X47.dat f args, X47.hpc⟩
theorem Xk_le : Xk.le (lim Tryd.prog E47 X47) := by
  refine ⟨fun f a r h => ?_, fun k d f a hp r h => X47_le.hpc _ _ _ _ _ _ h⟩
  simp only [Xk] at h
  by_cases h33 : f = 33
  · subst h33; simp only [if_true] at h; exact o33_ok h
  simp only [h33, if_false] at h
  by_cases h34 : f = 34
  · subst h34; simp only [if_true] at h; exact o34_ok h
  simp only [h34, if_false] at h
  by_cases h19 : f = 19
  · subst h19; simp only [if_true] at h; exact o19_ok h
  simp only [h19, if_false] at h
  by_cases h48 : f = 48
  · subst h48; simp only [if_true] at h; exact o48_ok h
  simp only [h48, if_false] at h
  by_cases h49 : f = 49
  · subst h49; simp only [if_true] at h; exact o49_ok h
  simp only [h49, if_false] at h
  by_cases h53 : f = 53
  · subst h53; simp only [if_true] at h; exact o53_ok h
  simp only [h53, if_false] at h
  by_cases h54 : f = 54
  · subst h54; simp only [if_true] at h; exact o54_ok h
  simp only [h54, if_false] at h
  exact X47_le.dat _ _ _ h
theorem le_Xk : X47.le Xk := by
  refine ⟨fun f a r h => ?_, fun k d f a hp r h => h⟩
  have hf : f = 24 := by
    simp only [X47] at h
    split at h
    · assumption
    · cases h
  subst hf
  exact h
theorem runXk {n f : Nat} {a r : List AV} (h : (evCall Tryd.prog E47 Xk n).dat f a = some r) : (lim Tryd.prog E47 X47).dat f a = some r := run_of le_Xk Xk_le h
end Go.Proofs.YtdokejnokhicbaaDoor

namespace Go.Proofs.YtdokejnokhicbaaDoor
open Go Go.Ab
set_option linter.unusedSimpArgs false
set_option linter.unusedVariables false
def sigRow (s m : D4) (n : Int) (path : List D4) : List AV := [iv n, .vec 4 (rowG (signP (seedP s n) m)), .vec 4 (rowG path)]
def pubAt (s : D4) (i : Int) : D4 := publicP (seedP s i)
def pub1 (s : D4) : D4 := pairP (pubAt s 0) (pubAt s 1)
set_option maxRecDepth 100000 in
set_option maxHeartbeats 4000000 in
theorem e11_10 (s a b : D4) : (lim Tryd.prog E47 X47).dat 11 [.agg (s.row ++ [iv 1, iv 0]), .agg (a.row ++ b.row)] = some [.agg (s.row ++ [iv 1, iv 1]), .agg ((pub1 s).row ++ sigRow s (linkP a b) 0 [pubAt s 1]), iv 0] := runXk (n := 200) (by kernel_rfl)
set_option maxRecDepth 100000 in
set_option maxHeartbeats 4000000 in
theorem e11_11 (s a b : D4) : (lim Tryd.prog E47 X47).dat 11 [.agg (s.row ++ [iv 1, iv 1]), .agg (a.row ++ b.row)] = some [.agg (s.row ++ [iv 1, iv 2]), .agg ((pub1 s).row ++ sigRow s (linkP a b) 1 [pubAt s 0]), iv 0] := runXk (n := 200) (by kernel_rfl)
def sigD (s m : D4) (n : Int) (path : List D4) : List AV := [iv n, .sl false 4 (rowG (signP (seedP s n) m)), .sl false 4 (rowG path)]
def eqD4 (x y : D4) : Bool := (x.d0 == y.d0) && ((x.d1 == y.d1) && ((x.d2 == y.d2) && ((x.d3 == y.d3) && true)))
set_option maxRecDepth 100000 in
set_option maxHeartbeats 4000000 in
theorem e21_0g (r q a b m x : D4) : (lim Tryd.prog E47 X47).dat 21 [.agg (a.row ++ b.row), .agg (r.row ++ [iv 0, .sl false 4 (rowG (signP x m)), .sl false 4 (rowG [q])])] = some [bv (eqD4 (pairP (reachP (linkP a b) (signP x m)) q) r)] := runXk (n := 200) (by kernel_rfl)
set_option maxRecDepth 100000 in
set_option maxHeartbeats 4000000 in
theorem e21_1g (r q a b m x : D4) : (lim Tryd.prog E47 X47).dat 21 [.agg (a.row ++ b.row), .agg (r.row ++ [iv 1, .sl false 4 (rowG (signP x m)), .sl false 4 (rowG [q])])] = some [bv (eqD4 (pairP q (reachP (linkP a b) (signP x m))) r)] := runXk (n := 200) (by kernel_rfl)
theorem e21_10r (s a b p : D4) : (lim Tryd.prog E47 X47).dat 21 [.agg (a.row ++ b.row), .agg (p.row ++ sigD s (linkP a b) 0 [pubAt s 1])] = some [bv (eqD4 (pairP (reachP (linkP a b) (signP (seedP s 0) (linkP a b))) (pubAt s 1)) p)] := e21_0g _ _ _ _ _ _
theorem e21_11r (s a b p : D4) : (lim Tryd.prog E47 X47).dat 21 [.agg (a.row ++ b.row), .agg (p.row ++ sigD s (linkP a b) 1 [pubAt s 0])] = some [bv (eqD4 (pairP (pubAt s 0) (reachP (linkP a b) (signP (seedP s 1) (linkP a b)))) p)] := e21_1g _ _ _ _ _ _
end Go.Proofs.YtdokejnokhicbaaDoor

namespace Go.Proofs.YtdokejnokhicbaaDoor
open Go Go.Ab
set_option linter.unusedSimpArgs false
set_option linter.unusedVariables false
attribute [-simp] Prog.bind getCs putCs
attribute [local simp ↓] run_bind
attribute [local simp ↓] runF_bind
attribute [local simp] run_getCsN runF_getCsN facetsC putCs_one run_putCsN runF_putCsN facetsW facetsH
attribute [local simp ↓] evInt_xor evInt_or evInt_and64
attribute [-simp] eqL
theorem eqD4_refl (x : D4) : eqD4 x x = true := by simp [eqD4]
theorem eqL_refl (x : D4) : eqL x.row x.row = some true := by simp [eqL, D4.row]
theorem eqL_ex (x y : D4) : ∃ B, eqL x.row y.row = some B := ⟨_, rfl⟩
theorem e21_10 (s a b : D4) : (lim Tryd.prog E47 X47).dat 21 [.agg (a.row ++ b.row), .agg ((pub1 s).row ++ sigD s (linkP a b) 0 [pubAt s 1])] = some [bv true] := by
  rw [e21_10r, reach_sign]
  show some [bv (eqD4 (pub1 s) (pub1 s))] = _
  rw [eqD4_refl]
theorem e21_11 (s a b : D4) : (lim Tryd.prog E47 X47).dat 21 [.agg (a.row ++ b.row), .agg ((pub1 s).row ++ sigD s (linkP a b) 1 [pubAt s 0])] = some [bv true] := by
  rw [e21_11r, reach_sign]
  show some [bv (eqD4 (pub1 s) (pub1 s))] = _
  rw [eqD4_refl]
set_option maxHeartbeats 4000000 in
theorem e12 (s a b c d : D4) (B1 B2 : Bool) (h1 : eqL a.row c.row = some B1) (h2 : eqL b.row d.row = some B2) : (lim Tryd.prog E47 X47).dat 12 [.agg (a.row ++ b.row), .agg ((pub1 s).row ++ sigD s (linkP a b) 0 [pubAt s 1]), .agg (c.row ++ d.row), .agg ((pub1 s).row ++ sigD s (linkP c d) 1 [pubAt s 0])] = some [bv (B1 && !B2)] := by
  refine fnW Tryd.func12 rfl rfl bodyOk_12 rfl rtys_12 rfl ?_
  have i1 := e21_10 s a b
  have i2 := e21_11 s c d
  have hp := eqL_refl (pub1 s)
  unfold sigD at *
  generalize rowG (signP (seedP s 0) (linkP a b)) = R1 at *
  generalize rowG (signP (seedP s 1) (linkP c d)) = R2 at *
  generalize rowG [pubAt s 1] = R3 at *
  generalize rowG [pubAt s 0] = R4 at *
  generalize pub1 s = y at *
  obtain ⟨y0, y1, y2, y3⟩ := y
  obtain ⟨a0, a1, a2, a3⟩ := a
  obtain ⟨b0, b1, b2, b3⟩ := b
  obtain ⟨c0, c1, c2, c3⟩ := c
  obtain ⟨d0, d1, d2, d3⟩ := d
  simp only [D4.row, List.cons_append, List.nil_append] at *
  cases B1
  all_goals cases B2
  all_goals
    repeat' (first
      | ((with_reducible apply Wo_u); (conv => lhs; simp -implicitDefEqProofs [*]) <;> exact rfl)
      | ((with_reducible apply Wo_n); (conv => lhs; simp -implicitDefEqProofs [*]) <;> exact rfl)
      | (with_reducible apply Wo_nil)
      | ((with_reducible apply Wo_gt); (exact rfl); ((conv => lhs; simp -implicitDefEqProofs [*]) <;> exact rfl); (conv => lhs; simp -implicitDefEqProofs [*]) <;> exact rfl)
      | ((with_reducible apply Wo_gf); (exact rfl); ((conv => lhs; simp -implicitDefEqProofs [*]) <;> exact rfl); (exact rfl))
      | ((with_reducible apply Wo_gx); (exact rfl); ((conv => lhs; simp -implicitDefEqProofs [*]) <;> exact rfl))
      | ((with_reducible apply Wo_gsT); (exact rfl); ((conv => lhs; simp -implicitDefEqProofs [*]) <;> exact rfl))
      | ((with_reducible apply Wo_gsF); (exact rfl); ((conv => lhs; simp -implicitDefEqProofs [*]) <;> exact rfl))
      | ((with_reducible apply ex2); (conv => lhs; simp -implicitDefEqProofs [*]) <;> exact rfl)
      | (with_reducible apply W_ss) | (with_reducible apply W_srl) | (with_reducible apply W_rl)
      | ((with_reducible apply W_sc); (conv => lhs; simp -implicitDefEqProofs [*]) <;> exact rfl)
      | ((with_reducible apply W_c); (conv => lhs; simp -implicitDefEqProofs [*]) <;> exact rfl)
      | ((with_reducible apply W_srdl); kernel_rfl) | ((with_reducible apply W_rdl); kernel_rfl)
      | ((with_reducible apply Wd_u); (conv => lhs; simp -implicitDefEqProofs [*]) <;> exact rfl)
      | ((with_reducible apply Wd_n); (conv => lhs; simp -implicitDefEqProofs [*]) <;> exact rfl)
      | ((with_reducible apply Wd_nil); exact rfl)
      | ((with_reducible apply Wd_gsT); (exact rfl); ((conv => lhs; simp -implicitDefEqProofs [*]) <;> exact rfl))
      | ((with_reducible apply Wd_gsF); (exact rfl); ((conv => lhs; simp -implicitDefEqProofs [*]) <;> exact rfl))
      | ((with_reducible apply ex4); (conv => lhs; simp -implicitDefEqProofs [*]) <;> exact rfl)
      | (with_reducible apply W_sblock) | (with_reducible apply W_block) | (with_reducible apply W_sskip) | (with_reducible apply W_skip) | (with_reducible apply W_sret) | (with_reducible apply W_ret) | (with_reducible apply W_sexit) | (with_reducible apply W_exit)
      | (with_reducible apply thenW_n) | (with_reducible apply thenW_r) | (with_reducible apply thenW_e) | (with_reducible apply inB_n) | (with_reducible apply inB_r) | (with_reducible apply inB_e) | ((with_reducible apply inB_o); rotate_left; exact rfl)
      | ((with_reducible apply EndQ_ret); (conv => lhs; simp -implicitDefEqProofs [*]) <;> exact rfl) | ((with_reducible apply EndQ_normal); (conv => lhs; simp -implicitDefEqProofs [*]) <;> exact rfl)
      | (intro h h'; try simp [*, -h] at h'))
  all_goals rfl
set_option maxRecDepth 200000 in
set_option maxHeartbeats 8000000 in
theorem e4 (s a b c d : D4) : (lim Tryd.prog E47 X47).dat 4 [.agg s.row, .agg (a.row ++ b.row), .agg (c.row ++ d.row)] = some [bv true] := by
  refine fnW Tryd.func4 rfl rfl bodyOk_4 rfl rtys_4 rfl ?_
  have h5 := d7
  have i1 := e11_10 s a b
  have i2 := e11_11 s c d
  obtain ⟨B1, h1⟩ := eqL_ex a c
  obtain ⟨B2, h2⟩ := eqL_ex b d
  have i3 := e12 s a b c d B1 B2 h1 h2
  have l1 : (rowG (signP (seedP s 0) (linkP a b))).length = 35 := by rw [List.length_map, signP_len]
  have l2 : (rowG (signP (seedP s 1) (linkP c d))).length = 35 := by rw [List.length_map, signP_len]
  have t1 : (rowG (signP (seedP s 0) (linkP a b))).take 35 = rowG (signP (seedP s 0) (linkP a b)) := List.take_of_length_le (by omega)
  have t2 : (rowG (signP (seedP s 1) (linkP c d))).take 35 = rowG (signP (seedP s 1) (linkP c d)) := List.take_of_length_le (by omega)
  have l3 : (rowG [pubAt s 1]).length = 1 := rfl
  have l4 : (rowG [pubAt s 0]).length = 1 := rfl
  have t3 : (rowG [pubAt s 1]).take 1 = rowG [pubAt s 1] := rfl
  have t4 : (rowG [pubAt s 0]).take 1 = rowG [pubAt s 0] := rfl
  unfold sigD at *
  unfold sigRow at *
  generalize rowG (signP (seedP s 0) (linkP a b)) = R1 at *
  generalize rowG (signP (seedP s 1) (linkP c d)) = R2 at *
  generalize rowG [pubAt s 1] = R3 at *
  generalize rowG [pubAt s 0] = R4 at *
  generalize pub1 s = y at *
  obtain ⟨y0, y1, y2, y3⟩ := y
  obtain ⟨a0, a1, a2, a3⟩ := a
  obtain ⟨b0, b1, b2, b3⟩ := b
  obtain ⟨c0, c1, c2, c3⟩ := c
  obtain ⟨d0, d1, d2, d3⟩ := d
  obtain ⟨s0, s1, s2, s3⟩ := s
  simp only [D4.row, List.cons_append, List.nil_append] at *
  cases B1
  all_goals cases B2
  all_goals
    repeat' (first
      | ((with_reducible apply Wo_u); (conv => lhs; simp -implicitDefEqProofs [*]) <;> exact rfl)
      | ((with_reducible apply Wo_n); (conv => lhs; simp -implicitDefEqProofs [*]) <;> exact rfl)
      | (with_reducible apply Wo_nil)
      | ((with_reducible apply Wo_gt); (exact rfl); ((conv => lhs; simp -implicitDefEqProofs [*]) <;> exact rfl); (conv => lhs; simp -implicitDefEqProofs [*]) <;> exact rfl)
      | ((with_reducible apply Wo_gf); (exact rfl); ((conv => lhs; simp -implicitDefEqProofs [*]) <;> exact rfl); (exact rfl))
      | ((with_reducible apply Wo_gx); (exact rfl); ((conv => lhs; simp -implicitDefEqProofs [*]) <;> exact rfl))
      | ((with_reducible apply Wo_gsT); (exact rfl); ((conv => lhs; simp -implicitDefEqProofs [*]) <;> exact rfl))
      | ((with_reducible apply Wo_gsF); (exact rfl); ((conv => lhs; simp -implicitDefEqProofs [*]) <;> exact rfl))
      | ((with_reducible apply ex2); (conv => lhs; simp -implicitDefEqProofs [*]) <;> exact rfl)
      | (with_reducible apply W_ss) | (with_reducible apply W_srl) | (with_reducible apply W_rl)
      | ((with_reducible apply W_sc); (conv => lhs; simp -implicitDefEqProofs [*]) <;> exact rfl)
      | ((with_reducible apply W_c); (conv => lhs; simp -implicitDefEqProofs [*]) <;> exact rfl)
      | ((with_reducible apply W_srdl); kernel_rfl) | ((with_reducible apply W_rdl); kernel_rfl)
      | ((with_reducible apply Wd_u); (conv => lhs; simp -implicitDefEqProofs [*]) <;> exact rfl)
      | ((with_reducible apply Wd_n); (conv => lhs; simp -implicitDefEqProofs [*]) <;> exact rfl)
      | ((with_reducible apply Wd_nil); exact rfl)
      | ((with_reducible apply Wd_gsT); (exact rfl); ((conv => lhs; simp -implicitDefEqProofs [*]) <;> exact rfl))
      | ((with_reducible apply Wd_gsF); (exact rfl); ((conv => lhs; simp -implicitDefEqProofs [*]) <;> exact rfl))
      | ((with_reducible apply ex4); (conv => lhs; simp -implicitDefEqProofs [*]) <;> exact rfl)
      | (with_reducible apply W_sblock) | (with_reducible apply W_block) | (with_reducible apply W_sskip) | (with_reducible apply W_skip) | (with_reducible apply W_sret) | (with_reducible apply W_ret) | (with_reducible apply W_sexit) | (with_reducible apply W_exit)
      | (with_reducible apply thenW_n) | (with_reducible apply thenW_r) | (with_reducible apply thenW_e) | (with_reducible apply inB_n) | (with_reducible apply inB_r) | (with_reducible apply inB_e) | ((with_reducible apply inB_o); rotate_left; exact rfl)
      | ((with_reducible apply EndQ_ret); (conv => lhs; simp -implicitDefEqProofs [*]) <;> exact rfl) | ((with_reducible apply EndQ_normal); (conv => lhs; simp -implicitDefEqProofs [*]) <;> exact rfl)
      | (intro h h'; try simp [*, -h] at h'))
  all_goals rfl
end Go.Proofs.YtdokejnokhicbaaDoor
