/- Law 47: lies of both. -/
import Derived.Test.YtdokejnokhicbaaGreatDoorP7
namespace Go.Proofs.YtdokejnokhicbaaGreatDoor
open Go Go.Ab
set_option linter.unusedSimpArgs false
set_option linter.unusedVariables false
def sigRow (s m : D4) (n : Int) (path : List D4) : List AV := [iv n, .vec 4 (rowG (signP (seedP s n) m)), .vec 4 (rowG path)]
def sigRowR (s m : D4) (n : Int) (path : List D4) : List AV := [iv n, .vec 4 (rowG (signP (seedR s n) m)), .vec 4 (rowG path)]
def sigD (s m : D4) (n : Int) (path : List D4) : List AV := [iv n, .sl false 4 (rowG (signP (seedP s n) m)), .sl false 4 (rowG path)]
def pubAt (s : D4) (i : Int) : D4 := publicP (seedP s i)
def pubRt (s : D4) (i : Int) : D4 := publicP (seedR s i)
def pub0 (s : D4) : D4 := pubAt s 0
def pub1 (s : D4) : D4 := pairP (pubAt s 0) (pubAt s 1)
def pub2 (s : D4) : D4 := pairP (pairP (pubAt s 0) (pubAt s 1)) (pairP (pubAt s 2) (pubAt s 3))
def pubR0 (s : D4) : D4 := pubRt s 0
def pubR1 (s : D4) : D4 := pairP (pubRt s 0) (pubRt s 1)
def pubR2 (s : D4) : D4 := pairP (pairP (pubRt s 0) (pubRt s 1)) (pairP (pubRt s 2) (pubRt s 3))
def eqD4 (x y : D4) : Bool := (x.d0 == y.d0) && ((x.d1 == y.d1) && ((x.d2 == y.d2) && ((x.d3 == y.d3) && true)))
theorem eqD4_refl (x : D4) : eqD4 x x = true := by simp [eqD4]
theorem pubRt_eq {s : D4} (h : s.U) (i : Int) : pubRt s i = pubAt s i := by unfold pubRt pubAt; rw [seedR_eq h]
theorem sigRowR_eq {s a b : D4} (h : s.U) (ha : a.U) (hb : b.U) (n : Int) (path : List D4) : sigRowR s (linkR a b) n path = sigRow s (linkP a b) n path := by
  unfold sigRowR sigRow; rw [seedR_eq h, linkR_eq ha hb]
def o17 : List AV → Option (List AV)
  | [.agg [.sc (.int .u32 a0), .sc (.int .u32 a1), .sc (.int .u32 a2), .sc (.int .u32 a3), .sc (.int .u32 b0), .sc (.int .u32 b1), .sc (.int .u32 b2), .sc (.int .u32 b3)]] => some [.agg (linkR ⟨a0, a1, a2, a3⟩ ⟨b0, b1, b2, b3⟩).row]
  | _ => none
def o58 : List AV → Option (List AV)
  | [.agg a, .sc (.int .i64 i)] => match d4O a with
    | some x => some [.agg (seedR x i).row]
    | none => none
  | _ => none
def o63 : List AV → Option (List AV)
  | [.agg a] => match d4O a with
    | some x => some [.agg (publicP x).row]
    | none => none
  | _ => none
def o57 : List AV → Option (List AV)
  | [.agg a, .agg b] => match d4O a, d4O b with
    | some x, some y => some [.vec 4 (rowG (signP x y))]
    | _, _ => none
  | _ => none
theorem o17_ok {a r : List AV} (h : o17 a = some r) : (lim Tryz.prog E47 X47).dat 17 a = some r := by
  unfold o17 at h
  split at h
  · rename_i a0 a1 a2 a3 b0 b1 b2 b3
    cases h
    exact f17 ⟨a0, a1, a2, a3⟩ ⟨b0, b1, b2, b3⟩
  · cases h
theorem o58_ok {a r : List AV} (h : o58 a = some r) : (lim Tryz.prog E47 X47).dat 58 a = some r := by
  unfold o58 at h
  split at h
  · split at h
    · rename_i x hx
      cases h
      rw [d4O_row hx]
      exact f58 x _
    · cases h
  · cases h
theorem o63_ok {a r : List AV} (h : o63 a = some r) : (lim Tryz.prog E47 X47).dat 63 a = some r := by
  unfold o63 at h
  split at h
  · split at h
    · rename_i x hx
      cases h
      rw [d4O_row hx]
      exact f63 x
    · cases h
  · cases h
theorem o57_ok {a r : List AV} (h : o57 a = some r) : (lim Tryz.prog E47 X47).dat 57 a = some r := by
  unfold o57 at h
  split at h
  · split at h
    · rename_i x y hx hy
      cases h
      rw [d4O_row hx, d4O_row hy]
      exact f57 x y
    · cases h
  · cases h
def Xd : Orc := ⟨fun f args => if f = 17 then o17 args else if f = 58 then o58 args else if f = 63 then o63 args else if f = 57 then o57 args else if f = 34 then o34z args else Xk.dat f args, X47.hpc⟩
theorem Xd_le : Xd.le (lim Tryz.prog E47 X47) := by
  refine ⟨fun f a r h => ?_, fun k d f a hp r h => X47_le.hpc _ _ _ _ _ _ h⟩
  simp only [Xd] at h
  by_cases h17 : f = 17
  · subst h17; simp only [if_true] at h; exact o17_ok h
  simp only [h17, if_false] at h
  by_cases h58 : f = 58
  · subst h58; simp only [if_true] at h; exact o58_ok h
  simp only [h58, if_false] at h
  by_cases h63 : f = 63
  · subst h63; simp only [if_true] at h; exact o63_ok h
  simp only [h63, if_false] at h
  by_cases h57 : f = 57
  · subst h57; simp only [if_true] at h; exact o57_ok h
  simp only [h57, if_false] at h
  by_cases h34 : f = 34
  · subst h34; simp only [if_true] at h; exact o34z_ok h
  simp only [h34, if_false] at h
  exact Xk_le.dat _ _ _ h
theorem le_Xd : X47.le Xd := by
  refine ⟨fun f a r h => ?_, fun k d f a hp r h => h⟩
  have hf : f = 23 := by
    simp only [X47] at h
    split at h
    · assumption
    · cases h
  subst hf
  exact h
theorem runXd {n f : Nat} {a r : List AV} (h : (evCall Tryz.prog E47 Xd n).dat f a = some r) : (lim Tryz.prog E47 X47).dat f a = some r := run_of le_Xd Xd_le h
set_option maxRecDepth 100000 in
set_option maxHeartbeats 4000000 in
theorem p5_00 (s a b : D4) : (lim Tryz.prog E47 X47).dat 5 [.agg (s.row ++ [iv 0, iv 0]), .agg (a.row ++ b.row)] = some [.agg (s.row ++ [iv 0, iv 1]), .agg ((pub0 s).row ++ sigRow s (linkP a b) 0 ([])), iv 0] := runXd (n := 200) (by kernel_rfl)
set_option maxRecDepth 100000 in
set_option maxHeartbeats 4000000 in
theorem r6_00r (s a b : D4) : (lim Tryz.prog E47 X47).dat 6 [.agg (s.row ++ [iv 0, iv 0]), .agg (a.row ++ b.row)] = some [.agg (s.row ++ [iv 0, iv 1]), .agg ((pubR0 s).row ++ sigRowR s (linkR a b) 0 ([])), iv 0] := runXd (n := 200) (by kernel_rfl)
theorem r6_00 (s a b : D4) (hs : s.U) (ha : a.U) (hb : b.U) : (lim Tryz.prog E47 X47).dat 6 [.agg (s.row ++ [iv 0, iv 0]), .agg (a.row ++ b.row)] = some [.agg (s.row ++ [iv 0, iv 1]), .agg ((pub0 s).row ++ sigRow s (linkP a b) 0 ([])), iv 0] := by
  rw [r6_00r, sigRowR_eq hs ha hb]
  unfold pubR0 pub0
  simp only [pubRt_eq hs]
set_option maxRecDepth 100000 in
set_option maxHeartbeats 4000000 in
theorem c8_00g (r q p a b m x : D4) : (lim Tryz.prog E47 X47).dat 8 [.agg (a.row ++ b.row), .agg (r.row ++ [iv 0, .sl false 4 (rowG (signP x m)), .sl false 4 (rowG [])])] = some [bv (eqD4 ((reachP (linkP a b) (signP x m))) r)] := runXd (n := 200) (by kernel_rfl)
theorem c8_00 (s a b : D4) : (lim Tryz.prog E47 X47).dat 8 [.agg (a.row ++ b.row), .agg ((pub0 s).row ++ sigD s (linkP a b) 0 ([]))] = some [bv true] := by
  refine (c8_00g _ s s _ _ _ _).trans ?_
  rw [reach_sign]
  show some [bv (eqD4 (pub0 s) (pub0 s))] = _
  rw [eqD4_refl]
set_option maxRecDepth 100000 in
set_option maxHeartbeats 4000000 in
theorem p5_10 (s a b : D4) : (lim Tryz.prog E47 X47).dat 5 [.agg (s.row ++ [iv 1, iv 0]), .agg (a.row ++ b.row)] = some [.agg (s.row ++ [iv 1, iv 1]), .agg ((pub1 s).row ++ sigRow s (linkP a b) 0 ([pubAt s 1])), iv 0] := runXd (n := 200) (by kernel_rfl)
set_option maxRecDepth 100000 in
set_option maxHeartbeats 4000000 in
theorem r6_10r (s a b : D4) : (lim Tryz.prog E47 X47).dat 6 [.agg (s.row ++ [iv 1, iv 0]), .agg (a.row ++ b.row)] = some [.agg (s.row ++ [iv 1, iv 1]), .agg ((pubR1 s).row ++ sigRowR s (linkR a b) 0 ([pubRt s 1])), iv 0] := runXd (n := 200) (by kernel_rfl)
theorem r6_10 (s a b : D4) (hs : s.U) (ha : a.U) (hb : b.U) : (lim Tryz.prog E47 X47).dat 6 [.agg (s.row ++ [iv 1, iv 0]), .agg (a.row ++ b.row)] = some [.agg (s.row ++ [iv 1, iv 1]), .agg ((pub1 s).row ++ sigRow s (linkP a b) 0 ([pubAt s 1])), iv 0] := by
  rw [r6_10r, sigRowR_eq hs ha hb]
  unfold pubR1 pub1
  simp only [pubRt_eq hs]
set_option maxRecDepth 100000 in
set_option maxHeartbeats 4000000 in
theorem c8_10g (r q p a b m x : D4) : (lim Tryz.prog E47 X47).dat 8 [.agg (a.row ++ b.row), .agg (r.row ++ [iv 0, .sl false 4 (rowG (signP x m)), .sl false 4 (rowG [q])])] = some [bv (eqD4 (pairP (reachP (linkP a b) (signP x m)) q) r)] := runXd (n := 200) (by kernel_rfl)
theorem c8_10 (s a b : D4) : (lim Tryz.prog E47 X47).dat 8 [.agg (a.row ++ b.row), .agg ((pub1 s).row ++ sigD s (linkP a b) 0 ([pubAt s 1]))] = some [bv true] := by
  refine (c8_10g _ _ s _ _ _ _).trans ?_
  rw [reach_sign]
  show some [bv (eqD4 (pub1 s) (pub1 s))] = _
  rw [eqD4_refl]
set_option maxRecDepth 100000 in
set_option maxHeartbeats 4000000 in
theorem p5_11 (s a b : D4) : (lim Tryz.prog E47 X47).dat 5 [.agg (s.row ++ [iv 1, iv 1]), .agg (a.row ++ b.row)] = some [.agg (s.row ++ [iv 1, iv 2]), .agg ((pub1 s).row ++ sigRow s (linkP a b) 1 ([pubAt s 0])), iv 0] := runXd (n := 200) (by kernel_rfl)
set_option maxRecDepth 100000 in
set_option maxHeartbeats 4000000 in
theorem r6_11r (s a b : D4) : (lim Tryz.prog E47 X47).dat 6 [.agg (s.row ++ [iv 1, iv 1]), .agg (a.row ++ b.row)] = some [.agg (s.row ++ [iv 1, iv 2]), .agg ((pubR1 s).row ++ sigRowR s (linkR a b) 1 ([pubRt s 0])), iv 0] := runXd (n := 200) (by kernel_rfl)
theorem r6_11 (s a b : D4) (hs : s.U) (ha : a.U) (hb : b.U) : (lim Tryz.prog E47 X47).dat 6 [.agg (s.row ++ [iv 1, iv 1]), .agg (a.row ++ b.row)] = some [.agg (s.row ++ [iv 1, iv 2]), .agg ((pub1 s).row ++ sigRow s (linkP a b) 1 ([pubAt s 0])), iv 0] := by
  rw [r6_11r, sigRowR_eq hs ha hb]
  unfold pubR1 pub1
  simp only [pubRt_eq hs]
set_option maxRecDepth 100000 in
set_option maxHeartbeats 4000000 in
theorem c8_11g (r q p a b m x : D4) : (lim Tryz.prog E47 X47).dat 8 [.agg (a.row ++ b.row), .agg (r.row ++ [iv 1, .sl false 4 (rowG (signP x m)), .sl false 4 (rowG [q])])] = some [bv (eqD4 (pairP q (reachP (linkP a b) (signP x m))) r)] := runXd (n := 200) (by kernel_rfl)
theorem c8_11 (s a b : D4) : (lim Tryz.prog E47 X47).dat 8 [.agg (a.row ++ b.row), .agg ((pub1 s).row ++ sigD s (linkP a b) 1 ([pubAt s 0]))] = some [bv true] := by
  refine (c8_11g _ _ s _ _ _ _).trans ?_
  rw [reach_sign]
  show some [bv (eqD4 (pub1 s) (pub1 s))] = _
  rw [eqD4_refl]
set_option maxRecDepth 100000 in
set_option maxHeartbeats 4000000 in
theorem p5_20 (s a b : D4) : (lim Tryz.prog E47 X47).dat 5 [.agg (s.row ++ [iv 2, iv 0]), .agg (a.row ++ b.row)] = some [.agg (s.row ++ [iv 2, iv 1]), .agg ((pub2 s).row ++ sigRow s (linkP a b) 0 ([pubAt s 1, pairP (pubAt s 2) (pubAt s 3)])), iv 0] := runXd (n := 200) (by kernel_rfl)
set_option maxRecDepth 100000 in
set_option maxHeartbeats 4000000 in
theorem r6_20r (s a b : D4) : (lim Tryz.prog E47 X47).dat 6 [.agg (s.row ++ [iv 2, iv 0]), .agg (a.row ++ b.row)] = some [.agg (s.row ++ [iv 2, iv 1]), .agg ((pubR2 s).row ++ sigRowR s (linkR a b) 0 ([pubRt s 1, pairP (pubRt s 2) (pubRt s 3)])), iv 0] := runXd (n := 200) (by kernel_rfl)
theorem r6_20 (s a b : D4) (hs : s.U) (ha : a.U) (hb : b.U) : (lim Tryz.prog E47 X47).dat 6 [.agg (s.row ++ [iv 2, iv 0]), .agg (a.row ++ b.row)] = some [.agg (s.row ++ [iv 2, iv 1]), .agg ((pub2 s).row ++ sigRow s (linkP a b) 0 ([pubAt s 1, pairP (pubAt s 2) (pubAt s 3)])), iv 0] := by
  rw [r6_20r, sigRowR_eq hs ha hb]
  unfold pubR2 pub2
  simp only [pubRt_eq hs]
set_option maxRecDepth 100000 in
set_option maxHeartbeats 4000000 in
theorem c8_20g (r q p a b m x : D4) : (lim Tryz.prog E47 X47).dat 8 [.agg (a.row ++ b.row), .agg (r.row ++ [iv 0, .sl false 4 (rowG (signP x m)), .sl false 4 (rowG [q, p])])] = some [bv (eqD4 (pairP (pairP (reachP (linkP a b) (signP x m)) q) p) r)] := runXd (n := 200) (by kernel_rfl)
theorem c8_20 (s a b : D4) : (lim Tryz.prog E47 X47).dat 8 [.agg (a.row ++ b.row), .agg ((pub2 s).row ++ sigD s (linkP a b) 0 ([pubAt s 1, pairP (pubAt s 2) (pubAt s 3)]))] = some [bv true] := by
  refine (c8_20g _ _ _ _ _ _ _).trans ?_
  rw [reach_sign]
  show some [bv (eqD4 (pub2 s) (pub2 s))] = _
  rw [eqD4_refl]
set_option maxRecDepth 100000 in
set_option maxHeartbeats 4000000 in
theorem p5_21 (s a b : D4) : (lim Tryz.prog E47 X47).dat 5 [.agg (s.row ++ [iv 2, iv 1]), .agg (a.row ++ b.row)] = some [.agg (s.row ++ [iv 2, iv 2]), .agg ((pub2 s).row ++ sigRow s (linkP a b) 1 ([pubAt s 0, pairP (pubAt s 2) (pubAt s 3)])), iv 0] := runXd (n := 200) (by kernel_rfl)
set_option maxRecDepth 100000 in
set_option maxHeartbeats 4000000 in
theorem r6_21r (s a b : D4) : (lim Tryz.prog E47 X47).dat 6 [.agg (s.row ++ [iv 2, iv 1]), .agg (a.row ++ b.row)] = some [.agg (s.row ++ [iv 2, iv 2]), .agg ((pubR2 s).row ++ sigRowR s (linkR a b) 1 ([pubRt s 0, pairP (pubRt s 2) (pubRt s 3)])), iv 0] := runXd (n := 200) (by kernel_rfl)
theorem r6_21 (s a b : D4) (hs : s.U) (ha : a.U) (hb : b.U) : (lim Tryz.prog E47 X47).dat 6 [.agg (s.row ++ [iv 2, iv 1]), .agg (a.row ++ b.row)] = some [.agg (s.row ++ [iv 2, iv 2]), .agg ((pub2 s).row ++ sigRow s (linkP a b) 1 ([pubAt s 0, pairP (pubAt s 2) (pubAt s 3)])), iv 0] := by
  rw [r6_21r, sigRowR_eq hs ha hb]
  unfold pubR2 pub2
  simp only [pubRt_eq hs]
set_option maxRecDepth 100000 in
set_option maxHeartbeats 4000000 in
theorem c8_21g (r q p a b m x : D4) : (lim Tryz.prog E47 X47).dat 8 [.agg (a.row ++ b.row), .agg (r.row ++ [iv 1, .sl false 4 (rowG (signP x m)), .sl false 4 (rowG [q, p])])] = some [bv (eqD4 (pairP (pairP q (reachP (linkP a b) (signP x m))) p) r)] := runXd (n := 200) (by kernel_rfl)
theorem c8_21 (s a b : D4) : (lim Tryz.prog E47 X47).dat 8 [.agg (a.row ++ b.row), .agg ((pub2 s).row ++ sigD s (linkP a b) 1 ([pubAt s 0, pairP (pubAt s 2) (pubAt s 3)]))] = some [bv true] := by
  refine (c8_21g _ _ _ _ _ _ _).trans ?_
  rw [reach_sign]
  show some [bv (eqD4 (pub2 s) (pub2 s))] = _
  rw [eqD4_refl]
set_option maxRecDepth 100000 in
set_option maxHeartbeats 4000000 in
theorem p5_22 (s a b : D4) : (lim Tryz.prog E47 X47).dat 5 [.agg (s.row ++ [iv 2, iv 2]), .agg (a.row ++ b.row)] = some [.agg (s.row ++ [iv 2, iv 3]), .agg ((pub2 s).row ++ sigRow s (linkP a b) 2 ([pubAt s 3, pairP (pubAt s 0) (pubAt s 1)])), iv 0] := runXd (n := 200) (by kernel_rfl)
set_option maxRecDepth 100000 in
set_option maxHeartbeats 4000000 in
theorem r6_22r (s a b : D4) : (lim Tryz.prog E47 X47).dat 6 [.agg (s.row ++ [iv 2, iv 2]), .agg (a.row ++ b.row)] = some [.agg (s.row ++ [iv 2, iv 3]), .agg ((pubR2 s).row ++ sigRowR s (linkR a b) 2 ([pubRt s 3, pairP (pubRt s 0) (pubRt s 1)])), iv 0] := runXd (n := 200) (by kernel_rfl)
theorem r6_22 (s a b : D4) (hs : s.U) (ha : a.U) (hb : b.U) : (lim Tryz.prog E47 X47).dat 6 [.agg (s.row ++ [iv 2, iv 2]), .agg (a.row ++ b.row)] = some [.agg (s.row ++ [iv 2, iv 3]), .agg ((pub2 s).row ++ sigRow s (linkP a b) 2 ([pubAt s 3, pairP (pubAt s 0) (pubAt s 1)])), iv 0] := by
  rw [r6_22r, sigRowR_eq hs ha hb]
  unfold pubR2 pub2
  simp only [pubRt_eq hs]
set_option maxRecDepth 100000 in
set_option maxHeartbeats 4000000 in
theorem c8_22g (r q p a b m x : D4) : (lim Tryz.prog E47 X47).dat 8 [.agg (a.row ++ b.row), .agg (r.row ++ [iv 2, .sl false 4 (rowG (signP x m)), .sl false 4 (rowG [q, p])])] = some [bv (eqD4 (pairP p (pairP (reachP (linkP a b) (signP x m)) q)) r)] := runXd (n := 200) (by kernel_rfl)
theorem c8_22 (s a b : D4) : (lim Tryz.prog E47 X47).dat 8 [.agg (a.row ++ b.row), .agg ((pub2 s).row ++ sigD s (linkP a b) 2 ([pubAt s 3, pairP (pubAt s 0) (pubAt s 1)]))] = some [bv true] := by
  refine (c8_22g _ _ _ _ _ _ _).trans ?_
  rw [reach_sign]
  show some [bv (eqD4 (pub2 s) (pub2 s))] = _
  rw [eqD4_refl]
set_option maxRecDepth 100000 in
set_option maxHeartbeats 4000000 in
theorem p5_23 (s a b : D4) : (lim Tryz.prog E47 X47).dat 5 [.agg (s.row ++ [iv 2, iv 3]), .agg (a.row ++ b.row)] = some [.agg (s.row ++ [iv 2, iv 4]), .agg ((pub2 s).row ++ sigRow s (linkP a b) 3 ([pubAt s 2, pairP (pubAt s 0) (pubAt s 1)])), iv 0] := runXd (n := 200) (by kernel_rfl)
set_option maxRecDepth 100000 in
set_option maxHeartbeats 4000000 in
theorem r6_23r (s a b : D4) : (lim Tryz.prog E47 X47).dat 6 [.agg (s.row ++ [iv 2, iv 3]), .agg (a.row ++ b.row)] = some [.agg (s.row ++ [iv 2, iv 4]), .agg ((pubR2 s).row ++ sigRowR s (linkR a b) 3 ([pubRt s 2, pairP (pubRt s 0) (pubRt s 1)])), iv 0] := runXd (n := 200) (by kernel_rfl)
theorem r6_23 (s a b : D4) (hs : s.U) (ha : a.U) (hb : b.U) : (lim Tryz.prog E47 X47).dat 6 [.agg (s.row ++ [iv 2, iv 3]), .agg (a.row ++ b.row)] = some [.agg (s.row ++ [iv 2, iv 4]), .agg ((pub2 s).row ++ sigRow s (linkP a b) 3 ([pubAt s 2, pairP (pubAt s 0) (pubAt s 1)])), iv 0] := by
  rw [r6_23r, sigRowR_eq hs ha hb]
  unfold pubR2 pub2
  simp only [pubRt_eq hs]
set_option maxRecDepth 100000 in
set_option maxHeartbeats 4000000 in
theorem c8_23g (r q p a b m x : D4) : (lim Tryz.prog E47 X47).dat 8 [.agg (a.row ++ b.row), .agg (r.row ++ [iv 3, .sl false 4 (rowG (signP x m)), .sl false 4 (rowG [q, p])])] = some [bv (eqD4 (pairP p (pairP q (reachP (linkP a b) (signP x m)))) r)] := runXd (n := 200) (by kernel_rfl)
theorem c8_23 (s a b : D4) : (lim Tryz.prog E47 X47).dat 8 [.agg (a.row ++ b.row), .agg ((pub2 s).row ++ sigD s (linkP a b) 3 ([pubAt s 2, pairP (pubAt s 0) (pubAt s 1)]))] = some [bv true] := by
  refine (c8_23g _ _ _ _ _ _ _).trans ?_
  rw [reach_sign]
  show some [bv (eqD4 (pub2 s) (pub2 s))] = _
  rw [eqD4_refl]
end Go.Proofs.YtdokejnokhicbaaGreatDoor
