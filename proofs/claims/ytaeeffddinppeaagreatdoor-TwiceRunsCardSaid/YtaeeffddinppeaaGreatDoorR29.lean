/- A part of the proof: To. -/
import Derived.Test.YtaeeffddinppeaaGreatDoorR27
import Derived.Test.YtaeeffddinppeaaGreatDoorR28
set_option linter.unusedSimpArgs false
set_option linter.unusedVariables false
namespace Go.Proofs.YtaeeffddinppeaaGreatDoor
open Go Go.Ab
attribute [-simp] Prog.bind getCs putCs
attribute [local simp ↓] run_bind
attribute [local simp ↓] runF_bind
attribute [local simp] run_getCsN runF_getCsN facetsC putCs_one run_putCsN runF_putCsN facetsW facetsH
set_option maxHeartbeats 4000000 in
theorem g16m (q : Par) (src : ByteArray) (hk : q.kind = 4) (hm : q.mark = ofP src) (hs : src.size ≤ 1000000) : (lim Tryz.prog E47 X47).dat 16 [.agg q.row, .sc (.string src)] = some [.sc (.string q.give), iv 0] := by
  refine fnW Tryz.func16 rfl rfl bodyOk_16 rfl rtys_16 rfl ?_
  have h := e34 src hs
  rw [← hm] at h
  obtain ⟨kind, ps, img, fuel, ⟨d0, d1, d2, d3⟩, give⟩ := q
  simp only at hk hm
  subst hk
  clear hm
  simp only [D4.row, Par.row] at h ⊢
  generalize rowN ps = PR at *
  exact step0
def onceR (r : Option ByteArray) (other : ByteArray) : List AV := match r with
  | none => [iv 12, iv (-1)]
  | some o => if diffB o other = -1 then [iv 0, iv (-1)] else [iv 8, iv (diffB o other)]
set_option maxHeartbeats 4000000 in
theorem g49 (q : Par) (src : ByteArray) (fuel : Int) (hs : src.size ≤ 1048576) (hf : fuel ≤ 4611686018427387903) (hg : q.give.size ≤ 1048576) (h16 : (lim Tryz.prog E47 X47).dat 16 [.agg q.row, .sc (.string src)] = some [.sc (.string q.give), iv 0]) : (lim Tryz.prog E47 X47).dat 49 [.sc (.string src), .agg q.row, iv fuel] = some (resT (goodI q.give src fuel)) := by
  refine fnW Tryz.func49 rfl rfl bodyOk_49 rfl rtys_49 rfl ?_
  have h52 := g52 q.give src fuel hg hs hf
  obtain ⟨kind, ps, img, qf, ⟨d0, d1, d2, d3⟩, give⟩ := q
  simp only [Par.row] at h16 h52 ⊢
  generalize rowN ps = PR at *
  generalize goodI give src fuel = r at *
  clear hf hg hs
  cases r
  all_goals simp only [resT] at h52 ⊢
  all_goals exact step0
set_option maxHeartbeats 4000000 in
theorem g24 (q : Par) (src other : ByteArray) (fuel : Int) (r : Option ByteArray) (ho : other.size ≤ 1048576) (hr : ∀ o, r = some o → o.size ≤ 1048576) (h49 : (lim Tryz.prog E47 X47).dat 49 [.sc (.string src), .agg q.row, iv fuel] = some (resT r)) : (lim Tryz.prog E47 X47).dat 24 [.sc (.string src), .sc (.string other), .agg q.row, iv fuel] = some (onceR r other) := by
  refine fnW Tryz.func24 rfl rfl bodyOk_24 rfl rtys_24 rfl ?_
  obtain ⟨kind, ps, img, qf, ⟨d0, d1, d2, d3⟩, give⟩ := q
  simp only [Par.row] at h49 ⊢
  generalize rowN ps = PR at *
  cases r with
  | none =>
    simp only [resT, onceR] at h49 ⊢
    exact step0
  | some o =>
    have h50 := g50 o other (hr o rfl) ho
    clear ho hr
    simp only [resT, onceR] at h49 ⊢
    by_cases hd : diffB o other = -1
    · rw [if_pos hd]
      rw [hd] at h50
      exact step0
    · rw [if_neg hd]
      have hge : 0 ≤ diffB o other := diffB_ge fun e => hd ((diffB_iff _ _).2 e)
      generalize diffB o other = D at *
      exact step0
def checkR (e1 a1 e2 a2 : Int) : List AV := if e1 ≠ 0 then [iv e1, iv 0, iv a1] else if e2 ≠ 0 then [iv e2, iv 1, iv a2] else [iv 0, iv (-1), iv (-1)]
set_option maxHeartbeats 8000000 in
theorem g22 (q q' : Par) (src other : ByteArray) (fuel e1 a1 e2 a2 : Int) (h1 : (lim Tryz.prog E47 X47).dat 24 [.sc (.string src), .sc (.string other), .agg q.row, iv fuel] = some [iv e1, iv a1]) (h2 : (lim Tryz.prog E47 X47).dat 24 [.sc (.string src), .sc (.string other), .agg q'.row, iv fuel] = some [iv e2, iv a2]) : (lim Tryz.prog E47 X47).dat 22 [.sc (.string src), .sc (.string other), .agg q.row, .agg q'.row, iv fuel] = some [.agg (checkR e1 a1 e2 a2)] := by
  refine fnW Tryz.func22 rfl rfl bodyOk_22 rfl rtys_22 rfl ?_
  obtain ⟨kind, ps, img, qf, ⟨d0, d1, d2, d3⟩, give⟩ := q
  obtain ⟨kind', ps', img', qf', ⟨d0', d1', d2', d3'⟩, give'⟩ := q'
  simp only [Par.row, checkR] at h1 h2 ⊢
  generalize rowN ps = PR at *
  generalize rowN ps' = PR' at *
  have hb1 := bne_dec e1 0
  have hb2 := bne_dec e2 0
  by_cases c1 : e1 = 0
  · subst c1
    by_cases c2 : e2 = 0
    · subst c2
      exact step13
    · simp only [c2, ne_eq, not_true, not_false_iff, if_true, if_false, decide_true, decide_false] at hb2 ⊢
      exact step13
  · simp only [c1, ne_eq, not_true, not_false_iff, if_true, if_false, decide_true, decide_false] at hb1 ⊢
    exact step13
end Go.Proofs.YtaeeffddinppeaaGreatDoor
