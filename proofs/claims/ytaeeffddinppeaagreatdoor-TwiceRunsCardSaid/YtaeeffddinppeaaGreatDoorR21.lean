/- A part of the proof: Tl, Tm. -/
import Derived.Test.YtaeeffddinppeaaGreatDoorR19
set_option linter.unusedSimpArgs false
set_option linter.unusedVariables false
namespace Go.Proofs.YtaeeffddinppeaaGreatDoor
open Go Go.Ab
attribute [-simp] Prog.bind getCs putCs
attribute [local simp ↓] run_bind
attribute [local simp ↓] runF_bind
attribute [local simp] run_getCsN runF_getCsN facetsC putCs_one run_putCsN runF_putCsN facetsW facetsH
theorem g63 (s : ByteArray) (hs : s.size ≤ 1048576) : (lim Tryz.prog E47 X47).dat 63 [.sc (.string s)] = some (readR s) := lim_dat.2 ⟨0, by show X47.dat 63 _ = _; simp [X47, readO, hs]⟩
theorem wordsOf_U (s : ByteArray) : ∀ x ∈ wordsOf s, Ma.U x := by
  intro x hx
  unfold wordsOf upto at hx
  obtain ⟨i, _, rfl⟩ := List.mem_map.1 hx
  exact wordAt_range s _
def runI (code : List Int) (data : Nat) (inp : ByteArray) (fuel : Int) : Ma.PS := Ma.runP code (inpF inp) fuel.toNat (startM (List.replicate data 0))
def endI (s : Ma.PS) : Int := if s.en = 0 then 5 else s.en
theorem g155 (code : List Int) (data : Nat) (inp : ByteArray) (fuel : Int) (hU : ∀ x ∈ code, Ma.U x) (hc : code.length ≤ 1048576) (hd : data ≤ 32768) (hi : inp.size ≤ 1048576) (hf : fuel ≤ 4611686018427387904) (dd : Int) :
    (lim Tryz.prog E47 X47).dat 155 [.agg [.sl false 1 (rowW code), iv dd], .sc (.string inp), .agg (stA (List.replicate data 0)), iv fuel] = some [resS (runI code data inp fuel)] := by
  refine lim_dat.2 ⟨0, ?_⟩
  show X47.dat 155 _ = _
  simp only [X47]
  rw [if_neg (by decide), if_pos trivial]
  exact goO_eq hU (fun x hx => by rw [(List.mem_replicate.1 hx).2]; exact ⟨by decide, by decide⟩) (by simp; omega) hi hc hf
set_option maxHeartbeats 4000000 in
theorem g156 (code : List Int) (data : Nat) (hd : data ≤ 32768)  : (lim Tryz.prog E47 X47).dat 156 [.agg [.sl false 1 (rowW code), iv data]] = some [.agg [iv 0, uv 0, uv 0, uv 0, uv 0, uv 0, uv 0, uv 0, uv 0, uv 0, uv 0, uv 0, uv 0, uv 0, uv 0, uv 0, uv 0, .vec 1 (rowW (List.replicate data 0)), iv 0, .sc (.string ⟨#[]⟩), iv 0, iv 0]] := by
  refine fnW Tryz.func156 rfl rfl bodyOk_156 rfl rtys_156 rfl ?_
  have n1 : (data : Int) ≤ 32768 := by omega
  have n2 : (data : Int) * 4 ≤ 140737488355328 := by omega
  have n3 : (data : Int) ≤ 9223372036854775807 := by omega
  have n4 : (rowW (List.replicate data 0)) = List.replicate data [uv 0] := by simp
  rw [n4]
  clear n4
  by_cases h0 : (0 : Int) < data
  · clear hd
    exact step8
  · obtain rfl : data = 0 := by omega
    clear hd n1 n2 n3 h0
    exact step9
theorem runI_ok (code : List Int) (data : Nat) (inp : ByteArray) (fuel : Int) (hU : ∀ x ∈ code, Ma.U x) (hc : code.length ≤ 1048576) : Ma.Ok inp.size (runI code data inp fuel) :=
  Ma.runP_ok (by omega) hU (inpF_spec inp) _ (startM_ok fun x hx => by rw [(List.mem_replicate.1 hx).2]; exact ⟨by decide, by decide⟩)
set_option maxHeartbeats 4000000 in
theorem g109 (code : List Int) (data : Nat) (inp : ByteArray) (fuel : Int) (hU : ∀ x ∈ code, Ma.U x) (hc : code.length ≤ 1048576) (hd : data ≤ 32768) (hi : inp.size ≤ 1048576) (hf : fuel ≤ 4611686018427387904)  : (lim Tryz.prog E47 X47).dat 109 [.agg [.sl false 1 (rowW code), iv data], .sc (.string inp), iv fuel] = some [.agg [iv (endI (runI code data inp fuel)), .sc (.string (outT (runI code data inp fuel).out)), iv (runI code data inp fuel).steps]] := by
  refine fnW Tryz.func109 rfl rfl bodyOk_109 rfl rtys_109 rfl ?_
  have h155 := g155 code data inp fuel hU hc hd hi hf data
  have h156 := g156 code data hd
  have hok := runI_ok code data inp fuel hU hc
  generalize runI code data inp fuel = s at *
  obtain ⟨pc, rg, mem, rd, out, steps, en, own⟩ := s
  obtain ⟨x0, x1, x2, x3, x4, x5, x6, x7, x8, x9, x10, x11, x12, x13, x14, x15, rfl⟩ := reg16 hok.rl
  unfold resS at h155
  unfold stA at h155
  simp only [List.map_cons, List.map_nil, List.cons_append, List.nil_append] at h155
  unfold endI
  simp only
  have hb := beq_dec en 0
  clear hok hU hc hd hi hf
  generalize rowW code = RC at *
  generalize rowW (List.replicate data 0) = RM at *
  generalize rowW mem = RN at *
  generalize outT out = OT at *
  by_cases he : en = 0
  all_goals simp only [he, if_true, if_false, decide_true, decide_false] at hb ⊢
  all_goals (try subst he)
  all_goals cases own
  all_goals simp only [if_true, if_false, Bool.false_eq_true] at h155
  all_goals exact step0
theorem imgB_spec {s : ByteArray} (h : imgB s = true) : s.size ≤ 65548 ∧ (wordAt s 8).toNat ≤ 32768 ∧ (codeOf s).length ≤ 1048576 ∧ (((wordAt s 8).toNat : Nat) : Int) = wordAt s 8 := by
  have h1 := (imgB_iff s).1 h
  obtain ⟨_, _, h2, h3, _⟩ := h1
  have h4 := wordAt_range s 8
  refine ⟨h2, by omega, ?_, by omega⟩
  unfold codeOf wordsOf upto
  simp
  have : (s.extract 12 s.size).size ≤ s.size := by rw [ByteArray.size_extract]; omega
  omega
def stI (img src : ByteArray) (fuel : Int) : Ma.PS := runI (codeOf img) (wordAt img 8).toNat src fuel
def bytesR (img src : ByteArray) (fuel : Int) : List AV := if imgB img then [.agg [iv (endI (stI img src fuel)), .sc (.string (outT (stI img src fuel).out)), iv (stI img src fuel).steps], iv 0] else [.agg [iv 0, .sc (.string ⟨#[]⟩), iv 0], iv 7]
set_option maxHeartbeats 4000000 in
theorem g70 (img src : ByteArray) (fuel : Int) (hm : img.size ≤ 1048576) (hi : src.size ≤ 1048576) (hf : fuel ≤ 4611686018427387904) : (lim Tryz.prog E47 X47).dat 70 [.sc (.string img), .sc (.string src), iv fuel] = some (bytesR img src fuel) := by
  refine fnW Tryz.func70 rfl rfl bodyOk_70 rfl rtys_70 rfl ?_
  have h63 := g63 img hm
  unfold readR at h63
  unfold bytesR
  cases hb : imgB img with
  | false =>
    rw [hb] at h63
    simp only [Bool.false_eq_true, if_false] at h63 ⊢
    exact step0
  | true =>
    rw [hb] at h63
    simp only [if_true] at h63 ⊢
    obtain ⟨e1, e2, e3, e4⟩ := imgB_spec hb
    have h109 := g109 (codeOf img) (wordAt img 8).toNat src fuel (wordsOf_U _) e3 e2 hi hf
    rw [e4] at h109
    unfold stI
    generalize runI (codeOf img) (wordAt img 8).toNat src fuel = s at *
    generalize rowW (codeOf img) = RC at *
    generalize outT s.out = OT at *
    generalize endI s = EN at *
    clear e1 e2 e3 e4 hf hi hm hb
    exact step0
end Go.Proofs.YtaeeffddinppeaaGreatDoor
namespace Go.Proofs.YtaeeffddinppeaaGreatDoor
open Go Go.Ab
attribute [-simp] Prog.bind getCs putCs
attribute [local simp ↓] run_bind
attribute [local simp ↓] runF_bind
attribute [local simp] run_getCsN runF_getCsN facetsC putCs_one run_putCsN runF_putCsN facetsW facetsH
def goodI (img src : ByteArray) (fuel : Int) : Option ByteArray := if imgB img = true ∧ endI (stI img src fuel) = 1 then some (outT (stI img src fuel).out) else none
def resT : Option ByteArray → List AV
  | some o => [.sc (.string o), bv true]
  | none => [.sc (.string ⟨#[]⟩), bv false]
def resE (img src : ByteArray) (fuel : Int) : List AV := match goodI img src fuel with
  | some o => [.sc (.string o), iv 0]
  | none => [.sc (.string ⟨#[]⟩), iv (if imgB img then 12 else 7)]
set_option maxHeartbeats 4000000 in
theorem g52 (img src : ByteArray) (fuel : Int) (hm : img.size ≤ 1048576) (hi : src.size ≤ 1048576) (hf : fuel ≤ 4611686018427387903) : (lim Tryz.prog E47 X47).dat 52 [.sc (.string img), .sc (.string src), iv fuel] = some (resT (goodI img src fuel)) := by
  refine fnW Tryz.func52 rfl rfl bodyOk_52 rfl rtys_52 rfl ?_
  have h70 := g70 img src fuel hm hi (by omega)
  have hmn : min fuel 4611686018427387903 = fuel := Int.min_eq_left hf
  unfold bytesR at h70
  unfold goodI
  generalize outT (stI img src fuel).out = OT at *
  generalize endI (stI img src fuel) = EN at *
  generalize (stI img src fuel).steps = SN at *
  have hb := bne_dec EN 1
  clear hf hi hm
  cases hi : imgB img
  all_goals rw [hi] at h70
  all_goals by_cases he : EN = 1
  all_goals simp only [he, ne_eq, not_true, not_false_iff, and_true, and_false, true_and, if_true, if_false, Bool.false_eq_true, decide_true, decide_false, resT] at h70 hb ⊢
  all_goals (try subst he)
  all_goals exact step0
set_option maxHeartbeats 4000000 in
theorem g42 (img src : ByteArray) (fuel : Int) (hm : img.size ≤ 1048576) (hi : src.size ≤ 1048576) (hf : fuel ≤ 4611686018427387903) : (lim Tryz.prog E47 X47).dat 42 [.sc (.string img), .sc (.string src), iv fuel] = some (resE img src fuel) := by
  refine fnW Tryz.func42 rfl rfl bodyOk_42 rfl rtys_42 rfl ?_
  have h70 := g70 img src fuel hm hi (by omega)
  have hmn : min fuel 4611686018427387903 = fuel := Int.min_eq_left hf
  unfold bytesR at h70
  unfold resE goodI
  generalize outT (stI img src fuel).out = OT at *
  generalize endI (stI img src fuel) = EN at *
  generalize (stI img src fuel).steps = SN at *
  have hb := bne_dec EN 1
  clear hf hi hm
  cases hi : imgB img
  all_goals rw [hi] at h70
  all_goals by_cases he : EN = 1
  all_goals simp only [he, ne_eq, not_true, not_false_iff, and_true, and_false, true_and, if_true, if_false, Bool.false_eq_true, decide_true, decide_false, resT] at h70 hb ⊢
  all_goals (try subst he)
  all_goals exact step0
end Go.Proofs.YtaeeffddinppeaaGreatDoor
