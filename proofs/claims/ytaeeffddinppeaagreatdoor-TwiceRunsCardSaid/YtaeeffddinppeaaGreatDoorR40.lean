/- A part of the proof: Vl, Vr. -/
import Derived.Test.YtaeeffddinppeaaGreatDoorR38
import Derived.Test.YtaeeffddinppeaaGreatDoorR39
import Derived.Test.YtaeeffddinppeaaGreatDoorR21
import Derived.Test.YtaeeffddinppeaaGreatDoorR30
import Derived.Test.YtaeeffddinppeaaGreatDoorR31
set_option linter.unusedSimpArgs false
set_option linter.unusedVariables false
namespace Go.Proofs.YtaeeffddinppeaaGreatDoor
open Go Go.Ab
attribute [-simp] Prog.bind getCs putCs
attribute [local simp ↓] run_bind
attribute [local simp ↓] runF_bind
attribute [local simp] run_getCsN runF_getCsN facetsC putCs_one run_putCsN runF_putCsN facetsW facetsH
set_option maxHeartbeats 4000000 in
theorem s75 (code : List Int) (data : Nat) (hd : data ≤ 32768)  : (lim Tryz.prog E47 X47).dat 75 [.agg [.sl false 1 (rowW code), iv data]] = some [.agg [iv 0, uv 0, uv 0, uv 0, uv 0, uv 0, uv 0, uv 0, uv 0, uv 0, uv 0, uv 0, uv 0, uv 0, uv 0, uv 0, uv 0, .vec 1 (rowW (List.replicate data 0)), iv 0, .sc (.string ⟨#[]⟩), iv 0, iv 0]] := by
  refine fnW Tryz.func75 rfl rfl bodyOk_75 rfl rtys_75 rfl ?_
  have n1 : (data : Int) ≤ 32768 := by omega
  have n2 : (data : Int) * 4 ≤ 140737488355328 := by omega
  have n3 : (data : Int) ≤ 9223372036854775807 := by omega
  have n4 : (rowW (List.replicate data 0)) = List.replicate data [uv 0] := by simp
  rw [n4]
  clear n4
  by_cases h0 : (0 : Int) < data
  · clear hd
    exact step8
  · obtain rfl : data = 0 := by omega
    clear hd n1 n2 n3 h0
    exact step9
def resR (s : Ma.PS) : AV := .agg (iv s.pc :: (s.rg.map uv ++ [.vec 1 (rowW s.mem), iv s.rd, .sc (.string (outT s.out)), iv s.steps, iv s.en]))
set_option maxHeartbeats 8000000 in
theorem s74 (code : List Int) (data : Nat) (inp : ByteArray) (fuel : Int) (hU : ∀ x ∈ code, Ma.U x) (hc : code.length ≤ 1048576) (hd : data ≤ 32768) (hi : inp.size ≤ 1048576) (hf : fuel ≤ 4611686018427387904) (dd : Int)  : (lim Tryz.prog E47 X47).dat 74 [.agg [.sl false 1 (rowW code), iv dd], .sc (.string inp), .agg (stA (List.replicate data 0)), iv fuel] = some [resR (runI code data inp fuel)] := by
  refine fnW Tryz.func74 rfl rfl bodyOk_74 rfl rtys_74 rfl ?_
  obtain ⟨rs, h114, cs, hrs⟩ := s114 code (List.replicate data 0) inp fuel dd hc hU (fun x hx => by rw [(List.mem_replicate.1 hx).2]; exact ⟨by decide, by decide⟩) (by simp; omega) hi hf
  have hok := runI_ok code data inp fuel hU hc
  have hre : Ma.runP code (inpF inp) fuel.toNat (startM (List.replicate data 0)) = runI code data inp fuel := rfl
  rw [hre] at hrs
  rw [hrs] at h114
  clear hrs hre
  unfold resR
  unfold stA at h114 ⊢
  generalize runI code data inp fuel = s at *
  obtain ⟨pc, rg, mem, rd, out, steps, en, own⟩ := s
  obtain ⟨x0, x1, x2, x3, x4, x5, x6, x7, x8, x9, x10, x11, x12, x13, x14, x15, rfl⟩ := reg16 hok.rl
  simp only [List.map_cons, List.map_nil, List.cons_append, List.nil_append] at h114 ⊢
  have hml2 : (rowW mem).length = mem.length := List.length_map ..
  clear hok hU hc hd hi hf
  generalize rowW code = RC at *
  generalize rowW (List.replicate data 0) = RM at *
  generalize rowW mem = RN at *
  generalize outT out = OT at *
  exact step0
set_option maxHeartbeats 8000000 in
theorem s51 (code : List Int) (data : Nat) (inp : ByteArray) (fuel : Int) (hU : ∀ x ∈ code, Ma.U x) (hc : code.length ≤ 1048576) (hd : data ≤ 32768) (hi : inp.size ≤ 1048576) (hf : fuel ≤ 4611686018427387904)  : (lim Tryz.prog E47 X47).dat 51 [.agg [.sl false 1 (rowW code), iv data], .sc (.string inp), iv fuel] = some [.agg [iv (endI (runI code data inp fuel)), .sc (.string (outT (runI code data inp fuel).out)), iv (runI code data inp fuel).steps]] := by
  refine fnW Tryz.func51 rfl rfl bodyOk_51 rfl rtys_51 rfl ?_
  have h74 := s74 code data inp fuel hU hc hd hi hf data
  have h75 := s75 code data hd
  have hok := runI_ok code data inp fuel hU hc
  generalize runI code data inp fuel = s at *
  obtain ⟨pc, rg, mem, rd, out, steps, en, own⟩ := s
  obtain ⟨x0, x1, x2, x3, x4, x5, x6, x7, x8, x9, x10, x11, x12, x13, x14, x15, rfl⟩ := reg16 hok.rl
  unfold resR at h74
  unfold stA at h74
  simp only [List.map_cons, List.map_nil, List.cons_append, List.nil_append] at h74
  unfold endI
  simp only
  have hb := beq_dec en 0
  have hml2 : (rowW mem).length = mem.length := List.length_map ..
  clear hok hU hc hd hi hf
  generalize rowW code = RC at *
  generalize rowW (List.replicate data 0) = RM at *
  generalize rowW mem = RN at *
  generalize outT out = OT at *
  by_cases he : en = 0
  all_goals simp only [he, if_true, if_false, decide_true, decide_false] at hb ⊢
  all_goals (try subst he)
  all_goals exact step0
set_option maxHeartbeats 4000000 in
theorem s25 (img src : ByteArray) (fuel : Int) (hm : img.size ≤ 1048576) (hi : src.size ≤ 1048576) (hf : fuel ≤ 4611686018427387904) : (lim Tryz.prog E47 X47).dat 25 [.sc (.string img), .sc (.string src), iv fuel] = some (bytesR img src fuel) := by
  refine fnW Tryz.func25 rfl rfl bodyOk_25 rfl rtys_25 rfl ?_
  have h63 := d9 img hm
  unfold readR at h63
  unfold bytesR
  cases hb : imgB img with
  | false =>
    rw [hb] at h63
    simp only [Bool.false_eq_true, if_false] at h63 ⊢
    exact step0
  | true =>
    rw [hb] at h63
    simp only [if_true] at h63 ⊢
    obtain ⟨e1, e2, e3, e4⟩ := imgB_spec hb
    have h109 := s51 (codeOf img) (wordAt img 8).toNat src fuel (wordsOf_U _) e3 e2 hi hf
    rw [e4] at h109
    unfold stI
    generalize runI (codeOf img) (wordAt img 8).toNat src fuel = s at *
    generalize rowW (codeOf img) = RC at *
    generalize outT s.out = OT at *
    generalize endI s = EN at *
    clear e1 e2 e3 e4 hf hi hm hb
    exact step0
end Go.Proofs.YtaeeffddinppeaaGreatDoor
namespace Go.Proofs.YtaeeffddinppeaaGreatDoor
open Go Go.Ab
attribute [-simp] Prog.bind getCs putCs
attribute [local simp ↓] run_bind
attribute [local simp ↓] runF_bind
attribute [local simp] run_getCsN runF_getCsN facetsC putCs_one run_putCsN runF_putCsN facetsW facetsH
theorem goodI_size {img src : ByteArray} {fuel : Int} {o : ByteArray} (h : goodI img src fuel = some o) : o.size ≤ 65536 := by
  unfold goodI at h
  split at h
  · rename_i hc
    cases h
    obtain ⟨_, _, e3, _⟩ := imgB_spec hc.1
    have hok := runI_ok (codeOf img) (wordAt img 8).toNat src fuel (wordsOf_U _) e3
    show (toBytes _).length ≤ _
    rw [toBytes_len]
    exact hok.ol
  · cases h
def secI (q : Par) (src : ByteArray) (fuel : Int) : Option ByteArray := match goodI q.img src q.fuel with
  | some o => goodI o src fuel
  | none => none
set_option maxHeartbeats 4000000 in
theorem g49i (q : Par) (src : ByteArray) (fuel : Int) (hk : q.kind = 3) (hm : q.img.size ≤ 1048576) (hs : src.size ≤ 1048576) (hf : q.fuel ≤ 4611686018427387903) (hf2 : fuel ≤ 4611686018427387903) : (lim Tryz.prog E47 X47).dat 49 [.sc (.string src), .agg q.row, iv fuel] = some (resT (secI q src fuel)) := by
  refine fnW Tryz.func49 rfl rfl bodyOk_49 rfl rtys_49 rfl ?_
  have h16 := g16i q src hk hm hs hf
  have h52 := fun o ho => g52 o src fuel ho hs hf2
  unfold resE at h16
  unfold secI
  cases hg : goodI q.img src q.fuel with
  | none =>
    rw [hg] at h16
    simp only at h16 ⊢
    have he : (if imgB q.img = true then (12 : Int) else 7) ≠ 0 := by split <;> decide
    have hb := bne_dec (if imgB q.img = true then (12 : Int) else 7) 0
    rw [decide_eq_true he] at hb
    generalize (if imgB q.img = true then (12 : Int) else 7) = EI at *
    obtain ⟨kind, ps, img, qf, ⟨d0, d1, d2, d3⟩, give⟩ := q
    simp only [Par.row] at h16 ⊢
    generalize rowN ps = PR at *
    clear hg hk hm hs hf hf2 h52
    exact step0
  | some o =>
    rw [hg] at h16
    simp only at h16 ⊢
    have h52 := h52 o (by have := goodI_size hg; omega)
    obtain ⟨kind, ps, img, qf, ⟨d0, d1, d2, d3⟩, give⟩ := q
    simp only [Par.row] at h16 ⊢
    generalize rowN ps = PR at *
    clear hg hk hm hs hf hf2
    generalize goodI o src fuel = r at *
    cases r
    all_goals simp only [resT] at h52 ⊢
    all_goals exact step0
def lightB (q : Par) : Bool := decide (q.img.size ≤ 4000) && decide (q.give.size ≤ 4000) && decide (q.ps.length ≤ 4) && decide (q.fuel ≤ 20000)
set_option maxHeartbeats 4000000 in
theorem g23 (q : Par) : (lim Tryz.prog E47 X47).dat 23 [.agg q.row] = some [bv (lightB q)] := by
  refine fnW Tryz.func23 rfl rfl bodyOk_23 rfl rtys_23 rfl ?_
  obtain ⟨kind, ps, img, qf, ⟨d0, d1, d2, d3⟩, give⟩ := q
  have hl : (rowN ps).length = ps.length := List.length_map ..
  unfold lightB
  simp only [Par.row]
  generalize rowN ps = PR at *
  have e1 : decide ((img.size : Int) ≤ 4000) = decide (img.size ≤ 4000) := decide_eq_decide.2 (by omega)
  have e2 : decide ((give.size : Int) ≤ 4000) = decide (give.size ≤ 4000) := decide_eq_decide.2 (by omega)
  have e3 : decide ((PR.length : Int) ≤ 4) = decide (ps.length ≤ 4) := decide_eq_decide.2 (by omega)
  clear hl
  by_cases c1 : img.size ≤ 4000
  all_goals by_cases c2 : give.size ≤ 4000
  all_goals by_cases c3 : ps.length ≤ 4
  all_goals simp only [c1, c2, c3, decide_true, decide_false] at e1 e2 e3
  all_goals simp only [decide_eq_true_eq, decide_eq_false_iff_not] at e1 e2 e3
  all_goals exact step1
def askR (src bin : ByteArray) (p q : Par) (fuel : Int) : List AV := .sc (.string src) :: .sc (.string bin) :: (p.row ++ q.row ++ [iv fuel])
set_option maxHeartbeats 8000000 in
theorem g6 (src bin : ByteArray) (p q : Par) (fuel : Int) : (lim Tryz.prog E47 X47).dat 6 [.agg (askR src bin p q fuel)] = some [bv true] := by
  refine fnW Tryz.func6 rfl rfl bodyOk_6 rfl rtys_6 rfl ?_
  have h20 := g20
  have h23 := g23 p
  have hq : ∀ q : Par, q.row = [iv q.kind, .sl false 1 (rowN q.ps), .sc (.string q.img), iv q.fuel, uv q.mark.d0, uv q.mark.d1, uv q.mark.d2, uv q.mark.d3, .sc (.string q.give)] := fun _ => rfl
  unfold askR
  have hP := Lib.hid (rfl : p = p)
  by_cases hs : (400 : Int) < src.size
  · simp only [hq, List.cons_append, List.nil_append] at h23 ⊢
    exact step0
  by_cases hbn : (4000 : Int) < bin.size
  · simp only [hq, List.cons_append, List.nil_append] at h23 ⊢
    exact step0
  cases hl : lightB p with
  | false =>
    rw [hl] at h23
    simp only [hq, List.cons_append, List.nil_append] at h23 ⊢
    exact step0
  | true =>
  rw [hl] at h23
  by_cases hf : (20000 : Int) < fuel
  · simp only [hq, List.cons_append, List.nil_append] at h23 ⊢
    exact step0
  have hkb := bne_dec p.kind 3
  by_cases hk : p.kind = 3
  · simp only [hk, ne_eq, not_true, decide_false] at hkb
    unfold lightB at hl
    simp only [Bool.and_eq_true, decide_eq_true_eq] at hl
    obtain ⟨⟨⟨l1, l2⟩, l3⟩, l4⟩ := hl
    have h49 := g49i p src fuel hk (by omega) (by omega) (by omega) (by omega)
    have h24 := g24 p src bin fuel (secI p src fuel) (by omega) (fun o ho => by
      unfold secI at ho
      split at ho
      · have := goodI_size ho; omega
      · cases ho) h49
    have h25 := s25 p.img src p.fuel (by omega) (by omega) (by omega)
    unfold bytesR at h25
    cases hi : imgB p.img with
    | false =>
      have hgn : goodI p.img src p.fuel = none := by unfold goodI; rw [if_neg (by rw [hi]; simp)]
      unfold secI at h24
      rw [hgn] at h24
      rw [hi] at h25
      simp only [onceR, Bool.false_eq_true, if_false] at h24 h25
      simp only [hq, List.cons_append, List.nil_append] at h23 h24 ⊢
      rw [hk] at h23 h24 ⊢
      clear hgn h49
      exact step0
    | true =>
      rw [hi] at h25
      simp only [if_true] at h25
      have hb1 := bne_dec (endI (stI p.img src p.fuel)) 1
      by_cases he : endI (stI p.img src p.fuel) = 1
      · have hgn : goodI p.img src p.fuel = some (outT (stI p.img src p.fuel).out) := by unfold goodI; rw [if_pos ⟨hi, he⟩]
        have hsz := goodI_size hgn
        unfold secI at h24
        rw [hgn] at h24
        rw [he] at h25 hb1
        simp only [ne_eq, not_true, decide_false] at hb1
        simp only at h24
        have h25b := s25 (outT (stI p.img src p.fuel).out) src fuel (by omega) (by omega) (by omega)
        generalize outT (stI p.img src p.fuel).out = O1 at *
        generalize (stI p.img src p.fuel).steps = S1 at *
        unfold bytesR at h25b
        cases hi2 : imgB O1 with
        | false =>
          have hgn2 : goodI O1 src fuel = none := by unfold goodI; rw [if_neg (by rw [hi2]; simp)]
          rw [hgn2] at h24
          rw [hi2] at h25b
          simp only [onceR, Bool.false_eq_true, if_false] at h24 h25b
          simp only [hq, List.cons_append, List.nil_append] at h23 h24 ⊢
          rw [hk] at h23 h24 ⊢
          clear hgn hgn2 h49 he
          exact step0
        | true =>
          rw [hi2] at h25b
          simp only [if_true] at h25b
          have hb2 := beq_dec (endI (stI O1 src fuel)) 1
          by_cases he2 : endI (stI O1 src fuel) = 1
          · have hgn2 : goodI O1 src fuel = some (outT (stI O1 src fuel).out) := by unfold goodI; rw [if_pos ⟨hi2, he2⟩]
            rw [hgn2] at h24
            rw [he2] at h25b hb2
            simp only [decide_true] at hb2
            simp only [onceR] at h24
            generalize outT (stI O1 src fuel).out = O2 at *
            generalize (stI O1 src fuel).steps = S2 at *
            by_cases hd : O2 = bin
            · rw [if_pos ((diffB_iff _ _).2 hd)] at h24
              simp only [hq, List.cons_append, List.nil_append] at h23 h24 ⊢
              rw [hk] at h23 h24 ⊢
              clear hgn hgn2 h49 he he2 hsz
              subst hd
              exact step0
            · rw [if_neg (fun h => hd ((diffB_iff _ _).1 h))] at h24
              have hd2 : decide (O2 = bin) = false := decide_eq_false hd
              generalize diffB O2 bin = D at *
              simp only [hq, List.cons_append, List.nil_append] at h23 h24 ⊢
              rw [hk] at h23 h24 ⊢
              clear hgn hgn2 h49 he he2 hsz
              exact step0
          · have hgn2 : goodI O1 src fuel = none := by unfold goodI; rw [if_neg (fun h => he2 h.2)]
            rw [hgn2] at h24
            simp only [he2, decide_false] at hb2
            simp only [onceR] at h24
            generalize outT (stI O1 src fuel).out = O2 at *
            generalize (stI O1 src fuel).steps = S2 at *
            generalize endI (stI O1 src fuel) = E2 at *
            simp only [hq, List.cons_append, List.nil_append] at h23 h24 ⊢
            rw [hk] at h23 h24 ⊢
            clear hgn hgn2 h49 he hsz
            exact step0
      · have hgn : goodI p.img src p.fuel = none := by unfold goodI; rw [if_neg (fun h => he h.2)]
        unfold secI at h24
        rw [hgn] at h24
        simp only [he, ne_eq, not_false_iff, decide_true] at hb1
        simp only [onceR] at h24
        generalize outT (stI p.img src p.fuel).out = O1 at *
        generalize (stI p.img src p.fuel).steps = S1 at *
        generalize endI (stI p.img src p.fuel) = E1 at *
        simp only [hq, List.cons_append, List.nil_append] at h23 h24 ⊢
        rw [hk] at h23 h24 ⊢
        clear hgn h49
        exact step0
  · simp only [hk, ne_eq, not_false_iff, decide_true] at hkb
    simp only [hq, List.cons_append, List.nil_append] at h23 ⊢
    exact step0
end Go.Proofs.YtaeeffddinppeaaGreatDoor
