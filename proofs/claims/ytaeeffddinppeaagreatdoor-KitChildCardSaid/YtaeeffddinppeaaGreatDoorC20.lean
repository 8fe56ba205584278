/- A part of the proof: Ip6. -/
import Derived.Test.YtaeeffddinppeaaGreatDoorC06
import Derived.Test.YtaeeffddinppeaaGreatDoorC08
import Derived.Test.YtaeeffddinppeaaGreatDoorC19
set_option linter.unusedSimpArgs false
set_option linter.unusedVariables false
namespace Go.Proofs.YtaeeffddinppeaaGreatDoor
open Go Go.Ab Go.RowKit
def imgB (s : ByteArray) : Bool := decide (12 ≤ s.size) && decide (s.extract 0 4 = ⟨#[83, 69, 69, 68]⟩) && decide (s.size ≤ 65548) && decide (wordAt s 8 ≤ 32768) && decide ((s.size : Int) = 12 + 4 * wordAt s 4)
theorem imgB_iff (s : ByteArray) : imgB s = true ↔ isImg s := by
  unfold imgB isImg
  simp only [Bool.and_eq_true, decide_eq_true_eq]
  exact ⟨fun ⟨⟨⟨⟨a, b⟩, c⟩, d⟩, e⟩ => ⟨a, b, c, d, e⟩, fun ⟨a, b, c, d, e⟩ => ⟨⟨⟨⟨a, b⟩, c⟩, d⟩, e⟩⟩
def codeOf (s : ByteArray) : List Int := wordsOf (s.extract 12 s.size)
def readR (s : ByteArray) : List AV := if imgB s then [.agg [.vec 1 (rowW (codeOf s)), iv (wordAt s 8)], iv 0] else [.agg [.vec 1 [], iv 0], iv 7]
def readO : List AV → Option (List AV)
  | [.sc (.string s)] => if s.size ≤ 1048576 then some (readR s) else none
  | _ => none
def unW : List (List AV) → Option (List Int)
  | [] => some []
  | [.sc (.int .u32 x)] :: r => (unW r).map (x :: ·)
  | _ => none
theorem unW_row : ∀ l : List Int, unW (rowW l) = some l
  | [] => rfl
  | x :: l => by show (unW (rowW l)).map (x :: ·) = _; rw [unW_row l]; rfl
theorem row_unW : ∀ {rows : List (List AV)} {l : List Int}, unW rows = some l → rows = rowW l
  | [], l, h => by cases h; rfl
  | r :: rows, l, h => by
    unfold unW at h
    split at h
    · rename_i heq; cases heq
    · rename_i x r' heq
      cases heq
      cases hr : unW rows with
      | none => rw [hr] at h; cases h
      | some l' =>
        rw [hr] at h
        cases h
        rw [row_unW hr]
        rfl
    · cases h
def isI (n : Int) : AV → Bool
  | .sc (.int .i64 m) => m == n
  | _ => false
def isU (n : Int) : AV → Bool
  | .sc (.int .u32 m) => m == n
  | _ => false
def isE : AV → Bool
  | .sc (.string s) => decide (s = ⟨#[]⟩)
  | _ => false
theorem isI_eq {n : Int} {a : AV} (h : isI n a = true) : a = iv n := by
  unfold isI at h
  split at h
  · simp at h; rw [h]
  · cases h
theorem isU_eq {n : Int} {a : AV} (h : isU n a = true) : a = uv n := by
  unfold isU at h
  split at h
  · simp at h; rw [h]
  · cases h
theorem isE_eq {a : AV} (h : isE a = true) : a = .sc (.string ⟨#[]⟩) := by
  unfold isE at h
  split at h
  · simp at h; rw [h]
  · cases h
def unS : List AV → Option (List Int)
  | [p, a0, a1, a2, a3, a4, a5, a6, a7, a8, a9, a10, a11, a12, a13, a14, a15, .sl false 1 m, r, o, s, e] =>
    if isI 0 p && isU 0 a0 && isU 0 a1 && isU 0 a2 && isU 0 a3 && isU 0 a4 && isU 0 a5 && isU 0 a6 && isU 0 a7 && isU 0 a8 && isU 0 a9 && isU 0 a10 && isU 0 a11 && isU 0 a12 && isU 0 a13 && isU 0 a14 && isU 0 a15 && isI 0 r && isE o && isI 0 s && isI 0 e then unW m else none
  | _ => none
theorem unS_eq {st : List AV} {mem : List Int} (h : unS st = some mem) : st = stA mem := by
  unfold unS at h
  split at h
  · split at h
    · rename_i hc
      simp only [Bool.and_eq_true] at hc
      obtain ⟨⟨⟨⟨⟨⟨⟨⟨⟨⟨⟨⟨⟨⟨⟨⟨⟨⟨⟨⟨h1, h2⟩, h3⟩, h4⟩, h5⟩, h6⟩, h7⟩, h8⟩, h9⟩, h10⟩, h11⟩, h12⟩, h13⟩, h14⟩, h15⟩, h16⟩, h17⟩, h18⟩, h19⟩, h20⟩, h21⟩ := hc
      rw [isI_eq h1, isU_eq h2, isU_eq h3, isU_eq h4, isU_eq h5, isU_eq h6, isU_eq h7, isU_eq h8, isU_eq h9, isU_eq h10, isU_eq h11, isU_eq h12, isU_eq h13, isU_eq h14, isU_eq h15, isU_eq h16, isU_eq h17, isI_eq h18, isE_eq h19, isI_eq h20, isI_eq h21, row_unW h]
      rfl
    · cases h
  · cases h
theorem unS_st (mem : List Int) : unS (stA mem) = some mem := by
  unfold unS stA
  simp [isI, isU, isE, unW_row, iv, uv]
def allU (l : List Int) : Bool := l.all fun x => decide (0 ≤ x) && decide (x < 4294967296)
theorem allU_iff (l : List Int) : allU l = true ↔ ∀ x ∈ l, Ma.U x := by
  unfold allU Ma.U
  simp
def goO : List AV → Option (List AV)
  | [.agg [.sl false 1 rows, .sc (.int .i64 _)], .sc (.string inp), .agg st, .sc (.int .i64 fuel)] => match unW rows, unS st with
    | some code, some mem => if allU code && allU mem && decide (mem.length ≤ 1048576) && decide (inp.size ≤ 1048576) && decide (code.length ≤ 1048576) && decide (fuel ≤ 4611686018427387904) then some [resS (Ma.runP code (inpF inp) fuel.toNat (startM mem))] else none
    | _, _ => none
  | _ => none
theorem goO_eq {code mem : List Int} {inp : ByteArray} {data fuel : Int} (hcU : ∀ x ∈ code, Ma.U x) (hmU : ∀ x ∈ mem, Ma.U x) (hml : mem.length ≤ 1048576) (hil : inp.size ≤ 1048576) (hcl : code.length ≤ 1048576) (hf : fuel ≤ 4611686018427387904) :
    goO [.agg [.sl false 1 (rowW code), iv data], .sc (.string inp), .agg (stA mem), iv fuel] = some [resS (Ma.runP code (inpF inp) fuel.toNat (startM mem))] := by
  simp only [goO, unW_row, unS_st]
  rw [if_pos]
  simp [(allU_iff code).2 hcU, (allU_iff mem).2 hmU, hml, hil, hcl, hf]
def X47 : Orc := ⟨fun f args => if f = 63 then readO args else if f = 155 then goO args else none, fun _ _ _ _ _ => none⟩
theorem rows_words (I : Nat → Prop) (w : World) : ∀ l : List Int, RepRows I w 1 (rowW l) (l.map (Value.int .u32))
  | [] => by simp [RepRows]
  | x :: l => by
    simp only [List.map_cons, RepRows]
    exact ⟨[.int .u32 x], l.map (Value.int .u32), rfl, rfl, by simp [RepDL, RepD, Value.oneCell'], rows_words I w l⟩
set_option maxRecDepth 200000 in
theorem X47_ok : OrcOk Tryz.prog X47 := by
  refine ⟨fun f args rs h hok I w us hI hgl ha => ?_, fun k d f args hp v hp' h => by simp [X47] at h⟩
  simp only [X47] at h
  split at h
  · rename_i hf
    subst hf
    unfold readO at h
    split at h
    · rename_i s
      split at h
      · rename_i hs
        cases h
        obtain ⟨u, rfl⟩ : ∃ u, us = [u] := by
          have := ha.1
          match us, this with
          | [u], _ => exact ⟨u, rfl⟩
        have h0 := ha.2 0 _ _ rfl rfl
        obtain rfl : u = .string s := by simpa [RepA, RepD] using h0.1
        refine (callsIn_wide.1 (read_in Fence.wide 6 trivial trivial trivial trivial trivial rfl (Nat.le_refl _) s hs w)).mono fun e W' hh => ?_
        have key : ∀ u, Below w.heap.size w W' → (∃ us bs, u = retV us ∧ (∀ b ∈ bs, w.heap.size ≤ b ∧ ¬ I b) ∧ bs.Nodup ∧ RepResL Tryz.prog I W' (rtys Tryz.prog 63) (readR s) us bs) → CallPost Tryz.prog I w (rtys Tryz.prog 63) (readR s) u W' := fun u hB ⟨us, bs, h1, h2, h3, h4⟩ =>
          ⟨fun b hb => hB.block b hb, hB.size, hB.os, hB.tape, hB.output, I, us, bs, h1, fun _ h => h, fun _ h => .inl h, fun b hb => Nat.lt_of_lt_of_le (hI b hb) hB.size, h2, h3, h4⟩
        rcases hh with ⟨h1, rfl, hB⟩ | ⟨h1, v, rfl, hown, hB⟩
        · have hb : imgB s = false := by rw [Bool.eq_false_iff]; exact fun h => h1 ((imgB_iff s).1 h)
          refine ⟨_, rfl, key _ hB ⟨[.agg #[.slice none 0 0, .int .i64 0], .int .i64 7], [], rfl, by simp, List.nodup_nil, ?_⟩⟩
          unfold readR
          rw [hb, if_neg (by simp), rtys_63]
          simp only [RepResL, RepRes, isAggB_28, isAggB_24, if_true, Bool.false_eq_true, if_false]
          refine ⟨_, _, [], [], rfl, rfl, ⟨_, _, rfl, rfl, ?_⟩, _, _, [], [], rfl, rfl, ⟨rfl, by simp [RepD, Value.oneCell']⟩, rfl, rfl⟩
          simp only [tcs_28, RepHL]
          exact ⟨_, _, [], [], rfl, rfl, .inl ⟨rfl, rfl, rfl⟩, _, _, [], [], rfl, rfl, ⟨rfl, by simp [RepD, Value.oneCell']⟩, rfl, rfl⟩
        · have hb : imgB s = true := (imgB_iff s).2 h1
          have hv : ∃ bs, (∀ b ∈ bs, w.heap.size ≤ b ∧ ¬ I b) ∧ bs.Nodup ∧ RepH Tryz.prog I (fun _ => False) W' 22 (.vec 1 (rowW (codeOf s))) v bs := by
            obtain ⟨hl, ⟨rfl, h0⟩ | ⟨g, cap, cur, rfl, hb, hg, hc, hm, hs, ht⟩⟩ := hown
            · refine ⟨[], by simp, List.nodup_nil, .inl ⟨?_, rfl, rfl⟩⟩
              have : codeOf s = [] := List.eq_nil_of_length_eq_zero h0
              rw [this]; rfl
            · refine ⟨[g], fun b hbb => ?_, by simp, .inr ⟨g, cap, cur, (0, 0), 32, rfl, ?_, by simp, hg, fun j _ => by simp, by simpa using hs, ?_, hm, ?_, fun hi => by have := hI g hi; omega, fun h => h⟩⟩
              · rw [List.mem_singleton] at hbb; subst hbb
                exact ⟨hb, fun hi => by have := hI _ hi; omega⟩
              · simp [codeOf]
              · simpa [codeOf] using hc
              · have e : (rowW (codeOf s)).length * 1 = (wordsOf (s.extract 12 s.size)).length * 1 := by simp [codeOf]
                rw [e, ht]
                exact rows_words I W' _
          obtain ⟨bs, b1, b2, b3⟩ := hv
          refine ⟨_, rfl, key _ hB ⟨[.agg #[v, .int .i64 (wordAt s 8)], .int .i64 0], bs, rfl, b1, b2, ?_⟩⟩
          unfold readR
          rw [hb, if_pos rfl, rtys_63]
          simp only [RepResL, RepRes, isAggB_28, isAggB_24, if_true, Bool.false_eq_true, if_false]
          refine ⟨_, _, bs, [], rfl, by simp, ⟨_, _, rfl, rfl, ?_⟩, _, _, [], [], rfl, rfl, ⟨rfl, by simp [RepD, Value.oneCell']⟩, rfl, rfl⟩
          simp only [tcs_28, RepHL]
          exact ⟨_, _, bs, [], rfl, by simp, b3, _, _, [], [], rfl, rfl, ⟨rfl, by simp [RepD, Value.oneCell']⟩, rfl, rfl⟩
      · cases h
    · cases h
  · split at h
    · rename_i hf
      subst hf
      unfold goO at h
      split at h
      · rename_i rows data inp st fuel
        split at h
        · rename_i code mem h1 h2
          split at h
          · rename_i hc
            cases h
            simp only [Bool.and_eq_true, decide_eq_true_eq] at hc
            obtain ⟨⟨⟨⟨⟨c1, c2⟩, c3⟩, c4⟩, c5⟩, c6⟩ := hc
            rw [row_unW h1, unS_eq h2] at ha
            exact go_calls ((allU_iff code).1 c1) ((allU_iff mem).1 c2) c3 c4 c5 c6 hI hgl ha
          · cases h
        · cases h
      · cases h
    · cases h
end Go.Proofs.YtaeeffddinppeaaGreatDoor
