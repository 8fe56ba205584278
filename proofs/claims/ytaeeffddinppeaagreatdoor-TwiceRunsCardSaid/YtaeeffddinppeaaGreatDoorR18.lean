/- A part of the proof: It, Ip6. -/
import Derived.Test.YtaeeffddinppeaaGreatDoorR08
import Derived.Shelf.Strconv.Itoa3
import Derived.Lib.AppendIntMem
import Derived.Test.YtaeeffddinppeaaGreatDoorR06
import Derived.Test.YtaeeffddinppeaaGreatDoorR17
set_option linter.unusedSimpArgs false
set_option linter.unusedVariables false
namespace Go.Proofs.YtaeeffddinppeaaGreatDoor
open Go Go.Ab Go.RowKit
def lays171_ren : Go.Shelf.Ren := ⟨fun | 171 => 53 | 243 => 76 | 246 => 115 | 283 => 163 | 284 => 164 | 285 => 165 | 286 => 166 | 129 => 220 | 317 => 219 | 318 => 221 | 319 => 222 | 320 => 223 | 337 => 291 | 338 => 292 | n => n, fun | 3 => 3 | 9 => 9 | 2 => 2 | 4 => 4 | 171 => 255 | 0 => 0 | 53 => 93 | 37 => 92 | 5 => 5 | 173 => 258 | 212 => 361 | 51 => 32 | 20 => 20 | 213 => 362 | 46 => 95 | 232 => 495 | 233 => 496 | n => n, fun | 17 => 1 | 18 => 4 | 19 => 5 | n => n⟩
theorem lays171 : LaysM.n171 Tryz.prog lays171_ren := {
  mixed := by kernel_rfl
  f129 := Tryz.func220.trans (congrArg some (by kernel_rfl))
  f171 := Tryz.func53.trans (congrArg some (by kernel_rfl))
  f243 := Tryz.func76.trans (congrArg some (by kernel_rfl))
  f246 := Tryz.func115.trans (congrArg some (by kernel_rfl))
  f283 := Tryz.func163.trans (congrArg some (by kernel_rfl))
  f284 := Tryz.func164.trans (congrArg some (by kernel_rfl))
  f285 := Tryz.func165.trans (congrArg some (by kernel_rfl))
  f286 := Tryz.func166.trans (congrArg some (by kernel_rfl))
  f317 := Tryz.func219.trans (congrArg some (by kernel_rfl))
  f318 := Tryz.func221.trans (congrArg some (by kernel_rfl))
  f319 := Tryz.func222.trans (congrArg some (by kernel_rfl))
  f320 := Tryz.func223.trans (congrArg some (by kernel_rfl))
  f337 := Tryz.func291.trans (congrArg some (by kernel_rfl))
  f338 := Tryz.func292.trans (congrArg some (by kernel_rfl))
  t0 := Tryz.underlying0
  a0 := Tryz.isAgg0
  z0 := Tryz.sizeOf0
  v0 := Tryz.zeroValue0
  t2 := Tryz.underlying2
  a2 := Tryz.isAgg2
  z2 := Tryz.sizeOf2
  v2 := Tryz.zeroValue2
  t3 := Tryz.underlying3
  a3 := Tryz.isAgg3
  z3 := Tryz.sizeOf3
  v3 := Tryz.zeroValue3
  t4 := Tryz.underlying4
  a4 := Tryz.isAgg4
  z4 := Tryz.sizeOf4
  v4 := Tryz.zeroValue4
  t5 := Tryz.underlying5
  a5 := Tryz.isAgg5
  z5 := Tryz.sizeOf5
  v5 := Tryz.zeroValue5
  t9 := Tryz.underlying9
  a9 := Tryz.isAgg9
  z9 := Tryz.sizeOf9
  v9 := Tryz.zeroValue9
  t20 := Tryz.underlying20
  a20 := Tryz.isAgg20
  z20 := Tryz.sizeOf20
  v20 := Tryz.zeroValue20
  t37 := Tryz.underlying92
  a37 := Tryz.isAgg92
  z37 := Tryz.sizeOf92
  v37 := Tryz.zeroValue92
  t46 := Tryz.underlying95
  a46 := Tryz.isAgg95
  z46 := Tryz.sizeOf95
  v46 := Tryz.zeroValue95
  t51 := Tryz.underlying32
  a51 := Tryz.isAgg32
  z51 := Tryz.sizeOf32
  v51 := Tryz.zeroValue32
  t53 := Tryz.underlying93
  a53 := Tryz.isAgg93
  z53 := Tryz.sizeOf93
  v53 := Tryz.zeroValue93
  t171 := Tryz.underlying255
  a171 := Tryz.isAgg255
  z171 := Tryz.sizeOf255
  v171 := Tryz.zeroValue255
  t173 := Tryz.underlying258
  a173 := Tryz.isAgg258
  z173 := Tryz.sizeOf258
  v173 := Tryz.zeroValue258
  t212 := Tryz.underlying361
  a212 := Tryz.isAgg361
  z212 := Tryz.sizeOf361
  v212 := Tryz.zeroValue361
  t213 := Tryz.underlying362
  a213 := Tryz.isAgg362
  z213 := Tryz.sizeOf362
  t232 := Tryz.underlying495
  a232 := Tryz.isAgg495
  z232 := Tryz.sizeOf495
  v232 := Tryz.zeroValue495
  t233 := Tryz.underlying496
  a233 := Tryz.isAgg496
  z233 := Tryz.sizeOf496
  v233 := Tryz.zeroValue496
  g17 := by kernel_rfl
  g18 := by kernel_rfl
  g19 := by kernel_rfl
  i0 := by kernel_rfl
  i2 := by kernel_rfl
  i3 := by kernel_rfl
  i4 := by kernel_rfl
  i5 := by kernel_rfl
  i9 := by kernel_rfl
  i20 := by kernel_rfl
  i37 := by kernel_rfl
  i46 := by kernel_rfl
  i51 := by kernel_rfl
  i53 := by kernel_rfl
  i171 := by kernel_rfl
  i173 := by kernel_rfl
  i212 := by kernel_rfl
  i232 := by kernel_rfl
  i233 := by kernel_rfl
  m17 := by kernel_rfl
  m18 := by kernel_rfl
  m19 := by kernel_rfl }
def itoaO : List AV → Option (List AV)
  | [.sc (.int .i64 n)] => if decide (-9223372036854775808 ≤ n) && decide (n ≤ 9223372036854775807) then some [.sc (.string ⟨(Lib.itoa n).toArray⟩)] else none
  | _ => none
theorem pow_tab {I : Nat → Prop} {w : World} (h : GlOk I w) : Lib.TabIs Tryz.prog w "internal/strconv.uint64pow10" .u64 Lib.pow10Tab := by
  obtain ⟨_, h2, h3⟩ := h 1 _ rfl
  have hg : Tryz.prog.globalNamed "internal/strconv.uint64pow10" = some 1 := by kernel_rfl
  have h0 := h2 0 _ rfl
  unfold Lib.TabIs World.var?
  rw [hg]
  unfold World.cell? at h0
  simp only [Option.bind_some] at h0 ⊢
  split at h0
  · rename_i cs t mk hc
    rw [hc]
    have hs := h3 cs t mk hc
    simp only [Option.some.injEq]
    apply Array.ext
    · rw [hs]; rfl
    · intro j hj1 hj2
      have hj : j < 20 := by rw [hs] at hj1; exact hj1
      have hv : ∃ v, (globT 1).bind (·[j]?) = some v ∧ ((Lib.pow10Tab.map fun z => Value.int .u64 z))[j]? = some v := by
        have : ∀ j < 20, (globT 1).bind (·[j]?) = (Lib.pow10Tab.map fun z => Value.int .u64 z)[j]? := by
          intro j hj
          rcases j with _ | _ | _ | _ | _ | _ | _ | _ | _ | _ | _ | _ | _ | _ | _ | _ | _ | _ | _ | _ | j <;> first | rfl | omega
        refine ⟨(Lib.pow10Tab.map fun z => Value.int .u64 z)[j]'(by simpa [Lib.pow10Tab] using hj), ?_, List.getElem?_eq_getElem _⟩
        rw [this j hj]
        exact List.getElem?_eq_getElem _
      obtain ⟨v, hv1, hv2⟩ := hv
      have hcell := h2 j v (by simpa [globT] using hv1)
      unfold World.cell? at hcell
      simp only [Nat.zero_add, hc, Option.isSome_none, Bool.false_eq_true, if_false] at hcell
      have e1 : cs[j] = v := by rw [Array.getElem?_eq_getElem hj1] at hcell; exact Option.some.inj hcell
      rw [e1]
      have e2 : ((Lib.pow10Tab.map fun z => Value.int .u64 z).toArray)[j]? = some v := by rw [List.getElem?_toArray]; exact hv2
      rw [Array.getElem?_eq_getElem hj2] at e2
      exact (Option.some.inj e2).symm
  · cases h0
theorem itoa_calls {n : Int} (h0 : -9223372036854775808 ≤ n) (h1 : n ≤ 9223372036854775807) {I : Nat → Prop} {w : World} {us : List Value} (hI : ∀ b, I b → b < w.heap.size) (hgl : GlOk I w) (ha : AllR (RepA I w) [.sc (.int .i64 n)] us) :
    Calls Tryz.prog 53 ⟨us⟩ w (fun e w' => ∃ u, e = .returned u ∧ CallPost Tryz.prog I w (rtys Tryz.prog 53) [.sc (.string ⟨(Lib.itoa n).toArray⟩)] u w') := by
  obtain ⟨u, rfl⟩ : ∃ u, us = [u] := by
    have := ha.1
    match us, this with
    | [u], _ => exact ⟨u, rfl⟩
  have hu := ha.2 0 _ _ rfl rfl
  obtain rfl : u = .int .i64 n := by simpa [RepA, RepD] using hu.1
  refine Calls.mono (Any.strconv_Itoa lays171 n h0 h1 w (pow_tab hgl)) ?_
  rintro e w' ⟨rfl, k, os, rfl⟩
  have hB : Below w.heap.size w («Sort».grow (w.drewN k) os) := Lib.below_grow _ _ (Nat.le_refl _) k os
  refine ⟨_, rfl, fun b hb => hB.block b hb, hB.size, hB.os, hB.tape, hB.output, I, [.string ⟨(Lib.itoa n).toArray⟩], [], rfl, fun _ h => h, fun _ h => .inl h, fun b hb => Nat.lt_of_lt_of_le (hI b hb) hB.size, by simp, List.nodup_nil, ?_⟩
  rw [rtys_53]
  simp only [RepResL, RepRes, isAggB_9, Bool.false_eq_true, if_false]
  exact ⟨_, _, [], [], rfl, rfl, ⟨rfl, by simp [RepD, Value.oneCell']⟩, rfl, rfl⟩
end Go.Proofs.YtaeeffddinppeaaGreatDoor
namespace Go.Proofs.YtaeeffddinppeaaGreatDoor
open Go Go.Ab Go.RowKit
def imgB (s : ByteArray) : Bool := decide (12 ≤ s.size) && decide (s.extract 0 4 = ⟨#[83, 69, 69, 68]⟩) && decide (s.size ≤ 65548) && decide (wordAt s 8 ≤ 32768) && decide ((s.size : Int) = 12 + 4 * wordAt s 4)
theorem imgB_iff (s : ByteArray) : imgB s = true ↔ isImg s := by
  unfold imgB isImg
  simp only [Bool.and_eq_true, decide_eq_true_eq]
  exact ⟨fun ⟨⟨⟨⟨a, b⟩, c⟩, d⟩, e⟩ => ⟨a, b, c, d, e⟩, fun ⟨a, b, c, d, e⟩ => ⟨⟨⟨⟨a, b⟩, c⟩, d⟩, e⟩⟩
def codeOf (s : ByteArray) : List Int := wordsOf (s.extract 12 s.size)
def readR (s : ByteArray) : List AV := if imgB s then [.agg [.vec 1 (rowW (codeOf s)), iv (wordAt s 8)], iv 0] else [.agg [.vec 1 [], iv 0], iv 7]
def readO : List AV → Option (List AV)
  | [.sc (.string s)] => if s.size ≤ 1048576 then some (readR s) else none
  | _ => none
def unW : List (List AV) → Option (List Int)
  | [] => some []
  | [.sc (.int .u32 x)] :: r => (unW r).map (x :: ·)
  | _ => none
theorem unW_row : ∀ l : List Int, unW (rowW l) = some l
  | [] => rfl
  | x :: l => by show (unW (rowW l)).map (x :: ·) = _; rw [unW_row l]; rfl
theorem row_unW : ∀ {rows : List (List AV)} {l : List Int}, unW rows = some l → rows = rowW l
  | [], l, h => by cases h; rfl
  | r :: rows, l, h => by
    unfold unW at h
    split at h
    · rename_i heq; cases heq
    · rename_i x r' heq
      cases heq
      cases hr : unW rows with
      | none => rw [hr] at h; cases h
      | some l' =>
        rw [hr] at h
        cases h
        rw [row_unW hr]
        rfl
    · cases h
def isI (n : Int) : AV → Bool
  | .sc (.int .i64 m) => m == n
  | _ => false
def isU (n : Int) : AV → Bool
  | .sc (.int .u32 m) => m == n
  | _ => false
def isE : AV → Bool
  | .sc (.string s) => decide (s = ⟨#[]⟩)
  | _ => false
theorem isI_eq {n : Int} {a : AV} (h : isI n a = true) : a = iv n := by
  unfold isI at h
  split at h
  · simp at h; rw [h]
  · cases h
theorem isU_eq {n : Int} {a : AV} (h : isU n a = true) : a = uv n := by
  unfold isU at h
  split at h
  · simp at h; rw [h]
  · cases h
theorem isE_eq {a : AV} (h : isE a = true) : a = .sc (.string ⟨#[]⟩) := by
  unfold isE at h
  split at h
  · simp at h; rw [h]
  · cases h
def unS : List AV → Option (List Int)
  | [p, a0, a1, a2, a3, a4, a5, a6, a7, a8, a9, a10, a11, a12, a13, a14, a15, .sl false 1 m, r, o, s, e] =>
    if isI 0 p && isU 0 a0 && isU 0 a1 && isU 0 a2 && isU 0 a3 && isU 0 a4 && isU 0 a5 && isU 0 a6 && isU 0 a7 && isU 0 a8 && isU 0 a9 && isU 0 a10 && isU 0 a11 && isU 0 a12 && isU 0 a13 && isU 0 a14 && isU 0 a15 && isI 0 r && isE o && isI 0 s && isI 0 e then unW m else none
  | _ => none
theorem unS_eq {st : List AV} {mem : List Int} (h : unS st = some mem) : st = stA mem := by
  unfold unS at h
  split at h
  · split at h
    · rename_i hc
      simp only [Bool.and_eq_true] at hc
      obtain ⟨⟨⟨⟨⟨⟨⟨⟨⟨⟨⟨⟨⟨⟨⟨⟨⟨⟨⟨⟨h1, h2⟩, h3⟩, h4⟩, h5⟩, h6⟩, h7⟩, h8⟩, h9⟩, h10⟩, h11⟩, h12⟩, h13⟩, h14⟩, h15⟩, h16⟩, h17⟩, h18⟩, h19⟩, h20⟩, h21⟩ := hc
      rw [isI_eq h1, isU_eq h2, isU_eq h3, isU_eq h4, isU_eq h5, isU_eq h6, isU_eq h7, isU_eq h8, isU_eq h9, isU_eq h10, isU_eq h11, isU_eq h12, isU_eq h13, isU_eq h14, isU_eq h15, isU_eq h16, isU_eq h17, isI_eq h18, isE_eq h19, isI_eq h20, isI_eq h21, row_unW h]
      rfl
    · cases h
  · cases h
theorem unS_st (mem : List Int) : unS (stA mem) = some mem := by
  unfold unS stA
  simp [isI, isU, isE, unW_row, iv, uv]
def allU (l : List Int) : Bool := l.all fun x => decide (0 ≤ x) && decide (x < 4294967296)
theorem allU_iff (l : List Int) : allU l = true ↔ ∀ x ∈ l, Ma.U x := by
  unfold allU Ma.U
  simp
def goO : List AV → Option (List AV)
  | [.agg [.sl false 1 rows, .sc (.int .i64 _)], .sc (.string inp), .agg st, .sc (.int .i64 fuel)] => match unW rows, unS st with
    | some code, some mem => if allU code && allU mem && decide (mem.length ≤ 1048576) && decide (inp.size ≤ 1048576) && decide (code.length ≤ 1048576) && decide (fuel ≤ 4611686018427387904) then some [resS (Ma.runP code (inpF inp) fuel.toNat (startM mem))] else none
    | _, _ => none
  | _ => none
theorem goO_eq {code mem : List Int} {inp : ByteArray} {data fuel : Int} (hcU : ∀ x ∈ code, Ma.U x) (hmU : ∀ x ∈ mem, Ma.U x) (hml : mem.length ≤ 1048576) (hil : inp.size ≤ 1048576) (hcl : code.length ≤ 1048576) (hf : fuel ≤ 4611686018427387904) :
    goO [.agg [.sl false 1 (rowW code), iv data], .sc (.string inp), .agg (stA mem), iv fuel] = some [resS (Ma.runP code (inpF inp) fuel.toNat (startM mem))] := by
  simp only [goO, unW_row, unS_st]
  rw [if_pos]
  simp [(allU_iff code).2 hcU, (allU_iff mem).2 hmU, hml, hil, hcl, hf]
def X47 : Orc := ⟨fun f args => if f = 63 then readO args else if f = 155 then goO args else if f = 53 then itoaO args else none, fun _ _ _ _ _ => none⟩
theorem rows_words (I : Nat → Prop) (w : World) : ∀ l : List Int, RepRows I w 1 (rowW l) (l.map (Value.int .u32))
  | [] => by simp [RepRows]
  | x :: l => by
    simp only [List.map_cons, RepRows]
    exact ⟨[.int .u32 x], l.map (Value.int .u32), rfl, rfl, by simp [RepDL, RepD, Value.oneCell'], rows_words I w l⟩
set_option maxRecDepth 200000 in
theorem X47_ok : OrcOk Tryz.prog X47 := by
  refine ⟨fun f args rs h hok I w us hI hgl ha => ?_, fun k d f args hp v hp' h => by simp [X47] at h⟩
  simp only [X47] at h
  split at h
  · rename_i hf
    subst hf
    unfold readO at h
    split at h
    · rename_i s
      split at h
      · rename_i hs
        cases h
        obtain ⟨u, rfl⟩ : ∃ u, us = [u] := by
          have := ha.1
          match us, this with
          | [u], _ => exact ⟨u, rfl⟩
        have h0 := ha.2 0 _ _ rfl rfl
        obtain rfl : u = .string s := by simpa [RepA, RepD] using h0.1
        refine (callsIn_wide.1 (read_in Fence.wide 6 trivial trivial trivial trivial trivial rfl (Nat.le_refl _) s hs w)).mono fun e W' hh => ?_
        have key : ∀ u, Below w.heap.size w W' → (∃ us bs, u = retV us ∧ (∀ b ∈ bs, w.heap.size ≤ b ∧ ¬ I b) ∧ bs.Nodup ∧ RepResL Tryz.prog I W' (rtys Tryz.prog 63) (readR s) us bs) → CallPost Tryz.prog I w (rtys Tryz.prog 63) (readR s) u W' := fun u hB ⟨us, bs, h1, h2, h3, h4⟩ =>
          ⟨fun b hb => hB.block b hb, hB.size, hB.os, hB.tape, hB.output, I, us, bs, h1, fun _ h => h, fun _ h => .inl h, fun b hb => Nat.lt_of_lt_of_le (hI b hb) hB.size, h2, h3, h4⟩
        rcases hh with ⟨h1, rfl, hB⟩ | ⟨h1, v, rfl, hown, hB⟩
        · have hb : imgB s = false := by rw [Bool.eq_false_iff]; exact fun h => h1 ((imgB_iff s).1 h)
          refine ⟨_, rfl, key _ hB ⟨[.agg #[.slice none 0 0, .int .i64 0], .int .i64 7], [], rfl, by simp, List.nodup_nil, ?_⟩⟩
          unfold readR
          rw [hb, if_neg (by simp), rtys_63]
          simp only [RepResL, RepRes, isAggB_28, isAggB_24, if_true, Bool.false_eq_true, if_false]
          refine ⟨_, _, [], [], rfl, rfl, ⟨_, _, rfl, rfl, ?_⟩, _, _, [], [], rfl, rfl, ⟨rfl, by simp [RepD, Value.oneCell']⟩, rfl, rfl⟩
          simp only [tcs_28, RepHL]
          exact ⟨_, _, [], [], rfl, rfl, .inl ⟨rfl, rfl, rfl⟩, _, _, [], [], rfl, rfl, ⟨rfl, by simp [RepD, Value.oneCell']⟩, rfl, rfl⟩
        · have hb : imgB s = true := (imgB_iff s).2 h1
          have hv : ∃ bs, (∀ b ∈ bs, w.heap.size ≤ b ∧ ¬ I b) ∧ bs.Nodup ∧ RepH Tryz.prog I (fun _ => False) W' 22 (.vec 1 (rowW (codeOf s))) v bs := by
            obtain ⟨hl, ⟨rfl, h0⟩ | ⟨g, cap, cur, rfl, hb, hg, hc, hm, hs, ht⟩⟩ := hown
            · refine ⟨[], by simp, List.nodup_nil, .inl ⟨?_, rfl, rfl⟩⟩
              have : codeOf s = [] := List.eq_nil_of_length_eq_zero h0
              rw [this]; rfl
            · refine ⟨[g], fun b hbb => ?_, by simp, .inr ⟨g, cap, cur, (0, 0), 32, rfl, ?_, by simp, hg, fun j _ => by simp, by simpa using hs, ?_, hm, ?_, fun hi => by have := hI g hi; omega, fun h => h⟩⟩
              · rw [List.mem_singleton] at hbb; subst hbb
                exact ⟨hb, fun hi => by have := hI _ hi; omega⟩
              · simp [codeOf]
              · simpa [codeOf] using hc
              · have e : (rowW (codeOf s)).length * 1 = (wordsOf (s.extract 12 s.size)).length * 1 := by simp [codeOf]
                rw [e, ht]
                exact rows_words I W' _
          obtain ⟨bs, b1, b2, b3⟩ := hv
          refine ⟨_, rfl, key _ hB ⟨[.agg #[v, .int .i64 (wordAt s 8)], .int .i64 0], bs, rfl, b1, b2, ?_⟩⟩
          unfold readR
          rw [hb, if_pos rfl, rtys_63]
          simp only [RepResL, RepRes, isAggB_28, isAggB_24, if_true, Bool.false_eq_true, if_false]
          refine ⟨_, _, bs, [], rfl, by simp, ⟨_, _, rfl, rfl, ?_⟩, _, _, [], [], rfl, rfl, ⟨rfl, by simp [RepD, Value.oneCell']⟩, rfl, rfl⟩
          simp only [tcs_28, RepHL]
          exact ⟨_, _, bs, [], rfl, by simp, b3, _, _, [], [], rfl, rfl, ⟨rfl, by simp [RepD, Value.oneCell']⟩, rfl, rfl⟩
      · cases h
    · cases h
  · split at h
    · rename_i hf
      subst hf
      unfold goO at h
      split at h
      · rename_i rows data inp st fuel
        split at h
        · rename_i code mem h1 h2
          split at h
          · rename_i hc
            cases h
            simp only [Bool.and_eq_true, decide_eq_true_eq] at hc
            obtain ⟨⟨⟨⟨⟨c1, c2⟩, c3⟩, c4⟩, c5⟩, c6⟩ := hc
            rw [row_unW h1, unS_eq h2] at ha
            exact go_calls ((allU_iff code).1 c1) ((allU_iff mem).1 c2) c3 c4 c5 c6 hI hgl ha
          · cases h
        · cases h
      · cases h
    · split at h
      · rename_i hf
        subst hf
        unfold itoaO at h
        split at h
        · split at h
          · rename_i hc
            cases h
            simp only [Bool.and_eq_true, decide_eq_true_eq] at hc
            exact itoa_calls hc.1 hc.2 hI hgl ha
          · cases h
        · cases h
      · cases h
end Go.Proofs.YtaeeffddinppeaaGreatDoor
