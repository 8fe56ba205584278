/- What the other operations come to: addresses, parts, lists that are made or cut, scalars. No program of Go is named here. -/
import Derived.Test.YtmfhdhiaokejdaaAb8
namespace Go.Ab
open Go
set_option linter.unusedSimpArgs false
set_option linter.unusedVariables false

section
variable {P : Program} {I K : Nat → Prop} {m : Mp} {hp hp' : Hp} {w : World} {k : Nat}

/-! ### addresses -/
theorem shift_ok {n : Nat} {a v : AV} {u : Value} (hr : Rep k I m hp w a u) (h : (shiftA n a).run hp = some (v, hp')) :
    hp' = hp ∧ ∃ b o, u = .pointer (some ⟨b, o, none⟩) ∧ Rep k I m hp w v (.pointer (some ⟨b, o + n, none⟩)) := by
  cases a with
  | ptr x g off =>
    simp only [shiftA, Prog.run] at h
    cases hx : hp x with
    | no g' => rw [hx] at h; simp [Prog.run, AObj.head] at h
    | arr g' sz e rows f => rw [hx] at h; simp [Prog.run, AObj.head] at h
    | box g' cells f =>
      rw [hx] at h
      simp only [AObj.head] at h
      split at h
      · rename_i hg
        subst hg
        simp only [Prog.run, Option.some.injEq, Prod.mk.injEq] at h
        obtain ⟨rfl, rfl⟩ := h
        simp only [Rep] at hr ⊢
        obtain ⟨h1, h2, h3⟩ := hr
        obtain ⟨b, c, hm, rfl⟩ := h3 cells f hx
        exact ⟨trivial, b, off, rfl, h1, h2, fun cells fz hx => ⟨b, c, hm, rfl⟩⟩
      · simp [Prog.run] at h
  | eptr x g i off =>
    simp only [shiftA, Prog.run] at h
    cases hx : hp x with
    | no g' => rw [hx] at h; simp [Prog.run, AObj.head] at h
    | box g' cells f => rw [hx] at h; simp [Prog.run, AObj.head] at h
    | arr g' sz e rows f =>
      rw [hx] at h
      simp only [AObj.head] at h
      split at h
      · rename_i hg
        subst hg
        simp only [Prog.run, Option.some.injEq, Prod.mk.injEq] at h
        obtain ⟨rfl, rfl⟩ := h
        simp only [Rep] at hr ⊢
        obtain ⟨h1, h2, h3⟩ := hr
        obtain ⟨b, c, hm, rfl⟩ := h3 sz e rows f hx
        refine ⟨trivial, b, _, rfl, h1, h2, fun sz' e' rows' fz' hx' => ⟨b, c, hm, ?_⟩⟩
        rw [hx] at hx'; cases hx'
        rw [Nat.add_assoc]
      · simp [Prog.run] at h
  | dp cells off =>
    simp only [shiftA, Prog.run, Option.some.injEq, Prod.mk.injEq] at h
    obtain ⟨rfl, rfl⟩ := h
    refine ⟨rfl, ?_⟩
    simp only [Rep, RepD] at hr ⊢
    obtain ⟨b, o, us, rfl, hb, hc, hl⟩ := hr
    exact ⟨b, _, rfl, b, o, us, by rw [Nat.add_assoc], hb, hc, hl⟩
  | any | sc | sl | own | agg | tup | vec | fn => simp [shiftA, Prog.run] at h

theorem info_of_cells {t : TypeId} (h : P.cellsOf t ≠ 0) : ∃ i, P.info? t = some i ∧ P.cellsOf t = i.size := by
  unfold Program.cellsOf at h
  cases hi : P.info? t with
  | none => simp [hi] at h
  | some i => exact ⟨i, rfl, by simp [Program.cellsOf, hi]⟩

theorem field_ok {s : TypeId} {f : Nat} {a v : AV} {u : Value} (hr : Rep k I m hp w a u) (h : (fieldP P s a f).run hp = some (v, hp')) :
    hp' = hp ∧ ∃ u', (Instr.fieldAt s u f).run P w = .ok u' w ∧ Rep k I m hp w v u' := by
  unfold fieldP at h
  split at h
  · rename_i off sz ft hf
    split at h
    · simp [Prog.run] at h
    · rename_i hz
      obtain ⟨e1, b, o, rfl, h2⟩ := shift_ok hr h
      refine ⟨e1, _, ?_, h2⟩
      unfold flds at hf
      split at hf
      · rename_i fs hu
        rw [List.getElem?_map] at hf
        cases hfs : fs.toList[f]? with
        | none => rw [hfs] at hf; cases hf
        | some fl =>
          rw [hfs] at hf
          simp only [Option.map_some, Option.some.injEq, Prod.mk.injEq] at hf
          obtain ⟨rfl, rfl, rfl⟩ := hf
          obtain ⟨i, hi, hs⟩ := info_of_cells hz
          have hfs' : fs[f]? = some fl := by simpa using hfs
          rw [hs] at hz
          simp [Instr.fieldAt, run_underlying hu, hfs', Instr.sureAddr, fieldPlace, sizeOf, typeInfo, hi, hz, add_plain]
      · simp at hf
  · simp [Prog.run] at h

theorem index_ok {t : TypeId} {a i v : AV} {u ui : Value} (hr : Rep k I m hp w a u) (hri : Rep k I m hp w i ui) (h : (indexP P t a i).run hp = some (v, hp')) :
    hp' = hp ∧ ∃ u', (Instr.indexAt t u ui).run P w = .ok u' w ∧ Rep k I m hp w v u' := by
  cases i with
  | sc vi =>
    cases vi with
    | int kd n =>
      simp only [Rep] at hri
      subst hri
      simp only [indexP] at h
      split at h
      case isFalse => simp [Prog.run] at h
      rename_i hn
      split at h
      · -- data
        rename_i f sz rows
        split at h
        · rename_i e he
          have ht := slel_ok he
          split at h
          case isFalse => simp [Prog.run] at h
          rename_i hc
          obtain ⟨rfl, hinfo⟩ := hc
          simp only [tOk, Bool.and_eq_true] at hinfo
          obtain ⟨i, hi⟩ := Option.isSome_iff_exists.1 hinfo.1
          split at h
          · rename_i r hrow
            simp only [Prog.run, Option.some.injEq, Prod.mk.injEq] at h
            obtain ⟨rfl, rfl⟩ := h
            refine ⟨rfl, ?_⟩
            simp only [Rep, RepD] at hr
            obtain ⟨A, cap, rfl, h1, h2, h3, h4⟩ := hr
            have hlt : n.toNat < rows.length := (List.getElem?_eq_some_iff.1 hrow).1
            rcases h4 with rfl | ⟨b, o, us, rfl, hb, hcc, hrr⟩
            · simp at hlt
            · obtain ⟨hev, hal⟩ := (RepRows_iff _ _).1 hrr
              refine ⟨.pointer (some ⟨b, o + n.toNat * P.cellsOf e, none⟩), ?_, ?_⟩
              · have hlt' : n < (rows.length : Int) := by omega
                simp [Instr.indexAt, run_underlying ht, asIntOf, sizeOf, typeInfo, hi, hn, hlt', add_plain, Program.cellsOf]
              · simp only [Rep, RepD]
                refine ⟨b, o + n.toNat * P.cellsOf e, (us.drop (n.toNat * P.cellsOf e)).take (P.cellsOf e), rfl, hb, fun j v hv => ?_, ?_⟩
                · rw [List.getElem?_take] at hv
                  split at hv
                  · rw [List.getElem?_drop] at hv
                    have := hcc _ v hv
                    rwa [← Nat.add_assoc] at this
                  · cases hv
                · rw [RepDL_iff]
                  have := (hal.drop (n.toNat * P.cellsOf e)).take (P.cellsOf e)
                  rwa [hev.row hrow] at this
          · simp [Prog.run] at h
        · simp [Prog.run] at h
      · -- what is owned
        rename_i x g len
        split at h
        · rename_i e he
          have ht := slel_ok he
          simp only [Prog.run] at h
          cases hx : hp x with
          | no g' => rw [hx] at h; simp [Prog.run, AObj.head] at h
          | box g' c f => rw [hx] at h; simp [Prog.run, AObj.head] at h
          | arr g' sz e' rows f =>
            rw [hx] at h
            simp only [AObj.head] at h
            split at h
            case isFalse => simp [Prog.run] at h
            rename_i hc
            obtain ⟨rfl, rfl, hinfo, hlt⟩ := hc
            simp only [tOk, Bool.and_eq_true] at hinfo
            obtain ⟨i, hi⟩ := Option.isSome_iff_exists.1 hinfo.1
            simp only [Prog.run, Option.some.injEq, Prod.mk.injEq] at h
            obtain ⟨rfl, rfl⟩ := h
            refine ⟨rfl, ?_⟩
            simp only [Rep] at hr
            obtain ⟨h1, h2, h3⟩ := hr
            obtain ⟨h4, h5⟩ := h3 _ e' rows f hx
            rcases h5 with ⟨_, _, h0⟩ | ⟨b, cap, hm, rfl⟩
            · omega
            · refine ⟨.pointer (some ⟨b, n.toNat * P.cellsOf e, none⟩), ?_, ?_⟩
              · have hlt' : n < (len : Int) := by omega
                simp [Instr.indexAt, run_underlying ht, asIntOf, sizeOf, typeInfo, hi, hn, hlt', add_plain, Program.cellsOf]
              · simp only [Rep]
                refine ⟨h1, h2, fun sz e rows fz hx' => ⟨b, cap, hm, ?_⟩⟩
                rw [hx] at hx'; cases hx'; rfl
        · simp [Prog.run] at h
      · split at h
        · rename_i len e he
          split at h
          case isFalse => simp [Prog.run] at h
          rename_i hc
          obtain ⟨hlt, hinfo⟩ := hc
          simp only [tOk, Bool.and_eq_true] at hinfo
          obtain ⟨i, hi⟩ := Option.isSome_iff_exists.1 hinfo.1
          obtain ⟨e1, b, o, rfl, h2⟩ := shift_ok hr h
          refine ⟨e1, _, ?_, h2⟩
          have ht : P.underlying t = some (.array len e) := by
            unfold arrOf at he
            split at he
            · rename_i n' e' he'; cases he; exact he'
            · cases he
          have hlt' : n < (len : Int) := by omega
          simp [Instr.indexAt, run_underlying ht, asIntOf, Instr.sureAddr, sizeOf, typeInfo, hi, hn, hlt', add_plain, Program.cellsOf]
        · simp [Prog.run] at h
    | _ => simp [indexP, Prog.run] at h
  | any | sl | dp | own | ptr | eptr | agg | tup | vec | fn => simp [indexP, Prog.run] at h

/-! ### parts of a value -/
theorem part_ok {t : TypeId} {cs : List AV} {us : List Value} {off : Nat} {v : AV} (hr : AllR (Rep k I m hp w) cs us) (h : (partA P t cs off).run hp = some (v, hp')) :
    hp' = hp ∧ ∃ u', (part t ⟨us⟩ off).run P w = .ok u' w ∧ Rep k I m hp w v u' := by
  unfold partA at h
  split at h
  · simp [Prog.run] at h
  rename_i htok
  simp only [Bool.not_eq_true, Bool.not_eq_false', tOk, Bool.and_eq_true] at htok
  obtain ⟨hinfo, hu⟩ := htok
  obtain ⟨i, hi⟩ := Option.isSome_iff_exists.1 hinfo
  obtain ⟨d, hd⟩ := Option.isSome_iff_exists.1 hu
  split at h
  · rename_i hagg
    split at h
    · rename_i hle
      simp only [Prog.run, Option.some.injEq, Prod.mk.injEq] at h
      obtain ⟨rfl, rfl⟩ := h
      refine ⟨rfl, .agg ⟨(us.drop off).take (P.cellsOf t)⟩, ?_, ?_⟩
      · have hrun : (isAgg t).run P w = .ok true w := by
          unfold isAggB at hagg
          rw [hd] at hagg
          unfold isAgg
          rw [Sem.run_bind, run_underlying hd]
          cases d <;> simp at hagg <;> rfl
        have e : (#[].extract 0 0 : Array Value) = #[] := rfl
        simp only [part, Sem.run_bind, hrun, Result.andThen_ok, if_true, sizeOf, typeInfo, run_program, hi, Sem.run_pure]
        congr 2
        apply Array.ext'
        simp [Program.cellsOf, hi, List.take_drop]
      · simp only [Rep]
        exact ⟨_, rfl, (RepL_iff _ _).2 ((hr.drop off).take _)⟩
    · simp [Prog.run] at h
  · rename_i hagg
    split at h
    · rename_i v' hv
      simp only [Prog.run, Option.some.injEq, Prod.mk.injEq] at h
      obtain ⟨rfl, rfl⟩ := h
      obtain ⟨u', hu', h1⟩ := hr.get hv
      refine ⟨rfl, u', ?_, h1⟩
      have hrun : (isAgg t).run P w = .ok false w := by
        unfold isAggB at hagg
        rw [hd] at hagg
        unfold isAgg
        rw [Sem.run_bind, run_underlying hd]
        cases d <;> simp at hagg <;> rfl
      have hu2 : (⟨us⟩ : Array Value)[off]? = some u' := by simpa using hu'
      simp [part, Sem.run_bind, hrun, hu2]
    · simp [Prog.run] at h

theorem fieldV_ok {t : TypeId} {x v : AV} {u : Value} {f : Nat} (hr : Rep k I m hp w x u) (h : (fieldVP P t x f).run hp = some (v, hp')) :
    hp' = hp ∧ ∃ u', (Instr.field t u f).run P w = .ok u' w ∧ Rep k I m hp w v u' := by
  unfold fieldVP at h
  split at h
  · rename_i off sz ft cs hf
    simp only [Rep] at hr
    obtain ⟨us, rfl, hr⟩ := hr
    obtain ⟨e1, u', h3, h4⟩ := part_ok ((RepL_iff _ _).1 hr) h
    refine ⟨e1, u', ?_, h4⟩
    unfold flds at hf
    split at hf
    · rename_i fs hu
      rw [List.getElem?_map] at hf
      cases hfs : fs.toList[f]? with
      | none => rw [hfs] at hf; cases hf
      | some fl =>
        rw [hfs] at hf
        simp only [Option.map_some, Option.some.injEq, Prod.mk.injEq] at hf
        obtain ⟨rfl, rfl, rfl⟩ := hf
        have hfs' : fs[f]? = some fl := by simpa using hfs
        simp [Instr.field, run_underlying hu, hfs', asAgg, h3]
    · simp at hf
  · simp [Prog.run] at h

theorem indexV_ok {t : TypeId} {x i v : AV} {u ui : Value} (hr : Rep k I m hp w x u) (hri : Rep k I m hp w i ui) (h : (indexVP P t x i).run hp = some (v, hp')) :
    hp' = hp ∧ ∃ u', (Instr.index t u ui).run P w = .ok u' w ∧ Rep k I m hp w v u' := by
  cases i with
  | sc vi =>
    cases vi with
    | int kd n =>
      simp only [Rep] at hri
      subst hri
      simp only [indexVP] at h
      split at h
      case isFalse => simp [Prog.run] at h
      rename_i hn
      split at h
      · rename_i cs
        split at h
        · rename_i len e he
          split at h
          case isFalse => simp [Prog.run] at h
          rename_i hc
          obtain ⟨hlt, hinfo⟩ := hc
          simp only [tOk, Bool.and_eq_true] at hinfo
          obtain ⟨i, hi⟩ := Option.isSome_iff_exists.1 hinfo.1
          simp only [Rep] at hr
          obtain ⟨us, rfl, hr⟩ := hr
          obtain ⟨e1, u', h3, h4⟩ := part_ok ((RepL_iff _ _).1 hr) h
          have ht : P.underlying t = some (.array len e) := by
            unfold arrOf at he
            split at he
            · rename_i n' e' he'; cases he; exact he'
            · cases he
          have hlt' : n < (len : Int) := by omega
          refine ⟨e1, u', ?_, h4⟩
          simp [Instr.index, run_underlying ht, asIntOf, sizeOf, typeInfo, hi, hn, hlt']
          simpa [Program.cellsOf, hi] using h3
        · simp [Prog.run] at h
      · rename_i s
        split at h
        · rename_i hs
          split at h
          · rename_i b hb
            simp only [Prog.run, Option.some.injEq, Prod.mk.injEq] at h
            obtain ⟨rfl, rfl⟩ := h
            simp only [Rep] at hr
            subst hr
            refine ⟨rfl, .int .u8 b.toNat, ?_, by simp only [Rep]⟩
            have ht : P.underlying t = some .string := by
              unfold strB at hs
              split at hs
              · rename_i he'; exact he'
              · cases hs
            have hb' : s[n.toNat]? = some b := by
              have hlt : n.toNat < s.data.size := (Array.getElem?_eq_some_iff.1 hb).1
              have : n.toNat < s.size := hlt
              rw [getElem?_pos s n.toNat this]
              rw [getElem?_pos s.data n.toNat hlt] at hb
              exact hb
            simp [Instr.index, run_underlying ht, asIntOf, hn, hb']
          · simp [Prog.run] at h
        · simp [Prog.run] at h
      · simp [Prog.run] at h
    | _ => simp [indexVP, Prog.run] at h
  | any | sl | dp | own | ptr | eptr | agg | tup | vec | fn => simp [indexVP, Prog.run] at h

theorem strB_ok {t : TypeId} (h : strB P t = true) : P.underlying t = some .string := by
  unfold strB at h
  split at h
  · rename_i he'; exact he'
  · cases h
theorem slel_some {t : TypeId} (h : (slel P t).isSome) : ∃ e, P.underlying t = some (.slice e) := by
  obtain ⟨e, he⟩ := Option.isSome_iff_exists.1 h
  exact ⟨e, slel_ok he⟩
theorem len_run (w : World) {t e ty : TypeId} (ht : P.underlying t = some (.slice e)) (A : Option Addr) (n c : Nat) : (Builtin.len_ #[t] ty #[.slice A n c]).run P w = .ok (.int .i64 n) w := by
  simp [Builtin.len_, run_underlying ht, goInt]

theorem len_ok {t ty : TypeId} {x v : AV} {u : Value} (hr : Rep k I m hp w x u) (h : (lenP P t x).run hp = some (v, hp')) :
    hp' = hp ∧ ∃ u', (Builtin.len_ #[t] ty #[u]).run P w = .ok u' w ∧ Rep k I m hp w v u' := by
  cases x with
  | sc vi =>
    simp only [Rep] at hr
    subst hr
    unfold lenP at h
    split at h
    all_goals first | (simp [Prog.run] at h; done) | (rename_i heq; simp at heq; done) | skip
    · rename_i s heq
      simp only [AV.sc.injEq] at heq
      subst heq
      split at h
      · rename_i hs
        simp only [Prog.run, Option.some.injEq, Prod.mk.injEq] at h
        obtain ⟨rfl, rfl⟩ := h
        exact ⟨rfl, .int .i64 s.size, by simp [Builtin.len_, run_underlying (strB_ok hs), goInt], by simp only [Rep]⟩
      · simp [Prog.run] at h
    · rename_i heq
      simp only [AV.sc.injEq] at heq
      subst heq
      split at h
      · rename_i hs
        obtain ⟨e, he⟩ := slel_some hs
        simp only [Prog.run, Option.some.injEq, Prod.mk.injEq] at h
        obtain ⟨rfl, rfl⟩ := h
        exact ⟨rfl, .int .i64 0, len_run w he none 0 0, by simp only [Rep]⟩
      · simp [Prog.run] at h
  | sl f sz rows =>
    simp only [lenP] at h
    split at h
    · rename_i hs
      obtain ⟨e, he⟩ := slel_some hs
      simp only [Prog.run, Option.some.injEq, Prod.mk.injEq] at h
      obtain ⟨rfl, rfl⟩ := h
      simp only [Rep, RepD] at hr
      obtain ⟨A, cap, rfl, _⟩ := hr
      exact ⟨rfl, _, len_run w he A _ cap, by simp only [Rep]⟩
    · simp [Prog.run] at h
  | own x g n =>
    simp only [lenP] at h
    split at h
    case isFalse => simp [Prog.run] at h
    rename_i hs
    obtain ⟨e, he⟩ := slel_some hs
    simp only [Prog.run] at h
    cases hx : hp x with
    | no g' => rw [hx] at h; simp [Prog.run, AObj.head] at h
    | box g' cells f => rw [hx] at h; simp [Prog.run, AObj.head] at h
    | arr g' sz e rows f =>
      rw [hx] at h
      simp only [AObj.head] at h
      split at h
      · rename_i hg
        subst hg
        simp only [Prog.run, Option.some.injEq, Prod.mk.injEq] at h
        obtain ⟨rfl, rfl⟩ := h
        simp only [Rep] at hr
        obtain ⟨_, _, hr⟩ := hr
        obtain ⟨_, hr⟩ := hr sz e rows f hx
        rcases hr with ⟨_, rfl, rfl⟩ | ⟨b, cap, _, rfl⟩
        · exact ⟨rfl, _, len_run w he none 0 0, by simp only [Rep]⟩
        · exact ⟨rfl, _, len_run w he _ n cap, by simp only [Rep]⟩
      · simp [Prog.run] at h
  | any | ptr | eptr | dp | agg | tup | vec | fn => simp [lenP, Prog.run] at h

/-! ### scalars -/
theorem evInt_ok {op : BinOp} {kd : IntKind} {a b : Int} {v : Value} (h : evInt op kd a b = some v) (t : TypeId) (hs : op ≠ .shl ∧ op ≠ .shr) :
    (binOp op t (.int kd a) (.int kd b)).run P w = .ok v w := by
  cases op <;> simp only [evInt, Option.some.injEq, reduceCtorEq] at h <;> first
    | (exact absurd rfl hs.1)
    | (exact absurd rfl hs.2)
    | (subst h; simp [binOp, Op.intArith, Op.intBits, Op.intCmp]; done)
    | (split at h
       · cases h
       · rename_i hb
         simp only [Option.some.injEq] at h
         subst h
         simp [binOp, Op.intDiv, hb])

theorem evStr_ok {op : BinOp} {a b : ByteArray} {v : Value} (h : evStr op a b = some v) (t : TypeId) : (binOp op t (.string a) (.string b)).run P w = .ok v w := by
  have e : ∀ x y : ByteArray, (x.toList == y.toList) = decide (x = y) := fun x y => by
    rw [ByteArray.toList_eq, ByteArray.toList_eq]
    by_cases hxy : x = y
    · subst hxy; simp
    · have hd : x.data ≠ y.data := fun h => hxy (ByteArray.ext h)
      simp [hd, hxy]
  cases op <;> simp only [evStr, Option.some.injEq, reduceCtorEq] at h
  case add =>
    split at h
    · rename_i hc
      simp only [Option.some.injEq] at h
      subst h
      have hc' : ¬ (9223372036854775807 < ((a.size : Int) + (b.size : Int))) := by omega
      simp [binOp, Op.stringOp, IntKind.max, IntKind.signed, IntKind.bits, hc']
    · cases h
  case eql => subst h; simp [binOp, Op.stringOp, e]
  case neq => subst h; simp [binOp, Op.stringOp, e]
  case lss => subst h; simp [binOp, Op.stringOp]
end
end Go.Ab
