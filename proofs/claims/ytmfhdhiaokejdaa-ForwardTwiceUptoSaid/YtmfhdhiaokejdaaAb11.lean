/- Lists that are made or built; structs and arrays that are built; conversions; equal structs. No program of Go is named here. -/
import Derived.Test.YtmfhdhiaokejdaaAb10
namespace Go.Ab
open Go
set_option linter.unusedSimpArgs false
set_option linter.unusedVariables false

section
variable {P : Program} {I K : Nat → Prop} {m : Mp} {hp hp' : Hp} {w : World} {k : Nat}

theorem zdat_ok {ct : TypeId} {v : Value} (h : v.oneCell' = true) : RepD I w (zdat P ct v) v := by
  unfold zdat
  split
  · simp only [RepD]
    exact ⟨none, 0, rfl, Nat.le_refl _, by simp [maxLen], by simp, .inl trivial⟩
  · simp only [RepD]
    exact ⟨trivial, h⟩
theorem zrow_ok {t : TypeId} {z : List AV} (h : zrow P t = some z) (hl : z.length = P.cellsOf t) (hz : zok P t = true) : ∃ i v, P.info? t = some i ∧ i.zero = some v ∧ v.cells.size = i.size ∧ 0 < i.size ∧ P.cellsOf t = i.size ∧ P.bytesOf t = i.bytes ∧ AllR (RepD I w) z v.cells.toList := by
  obtain ⟨i, v, h1, h2, h3, h4, h5, h6⟩ := zok_ok hz
  refine ⟨i, v, h1, h2, h3, h4, h5, h6, ?_⟩
  unfold zrow at h
  have hzs : zeros P t = some v.cells.toList := by simp [zeros, h1, h2]
  rw [hzs] at h
  simp only at h
  split at h
  · rename_i hall
    simp only [Option.some.injEq] at h
    subst h
    have hlen : (List.zipWith (zdat P) (tcs P t) v.cells.toList).length = v.cells.toList.length := by rw [hl, h5, Array.length_toList, h3]
    refine ⟨hlen, fun j a u ha hu => ?_⟩
    have hone : u.oneCell' = true := List.all_eq_true.1 hall u (List.mem_of_getElem? hu)
    rw [List.getElem?_zipWith] at ha
    cases hc : (tcs P t)[j]? with
    | none => rw [hc] at ha; cases ha
    | some c =>
      rw [hc, hu] at ha
      cases ha
      exact zdat_ok hone
  · cases h

theorem rep_flat {α : Type} (r : List α) : ∀ (n j : Nat), (List.replicate n r).flatten[j]? = if j < n * r.length then r[j % r.length]? else none
  | 0, j => by simp
  | n + 1, j => by
    rw [List.replicate_succ, List.flatten_cons, List.getElem?_append]
    split
    · rename_i hj
      have : j < (n + 1) * r.length := by rw [Nat.add_mul]; omega
      rw [if_pos this, Nat.mod_eq_of_lt hj]
    · rename_i hj
      rw [rep_flat r n (j - r.length)]
      by_cases hc : j - r.length < n * r.length
      · rw [if_pos hc, if_pos (by rw [Nat.add_mul]; omega)]
        congr 1
        exact (Nat.mod_eq_sub_mod (by omega)).symm
      · rw [if_neg hc, if_neg (by rw [Nat.add_mul]; omega)]

theorem made_rows {z : List AV} {zc : Array Value} (h : AllR (RepD I w) z zc.toList) (hpos : 0 < zc.size) (l n : Nat) (hn : l * zc.size ≤ n) :
    RepRows I w zc.size (List.replicate l z) ((madeCells zc n).toList.take ((List.replicate l z).length * zc.size)) := by
  rw [RepRows_iff]
  have hzl : z.length = zc.size := by rw [h.1, Array.length_toList]
  refine ⟨fun r hr => by rw [(List.mem_replicate.1 hr).2]; exact hzl, ?_, fun j a u ha hu => ?_⟩
  · have e1 : (List.replicate l z).flatten.length = l * zc.size := by simp [hzl]
    have e2 : (madeCells zc n).toList.length = n := by simp [size_madeCells]
    rw [e1, List.length_take, e2, List.length_replicate]
    omega
  · rw [rep_flat] at ha
    rw [hzl] at ha
    split at ha
    · rename_i hj
      rw [List.getElem?_take] at hu
      split at hu
      · have hjn : j < n := by omega
        simp only [madeCells] at hu
        have hmod : j % zc.size < zc.size := Nat.mod_lt _ hpos
        rw [Array.getElem?_toList, Array.getElem?_map, Array.getElem?_range] at hu
        simp only [hjn, if_true, Option.map_some, Option.some.injEq] at hu
        refine h.2 (j % zc.size) a u ha ?_
        rw [← hu, Array.getElem?_toList, getElem!_pos zc (j % zc.size) hmod]
        exact Array.getElem?_eq_getElem hmod
      · cases hu
    · cases ha

theorem make_ok (G : Gam I K m hp w) {y : Nm} (hy : y.d ≤ k) {t : TypeId} {l c v : AV} {ul uc : Value} (hl : Rep k I m hp w l ul) (hc : Rep k I m hp w c uc) (h : (makeP P y t l c).run hp = some (v, hp')) :
    ∃ u' w' m', (Instr.makeSlice t ul uc).run P w = .ok u' w' ∧ Gam I K m' hp' w' ∧ Ext I K m hp w I m' hp' w' ∧ Rep k I m' hp' w' v u' := by
  unfold makeP at h
  split at h
  · rename_i kl nl kc nc
    simp only [Rep] at hl hc
    subst hl hc
    split at h
    · rename_i e he
      split at h
      · rename_i z hz
        split at h
        case isFalse => simp [Prog.run] at h
        rename_i hcond
        obtain ⟨h0, h1, h2, h3, h4, h5⟩ := hcond
        obtain ⟨i, zv, hi, hzz, hsz, hpos, hcs, hbs, hall⟩ := zrow_ok (I := I) (w := w) hz h4 h5
        have hcn : (0 : Int) ≤ nc := by omega
        obtain ⟨C, rfl⟩ := Int.eq_ofNat_of_zero_le hcn
        obtain ⟨L, rfl⟩ := Int.eq_ofNat_of_zero_le h0
        have hb : (i.bytes : Int) * (C : Int) ≤ 281474976710656 := by
          rw [hbs] at h3
          rw [Int.mul_comm]
          omega
        have hr := run_make (P := P) w t e i zv (slel_ok he) hi hzz kl kc L C (by omega) (by omega) hb (by omega)
        simp only [Int.toNat_natCast] at hr h
        have hLC : L ≤ C := by omega
        rw [hcs] at h
        have hmk := made_rows (I := I) (w := w) hall (by rw [hsz]; exact hpos) L (C * i.size) (by rw [hsz]; exact Nat.mul_le_mul_right _ hLC)
        rw [hsz] at hmk
        have hmax : C ≤ maxLen := by simp only [maxLen]; omega
        obtain ⟨m', G', E', R'⟩ := newArr_ok (us := (madeCells zv.cells (C * i.size)).toList) (cap := C) (mk := (0, 0)) (w1 := w.alloc (.cells (madeCells zv.cells (C * i.size)) e)) G hy (noMark0 _) (by simp [size_madeCells]) (by simpa using hLC) hmax hmk h (.inl rfl)
        refine ⟨_, _, m', hr, G', E', ?_⟩
        simpa using R'
      · simp [Prog.run] at h
    · simp [Prog.run] at h
  · simp [Prog.run] at h

/-! ### built -/
theorem fold_set (vs : List Value) (off : Nat) : ∀ (n : Nat) (cells : Array Value), off + n + vs.length ≤ cells.size →
    ((vs.zipIdx n).foldl (fun cs (c, j) => cs.setIfInBounds (off + j) c) cells).toList = cells.toList.take (off + n) ++ vs ++ cells.toList.drop (off + n + vs.length) := by
  induction vs with
  | nil => intro n cells _; simp
  | cons v vs ih =>
    intro n cells h
    simp only [List.length_cons] at h
    rw [List.zipIdx_cons, List.foldl_cons, ih (n + 1) _ (by simp; omega)]
    have e := list_seg_step cells.toList (off + n) v vs (by simp; omega)
    simpa [Array.toList_setIfInBounds, Nat.add_assoc] using e

theorem fill_step {place : Nat → Option (Nat × Nat)} {cells : Array Value} {i : Nat} {v : Value} {rest : List (Nat × Value)} {off size : Nat} (hp : place i = some (off, size)) (hs : v.cells.size = size) (hl : off + v.cells.size ≤ cells.size) :
    Instr.fill place cells ((i, v) :: rest) = Instr.fill place (cells.toList.take off ++ v.cells.toList ++ cells.toList.drop (off + v.cells.size)).toArray rest := by
  simp only [Instr.fill, hp]
  rw [if_neg (by simp; omega)]
  congr 1
  apply Array.ext'
  have := fold_set v.cells.toList off 0 cells (by simpa using hl)
  simp only [Nat.add_zero, Array.length_toList] at this
  rw [← this, ← Array.foldl_toList]
  simp

/-- Operands, one by one, with the numbers of their places. -/
def PartsR (k : Nat) (I : Nat → Prop) (m : Mp) (hp : Hp) (w : World) : List (Nat × AV) → List (Nat × Value) → Prop
  | [], [] => True
  | (i, a) :: as, (j, u) :: us => i = j ∧ AllR (Rep k I m hp w) (cellsA a) u.cells.toList ∧ PartsR k I m hp w as us
  | _, _ => False

theorem fill_ok {place : Nat → Option (Nat × Nat)} : ∀ {parts : List (Nat × AV)} {us : List (Nat × Value)} {cells out : List AV} {cs : Array Value}, PartsR k I m hp w parts us → AllR (Rep k I m hp w) cells cs.toList → fillA place cells parts = some out →
    ∃ cs', Instr.fill place cs us = some cs' ∧ AllR (Rep k I m hp w) out cs'.toList
  | [], [], cells, out, cs, _, hc, h => by
    simp only [fillA, Option.some.injEq] at h
    subst h
    exact ⟨cs, rfl, hc⟩
  | [], _ :: _, _, _, _, hp, _, _ => by simp [PartsR] at hp
  | (i, a) :: as, [], _, _, _, hp, _, _ => by simp [PartsR] at hp
  | (i, a) :: as, (j, u) :: us, cells, out, cs, hpr, hc, h => by
    obtain ⟨rfl, h1, h2⟩ := hpr
    simp only [fillA] at h
    split at h
    · cases h
    · rename_i off size hpl
      split at h
      · rename_i hcond
        obtain ⟨hs, hl⟩ := hcond
        have hl1 := h1.1
        have hl2 := hc.1
        simp only [Array.length_toList] at hl1 hl2
        obtain ⟨cs', h3, h4⟩ := fill_ok (cs := (cs.toList.take off ++ u.cells.toList ++ cs.toList.drop (off + u.cells.size)).toArray) h2 (by
          have := hc.splice h1 off hl
          simpa using this) h
        exact ⟨cs', by rw [fill_step hpl (by omega) (by omega)]; exact h3, h4⟩
      · cases h

theorem build_ok {t : TypeId} {parts : List (Nat × AV)} {us : Array (Nat × Value)} {v : AV} (hr : PartsR k I m hp w parts us.toList) (h : (buildP P t parts).run hp = some (v, hp')) :
    hp' = hp ∧ ∃ u', (Instr.build t us).run P w = .ok u' w ∧ Rep k I m hp w v u' := by
  unfold buildP at h
  split at h
  case isFalse => simp [Prog.run] at h
  rename_i hok
  simp only [bldOk, Bool.and_eq_true] at hok
  obtain ⟨hz, hok⟩ := hok
  obtain ⟨zl, hzl⟩ := Option.isSome_iff_exists.1 hz
  unfold zeros at hzl
  cases hi : P.info? t with
  | none => simp [hi] at hzl
  | some it =>
    cases hzz : it.zero with
    | none => simp [hi, hzz] at hzl
    | some z =>
      have hzl' : zeros P t = some z.cells.toList := by simp [zeros, hi, hzz]
      split at h
      case h_2 => simp [Prog.run] at h
      rename_i cs hf
      simp only [Prog.run, Option.some.injEq, Prod.mk.injEq] at h
      obtain ⟨rfl, rfl⟩ := h
      refine ⟨rfl, ?_⟩
      rw [hzl'] at hf
      simp only [Option.getD_some] at hf
      have hz0 : AllR (Rep k I m hp w) (z.cells.toList.map .sc) z.cells.toList := by
        refine ⟨by simp, fun j a u ha hu => ?_⟩
        rw [List.getElem?_map, hu] at ha
        cases ha
        simp only [Rep]
      obtain ⟨cs', h1, h2⟩ := fill_ok hr hz0 hf
      have fin : P.built t us.toList = some cs' → ∃ u', (Instr.build t us).run P w = .ok u' w ∧ Rep k I m hp w (.agg cs) u' := fun hb =>
        ⟨.agg cs', run_build w t us cs' hb, by simp only [Rep]; exact ⟨cs'.toList, rfl, (RepL_iff _ _).2 h2⟩⟩
      cases hu : P.underlying t with
      | none => rw [hu] at hok; simp at hok
      | some d =>
        rw [hu] at hok
        cases d with
        | array n e =>
          simp only at hok
          obtain ⟨ie, hie⟩ := Option.isSome_iff_exists.1 hok
          have ha : arrOf P t = some (n, e) := by simp [arrOf, hu]
          rw [ha] at h1
          refine fin ?_
          simp only [Program.built, hi, hu, hzz, hie]
          rw [← h1]
          congr 1
          funext i
          simp [Program.cellsOf, hie]
        | struct fs =>
          simp only at hok
          have ha : arrOf P t = none := by simp [arrOf, hu]
          rw [ha] at h1
          refine fin ?_
          have hm : ∀ l : List Field, (l.all fun f => (P.info? f.type).isSome) = true → l.mapM (fun f => (P.info? f.type).map fun i => (f.offset, i.size)) = some (l.map fun f => (f.offset, P.cellsOf f.type)) := by
            intro l hl
            induction l with
            | nil => rfl
            | cons f l ih =>
              simp only [List.all_cons, Bool.and_eq_true] at hl
              obtain ⟨ii, hii⟩ := Option.isSome_iff_exists.1 hl.1
              rw [List.mapM_cons, ih hl.2, hii]
              simp [Program.cellsOf, hii]
          simp only [Program.built, hi, hu, hzz, hm _ hok]
          rw [← h1]
          congr 1
          funext i
          simp [flds, hu]
          cases fs[i]? <;> rfl
        | _ => simp at hok

/-! ### equal structs -/
/-- What is asked of a type whose structs are held against each other. -/
def EqLaw (P : Program) (E : TypeId → Bool) : Prop :=
  ∀ t, E t = true → ∀ (w : World) (x y : Operand) (us vs : List Value) (b : Bool), fitsL P (tcs P t) (us.map .sc) = true → fitsL P (tcs P t) (vs.map .sc) = true → eqL (us.map .sc) (vs.map .sc) = some b →
    (do eqGuard .eql t x y (.agg ⟨us⟩) (.agg ⟨vs⟩); binOp .eql t (.agg ⟨us⟩) (.agg ⟨vs⟩) : Sem Value).run P w = .ok (.bool b) w ∧
    (do eqGuard .neq t x y (.agg ⟨us⟩) (.agg ⟨vs⟩); binOp .neq t (.agg ⟨us⟩) (.agg ⟨vs⟩) : Sem Value).run P w = .ok (.bool (!b)) w

theorem eqV_sc {a b : AV} {r : Bool} (h : eqV a b = some r) : ∃ u v, a = .sc u ∧ b = .sc v := by
  unfold eqV at h
  split at h
  · exact ⟨_, _, rfl, rfl⟩
  · exact ⟨_, _, rfl, rfl⟩
  · exact ⟨_, _, rfl, rfl⟩
  · cases h
theorem eqL_sc : ∀ {xs ys : List AV} {us vs : List Value} {b : Bool}, eqL xs ys = some b → AllR (Rep k I m hp w) xs us → AllR (Rep k I m hp w) ys vs → xs = us.map .sc ∧ ys = vs.map .sc
  | [], [], us, vs, b, _, h1, h2 => by
    have e1 : us = [] := List.eq_nil_of_length_eq_zero (by rw [← h1.1]; rfl)
    have e2 : vs = [] := List.eq_nil_of_length_eq_zero (by rw [← h2.1]; rfl)
    subst e1 e2
    exact ⟨rfl, rfl⟩
  | [], _ :: _, us, vs, b, h, _, _ => by simp [eqL] at h
  | _ :: _, [], us, vs, b, h, _, _ => by simp [eqL] at h
  | x :: xs, y :: ys, us, vs, b, h, h1, h2 => by
    obtain ⟨u, us', rfl, a1, a2⟩ := h1.cons_inv
    obtain ⟨v, vs', rfl, b1, b2⟩ := h2.cons_inv
    simp only [eqL] at h
    split at h
    · rename_i r s hv hl
      obtain ⟨e1, e2⟩ := eqL_sc hl a2 b2
      obtain ⟨u', v', rfl, rfl⟩ := eqV_sc hv
      simp only [Rep] at a1 b1
      subst a1 b1
      exact ⟨by rw [e1]; rfl, by rw [e2]; rfl⟩
    · cases h

theorem guard_int (w : World) (op : BinOp) (t : TypeId) (x y : Operand) (kd kd' : IntKind) (n n' : Int) : (eqGuard op t x y (.int kd n) (.int kd' n')).run P w = .ok () w := by
  cases op <;> simp [eqGuard]
theorem guard_string (w : World) (op : BinOp) (t : TypeId) (x y : Operand) (s s' : ByteArray) : (eqGuard op t x y (.string s) (.string s')).run P w = .ok () w := by
  cases op <;> simp [eqGuard]
theorem guard_bool (w : World) (op : BinOp) (t : TypeId) (x y : Operand) (p q : Bool) : (eqGuard op t x y (.bool p) (.bool q)).run P w = .ok () w := by
  cases op <;> simp [eqGuard]

theorem run_equalIn_map (w : World) (d : Nat) (p : Option Nat) {t kt et : TypeId} (hu : P.underlying t = some (.map kt et)) : (Op.equalIn (d + 1) t (.map p) (.map none)).run P w = .ok p.isNone w := by
  cases p <;> simp [Op.equalIn, run_underlying hu]
theorem bin_ok {E : TypeId → Bool} (hE : EqLaw P E) {op : BinOp} {t : TypeId} {x y : Operand} {a b v : AV} {u u' : Value} (ha : Rep k I m hp w a u) (hb : Rep k I m hp w b u') (h : evBin P E op t a b = some v) :
    ∃ r, (do eqGuard op t x y u u'; binOp op t u u' : Sem Value).run P w = .ok r w ∧ Rep k I m hp w v r := by
  unfold evBin at h
  split at h
  · rename_i kd n kd' n'
    simp only [Rep] at ha hb
    subst ha hb
    have hg := guard_int (P := P) w op t x y kd kd' n n'
    split at h
    · split at h
      · cases h
      · rename_i hn
        simp only [Option.some.injEq] at h
        subst h
        refine ⟨.int kd (kd.wrap (n * 2 ^ min n'.toNat kd.bits)), ?_, by simp only [Rep]⟩
        simp [hg, binOp, Op.shift, hn]
    · split at h
      · cases h
      · rename_i hn
        simp only [Option.some.injEq] at h
        subst h
        refine ⟨.int kd (n.fdiv (2 ^ min n'.toNat kd.bits)), ?_, by simp only [Rep]⟩
        simp [hg, binOp, Op.shift, hn]
    · rename_i h1 h2
      split at h
      · rename_i hk
        subst hk
        cases hv : evInt op kd n n' with
        | none => rw [hv] at h; cases h
        | some r =>
          rw [hv] at h
          simp only [Option.map_some, Option.some.injEq] at h
          subst h
          exact ⟨r, by simp [Sem.run_bind, hg, evInt_ok hv t ⟨h1, h2⟩], by simp only [Rep]⟩
      · cases h
  · rename_i s s'
    simp only [Rep] at ha hb
    subst ha hb
    have hg := guard_string (P := P) w op t x y s s'
    cases hv : evStr op s s' with
    | none => rw [hv] at h; cases h
    | some r =>
      rw [hv] at h
      simp only [Option.map_some, Option.some.injEq] at h
      subst h
      exact ⟨r, by simp [Sem.run_bind, hg, evStr_ok hv t], by simp only [Rep]⟩
  · rename_i p q
    simp only [Rep] at ha hb
    subst ha hb
    have hg := guard_bool (P := P) w op t x y p q
    split at h
    · rename_i hbl
      have hu : P.underlying t = some .bool := by
        unfold bolB at hbl
        split at hbl
        · rename_i he; exact he
        · cases hbl
      split at h <;> simp only [Option.some.injEq, reduceCtorEq] at h
      · subst h
        refine ⟨.bool (p == q), ?_, by simp only [Rep]⟩
        simp only [Sem.run_bind, hg, Result.andThen_ok, binOp]
        simp [Op.equal, Op.maxDepth, run_equalIn_bool' (P := P) w 9999 t p q hu]
      · subst h
        refine ⟨.bool (p != q), ?_, by simp only [Rep]⟩
        simp only [Sem.run_bind, hg, Result.andThen_ok, binOp]
        simp [Op.equal, Op.maxDepth, run_equalIn_bool' (P := P) w 9999 t p q hu]
        cases p <;> cases q <;> rfl
    · cases h
  · rename_i p
    simp only [Rep] at ha hb
    subst ha hb
    have hg : (eqGuard op t x y (.map p) (.map none)).run P w = .ok () w := by cases op <;> simp [eqGuard]
    split at h
    · rename_i hbl
      obtain ⟨kt, et, hu⟩ : ∃ kt et, P.underlying t = some (.map kt et) := by
        unfold mapB at hbl
        split at hbl
        · rename_i he; exact ⟨_, _, he⟩
        · cases hbl
      have hq : (Op.equal t (.map p) (.map none)).run P w = .ok p.isNone w := by
        exact run_equalIn_map w 9999 p hu
      split at h <;> simp only [Option.some.injEq, reduceCtorEq] at h
      · subst h
        refine ⟨.bool p.isNone, ?_, by simp only [Rep]⟩
        simp only [Sem.run_bind, hg, Result.andThen_ok, binOp]
        simp [hq]
      · subst h
        refine ⟨.bool p.isSome, ?_, by simp only [Rep]⟩
        simp only [Sem.run_bind, hg, Result.andThen_ok, binOp]
        simp [hq]
    · cases h
  · rename_i xs ys
    simp only [Rep] at ha hb
    obtain ⟨us, rfl, ha⟩ := ha
    obtain ⟨vs, rfl, hb⟩ := hb
    split at h
    · rename_i hEt
      obtain ⟨hEt, hf1, hf2⟩ := hEt
      split at h
      · rename_i r he
        simp only [Option.some.injEq] at h
        subst h
        obtain ⟨e1, e2⟩ := eqL_sc he ((RepL_iff _ _).1 ha) ((RepL_iff _ _).1 hb)
        rw [e1, e2] at he
        rw [e1] at hf1
        rw [e2] at hf2
        exact ⟨_, (hE t hEt w x y us vs r hf1 hf2 he).1, by simp only [Rep]⟩
      · rename_i r he
        simp only [Option.some.injEq] at h
        subst h
        obtain ⟨e1, e2⟩ := eqL_sc he ((RepL_iff _ _).1 ha) ((RepL_iff _ _).1 hb)
        rw [e1, e2] at he
        rw [e1] at hf1
        rw [e2] at hf2
        exact ⟨_, (hE t hEt w x y us vs r hf1 hf2 he).2, by simp only [Rep]⟩
      · cases h
    · cases h
  · cases h

theorem un_ok {op : UnOp} {a v : AV} {u : Value} (ha : Rep k I m hp w a u) (h : evUn op a = some v) : ∃ r, (Op.unary op u).run P w = .ok r w ∧ Rep k I m hp w v r := by
  unfold evUn at h
  split at h
  · simp only [Rep] at ha
    subst ha
    split at h <;> simp only [Option.some.injEq, reduceCtorEq] at h <;> subst h
    · exact ⟨_, rfl, by simp only [Rep]⟩
    · exact ⟨_, rfl, by simp only [Rep]⟩
  · simp only [Rep] at ha
    subst ha
    split at h <;> simp only [Option.some.injEq, reduceCtorEq] at h
    subst h
    exact ⟨_, rfl, by simp only [Rep]⟩
  · cases h

/-! ### lists that are built -/
theorem PartsR.mono {I' : Nat → Prop} {m' : Mp} {w' : World} (E : Ext I K m hp w I' m' hp' w') : ∀ {as : List (Nat × AV)} {us : List (Nat × Value)}, PartsR k I m hp w as us → PartsR k I' m' hp' w' as us
  | [], [], _ => trivial
  | [], _ :: _, h => by simp [PartsR] at h
  | (_, _) :: _, [], h => by simp [PartsR] at h
  | (_, _) :: _, (_, _) :: _, ⟨h1, h2, h3⟩ => ⟨h1, h2.imp fun a u h => Rep.mono E k a u h, h3.mono E⟩
theorem rowsOfParts_ok {e : TypeId} {ie : TypeInfo} (hie : P.info? e = some ie) : ∀ {parts : List (Nat × AV)} {us : List (Nat × Value)} {I : Nat → Prop} {hp hp' : Hp} {rows rows' : List (List AV)} {cs : Array Value}, Gam I K m hp w → PartsR k I m hp w parts us →
    Even ie.size rows → AllR (RepD I w) rows.flatten cs.toList → (rowsOfParts P e parts rows).run hp = some (rows', hp') →
    ∃ I' cs', Gam I' K m hp' w ∧ Ext I K m hp w I' m hp' w ∧ Instr.fill (fun i => some (i * ie.size, ie.size)) cs us = some cs' ∧ Even ie.size rows' ∧ AllR (RepD I' w) rows'.flatten cs'.toList ∧ rows'.length = rows.length
  | [], [], I, hp, hp', rows, rows', cs, G, _, he, ha, h => by
    simp only [rowsOfParts, Prog.run, Option.some.injEq, Prod.mk.injEq] at h
    obtain ⟨rfl, rfl⟩ := h
    exact ⟨I, cs, G, .refl _ _ _ _ _, rfl, he, ha, rfl⟩
  | [], _ :: _, _, _, _, _, _, _, _, hp, _, _, _ => by simp [PartsR] at hp
  | (i, a) :: as, [], _, _, _, _, _, _, _, hp, _, _, _ => by simp [PartsR] at hp
  | (i, a) :: as, (j, u) :: us, I, hp, hp', rows, rows', cs, G, hpr, he, ha, h => by
    obtain ⟨rfl, h1, h2⟩ := hpr
    have hcs : P.cellsOf e = ie.size := by simp [Program.cellsOf, hie]
    simp only [rowsOfParts] at h
    split at h
    case isFalse => simp [Prog.run] at h
    rename_i hc
    obtain ⟨hl, hi⟩ := hc
    obtain ⟨r, hp1, r1, h3⟩ := run_bind_some h
    obtain ⟨I1, G1, E1, d1⟩ := toDatL_frz G h1 r1
    have hlen : u.cells.size = ie.size := by have := h1.1; simp at this; omega
    have hrl : r.length = ie.size := by have := d1.1; simp at this; omega
    have hle : i * ie.size + ie.size ≤ rows.length * ie.size := by
      have := Nat.mul_le_mul_right ie.size (show i + 1 ≤ rows.length from hi)
      rw [Nat.add_mul, Nat.one_mul] at this; exact this
    have hcl : cs.size = rows.length * ie.size := by have := ha.1; rw [he.length] at this; simpa using this.symm
    have ha1 : AllR (RepD I1 w) rows.flatten cs.toList := ha.imp fun a u h => RepD.mono E1.isub (fun _ _ => rfl) _ _ h
    have hset : AllR (RepD I1 w) (rows.set i r).flatten (cs.toList.take (i * ie.size) ++ u.cells.toList ++ cs.toList.drop (i * ie.size + u.cells.size)) := by
      rw [flatten_set he hi]
      have a5 := ((ha1.take (i * ie.size)).append d1).append (ha1.drop (i * ie.size + ie.size))
      rwa [hlen]
    have hpr2 : PartsR k I1 m hp1 w as us := h2.mono E1
    obtain ⟨I2, cs', G2, E2, f1, f2, f3, f4⟩ := rowsOfParts_ok hie (cs := (cs.toList.take (i * ie.size) ++ u.cells.toList ++ cs.toList.drop (i * ie.size + u.cells.size)).toArray) G1 hpr2 (he.set hrl) (by simpa using hset) h3
    refine ⟨I2, cs', G2, E1.trans E2, ?_, f2, f3, by rw [f4, List.length_set]⟩
    rw [fill_step (off := i * ie.size) (size := ie.size) rfl hlen (by omega)]
    exact f1

theorem buildSlice_ok (G : Gam I K m hp w) {y : Nm} (hy : y.d ≤ k) {t : TypeId} {len : Nat} {parts : List (Nat × AV)} {us : Array (Nat × Value)} {v : AV} (hr : PartsR k I m hp w parts us.toList) (h : (buildSliceP P y t len parts).run hp = some (v, hp')) :
    ∃ u' w' I' m', (Instr.buildSlice t len us).run P w = .ok u' w' ∧ Gam I' K m' hp' w' ∧ Ext I K m hp w I' m' hp' w' ∧ Rep k I' m' hp' w' v u' := by
  unfold buildSliceP at h
  split at h
  · rename_i e he
    split at h
    · rename_i z hz
      split at h
      case isFalse => simp [Prog.run] at h
      rename_i hc
      obtain ⟨hzl, hzo, hsz, hmax⟩ := hc
      obtain ⟨i, zv, hi, hzz, hzs, hpos, hcs, hbs, hall⟩ := zrow_ok (I := I) (w := w) hz hzl hzo
      obtain ⟨rows, hp1, r1, h2⟩ := run_bind_some h
      clear h
      have hmk := made_rows (I := I) (w := w) hall (by rw [hzs]; exact hpos) len (len * i.size) (by rw [hzs]; exact Nat.le_refl _)
      rw [hzs, RepRows_iff, List.length_replicate] at hmk
      have hfull : (madeCells zv.cells (len * i.size)).toList.take (len * i.size) = (madeCells zv.cells (len * i.size)).toList := List.take_of_length_le (by simp [size_madeCells])
      rw [hfull] at hmk
      obtain ⟨I1, cs', G1, E1, f1, f2, f3, f4⟩ := rowsOfParts_ok hi G hr hmk.1 hmk.2 r1
      rw [List.length_replicate] at f4
      rw [hcs] at h2 hsz
      have hcsz : cs'.size = len * i.size := by have := f3.1; rw [f2.length, f4] at this; simpa using this.symm
      obtain ⟨m', G', E', R'⟩ := newArr_ok (us := cs'.toList) (cap := len) (mk := (0, 0)) (w1 := w.alloc (.cells cs' e)) G1 hy (noMark0 _) (by simpa using hcsz) (by omega) hmax
        (by rw [RepRows_iff, f4, List.take_of_length_le (by simp [hcsz])]; exact ⟨f2, f3⟩) h2 (.inl rfl)
      rw [f4] at R'
      refine ⟨_, _, I1, m', ?_, G', E1.trans E', R'⟩
      have hlim : ¬ (16777216 < len * i.size) := by omega
      have hfill : Instr.fill (fun j => some (j * i.size, i.size)) (Array.map (fun x => zv.cells[x % zv.cells.size]!) (Array.range (len * i.size))) us.toList = some cs' := f1
      by_cases h0 : len * i.size = 0
      · have h00 : Array.map (fun x => zv.cells[x % zv.cells.size]!) (Array.range (len * i.size)) = #[] := by rw [h0]; apply Array.ext'; simp
        rw [h00] at hfill
        have h0' : len = 0 ∨ i.size = 0 := Nat.mul_eq_zero.1 h0
        simp [Instr.buildSlice, run_underlying (slel_ok he), sizeOf, typeInfo, hi, h0, newRow, Array.range_zero', hfill]
      · simp [Instr.buildSlice, run_underlying (slel_ok he), sizeOf, typeInfo, zeroValue, hi, hzz, hlim, h0, newRow, hfill]
    · simp [Prog.run] at h
  · simp [Prog.run] at h
end
end Go.Ab
