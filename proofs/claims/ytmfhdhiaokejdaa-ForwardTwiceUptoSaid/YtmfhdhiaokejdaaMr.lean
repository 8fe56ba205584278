/- Maps with whole numbers for keys: the rules of their operations. No program of Go is named here. -/
import Derived.Test.YtmfhdhiaokejdaaMq
import Derived.MapFrom
namespace Go.Ab
open Go
set_option linter.unusedSimpArgs false
set_option linter.unusedVariables false
open Go.ChangeMaps (setBlock)
open Go.MapKept (IsKey findNow_spec heap_set)

abbrev ik (n : Int) : Value := .int .i64 n
/-- A map's entries: the keys are just those of S, and each has its own stamp. -/
structure MapOk (es : Array MapEntry) (clock : Nat) (S : List Int) : Prop where
  keys : es.toList.map (·.key) = S.map ik
  born : ∀ x ∈ es.toList, x.born < clock
  nodup : (es.toList.map (·.born)).Nodup
theorem isKey_ik (n : Int) : IsKey (.int .i64) (ik n) := rfl
theorem MapOk.empty : MapOk #[] 0 [] := ⟨rfl, by simp, by simp⟩
theorem MapOk.isKey {es : Array MapEntry} {clock : Nat} {S : List Int} (h : MapOk es clock S) : ∀ x ∈ es.toList, IsKey (.int .i64) x.key := by
  intro x hx
  have : x.key ∈ es.toList.map (·.key) := List.mem_map.2 ⟨x, hx, rfl⟩
  rw [h.keys] at this
  obtain ⟨n, _, e⟩ := List.mem_map.1 this
  rw [← e]; rfl
theorem MapOk.mem {es : Array MapEntry} {clock : Nat} {S : List Int} (h : MapOk es clock S) {n : Int} : n ∈ S ↔ ∃ x ∈ es.toList, x.key = ik n := by
  constructor
  · intro hn
    have : ik n ∈ es.toList.map (·.key) := by rw [h.keys]; exact List.mem_map.2 ⟨n, hn, rfl⟩
    obtain ⟨x, hx, e⟩ := List.mem_map.1 this
    exact ⟨x, hx, e⟩
  · rintro ⟨x, hx, e⟩
    have : x.key ∈ es.toList.map (·.key) := List.mem_map.2 ⟨x, hx, rfl⟩
    rw [h.keys] at this
    obtain ⟨m, hm, e2⟩ := List.mem_map.1 this
    rw [e] at e2
    cases e2
    exact hm
theorem MapOk.push {es : Array MapEntry} {clock : Nat} {S : List Int} (h : MapOk es clock S) (n : Int) (v : Value) : MapOk (es.push { key := ik n, val := v, born := clock }) (clock + 1) (S ++ [n]) where
  keys := by simp [h.keys]
  born := by
    intro x hx
    simp only [Array.toList_push, List.mem_append, List.mem_singleton] at hx
    rcases hx with hx | rfl
    · have := h.born x hx; omega
    · exact Nat.lt_succ_self _
  nodup := by
    simp only [Array.toList_push, List.map_append, List.map_cons, List.map_nil]
    refine List.nodup_append.2 ⟨h.nodup, by simp, ?_⟩
    intro a ha b hb
    simp only [List.mem_singleton] at hb
    subst hb
    obtain ⟨x, hx, rfl⟩ := List.mem_map.1 ha
    exact Nat.ne_of_lt (h.born x hx)
theorem MapOk.erase {es : Array MapEntry} {clock : Nat} {S : List Int} (h : MapOk es clock S) (j : Nat) (hj : j < es.size) : MapOk (es.eraseIdxIfInBounds j) clock (S.eraseIdx j) where
  keys := by
    unfold Array.eraseIdxIfInBounds
    rw [dif_pos hj]
    simp only [Array.toList_eraseIdx]
    rw [ChangeMaps.map_eraseIdx, h.keys, ← ChangeMaps.map_eraseIdx]
  born := by
    intro x hx
    unfold Array.eraseIdxIfInBounds at hx
    rw [dif_pos hj] at hx
    simp only [Array.toList_eraseIdx] at hx
    exact h.born x ((List.eraseIdx_sublist _ _).subset hx)
  nodup := by
    unfold Array.eraseIdxIfInBounds
    rw [dif_pos hj]
    simp only [Array.toList_eraseIdx]
    exact h.nodup.sublist ((List.eraseIdx_sublist _ _).map _)

section
variable {P : Program} {K : Nat → Prop} {k N : Nat} {B : Base} {all : Array Oper} {n : Nat} {ty : TypeId} {pos : String} {aft : Array Edge} {os : List Oper} {fr : Nat → AV} {hp : Hp} {M : MM} {Q : Ex → AS → MM → Prop}

theorem StM.val {st : AS} {a : Act} {w : World} (S : StM k N K B st M a w) {x : Operand} {v : Value} (h : opA st.fr x = .sc v) : a.eval x = v := by
  obtain ⟨I, m, H, E0, hf, hsz, hdf⟩ := S
  have := opA_ok hf x
  rw [h] at this
  simpa only [Rep] using this
theorem StM.heap {st : AS} {a : Act} {w : World} (S : StM k N K B st M a w) {b : Nat} {o : Obj} (h : M b = some o) : w.heap[b]? = some o := by
  obtain ⟨I, m, H, _⟩ := S
  exact H.at' b o h
theorem StM.turn {st : AS} {a : Act} {w w' : World} (S : StM k N K B st M a w) {b : Nat} {o o' : Obj} (hb : M b = some o) (ho : w'.heap[b]? = some o') (hoth : ∀ c, c ≠ b → w'.heap[c]? = w.heap[c]?) (hsz : w'.heap.size = w.heap.size)
    (hos : w'.os = w.os) (htp : w'.tape = w.tape) (hout : w'.output = w.output) : StM k N K B st (mset M b o') a w' := by
  obtain ⟨I, m, H, E0, hf, hs, hdf⟩ := S
  obtain ⟨H', E'⟩ := H.set hb ho hoth hsz hos htp hout
  exact ⟨I, m, H', E0.trans E', fun t => Rep.mono E' _ _ _ (hf t), hs, hdf⟩
theorem StM.setBlock {st : AS} {a : Act} {w : World} (S : StM k N K B st M a w) {b : Nat} {o o' : Obj} (hb : M b = some o) : StM k N K B st (mset M b o') a (setBlock w b o') := by
  have hw := S.heap hb
  exact S.turn hb (heap_set hw).1 (heap_set hw).2 (by simp [ChangeMaps.setBlock]) rfl rfl rfl
theorem StM.drew {st : AS} {a : Act} {w : World} (S : StM k N K B st M a w) : StM k N K B st M a w.drew := by
  obtain ⟨I, m, H, E0, hf, hs, hdf⟩ := S
  obtain ⟨H', E'⟩ := H.drew
  exact ⟨I, m, H', E0.trans E', fun t => Rep.mono E' _ _ _ (hf t), hs, hdf⟩
theorem StM.alloc {st : AS} {a : Act} {w : World} (S : StM k N K B st M a w) (o : Obj) : M w.heap.size = none ∧ StM k N K B st (mset M w.heap.size o) a (w.alloc o) := by
  obtain ⟨I, m, H, E0, hf, hs, hdf⟩ := S
  obtain ⟨hn, H', E'⟩ := H.new o
  exact ⟨hn, I, m, H', E0.trans E', fun t => Rep.mono E' _ _ _ (hf t), hs, hdf⟩
theorem StM.put {st : AS} {a : Act} {w : World} (S : StM k N K B st M a w) {d : Nat} (hd : d < N) {v : AV} {u : Value} (hv : ∀ D I m hp w, Rep D I m hp w v u) : StM k N K B ⟨setd st.fr (some d) v, st.hp⟩ M (a.put (some d) u) w := by
  obtain ⟨I, m, H, E0, hf, hs, hdf⟩ := S
  exact ⟨I, m, H, E0, setd_ok (d := some d) hf (hv _ _ _ _ _) (fun x hx => by rw [hs]; exact Option.some.inj hx ▸ hd), by rw [put_size]; exact hs, by rw [put_defers]; exact hdf⟩
theorem rep_sc {v : Value} (D : Nat) (I : Nat → Prop) (m : Mp) (hp : Hp) (w : World) : Rep D I m hp w (.sc v) v := by simp only [Rep]
theorem rep_tup {vs : List Value} (D : Nat) (I : Nat → Prop) (m : Mp) (hp : Hp) (w : World) : Rep D I m hp w (.tup (vs.map .sc)) (.tuple ⟨vs⟩) := by
  simp only [Rep]
  refine ⟨vs, rfl, ?_⟩
  rw [RepL_iff]
  refine ⟨by simp, fun i a u ha hu => ?_⟩
  rw [List.getElem?_map, hu] at ha
  cases ha
  simp only [Rep]

/-- make(map). -/
theorem To_makeMap {d : Nat} {t : TypeId} (hd : d < N) (r : ∀ b, M b = none → To P k N K B all (n + 1) os ⟨setd fr (some d) (.sc (.map (some b))), hp⟩ (mset M b (.map #[] 0)) Q) :
    To P k N K B all n (⟨some d, .makeMap t none, ty, pos, aft, none⟩ :: os) ⟨fr, hp⟩ M Q := by
  refine To_op rfl fun a w S => ?_
  unfold OpR
  have hrun : (execOp a.eval ⟨some d, .makeMap t none, ty, pos, aft, none⟩).run P w = .ok (.value (.map (some w.heap.size))) (w.alloc (.map #[] 0)) := rfl
  rw [hrun]
  obtain ⟨hn, S'⟩ := S.alloc (.map #[] 0)
  exact ⟨_, _, S'.put hd (v := .sc _) rep_sc, r _ hn⟩
/-- m[key] = v: a new key. -/
theorem To_mapNew {t kt et : TypeId} {xm xk xv : Operand} {b : Nat} {es : Array MapEntry} {clock : Nat} {S : List Int} {key : Int} {v : Value} (ht : P.underlying t = some (.map kt et)) (hk : P.underlying kt = some (.int .i64))
    (h1 : opA fr xm = .sc (.map (some b))) (h2 : opA fr xk = .sc (ik key)) (h3 : opA fr xv = .sc v) (hM : M b = some (.map es clock)) (hok : MapOk es clock S) (hnew : key ∉ S)
    (r : To P k N K B all (n + 1) os ⟨fr, hp⟩ (mset M b (.map (es.push { key := ik key, val := v, born := clock }) (clock + 1))) Q) :
    To P k N K B all n (⟨none, .mapUpdate t xm xk xv, ty, pos, aft, none⟩ :: os) ⟨fr, hp⟩ M Q := by
  refine To_op rfl fun a w St => ?_
  have e1 := St.val h1
  have e2 := St.val h2
  have e3 := St.val h3
  have hb := St.heap hM
  unfold OpR
  have hrun : (execOp a.eval ⟨none, .mapUpdate t xm xk xv, ty, pos, aft, none⟩).run P w = .ok .skip (setBlock w b (.map (es.push { key := ik key, val := v, born := clock }) (clock + 1))) := by
    rcases findNow_spec (isKey_ik key) es.toList 0 hok.isKey with ⟨hf, _⟩ | ⟨j, e, hf, hj, he⟩
    · simp [execOp, e1, e2, e3, Instr.mapUpdate, run_underlying ht, MapKept.run_getObj_map hb, MapKept.run_checkKey hk (isKey_ik key), MapKept.run_findKey hk hf, MapKept.run_setObj_map _ hb, Result.andThen, ChangeMaps.setBlock]
    · exact (hnew (hok.mem.2 ⟨e, List.mem_of_getElem? hj, he⟩)).elim
  rw [hrun]
  exact ⟨_, _, St.setBlock hM, r⟩
/-- delete(m, key): one that is there. -/
theorem To_delete {t kt et kt' : TypeId} {xm xk : Operand} {b : Nat} {es : Array MapEntry} {clock : Nat} {S : List Int} {key : Int} (ht : P.underlying t = some (.map kt et)) (hk : P.underlying kt = some (.int .i64))
    (h1 : opA fr xm = .sc (.map (some b))) (h2 : opA fr xk = .sc (ik key)) (hM : M b = some (.map es clock)) (hok : MapOk es clock S) (hin : key ∈ S)
    (r : ∀ j es', S[j]? = some key → MapOk es' clock (S.eraseIdx j) → To P k N K B all (n + 1) os ⟨fr, hp⟩ (mset M b (.map es' clock)) Q) :
    To P k N K B all n (⟨none, .call { callee := .builtin .delete, args := #[xm, xk], argTypes := #[t, kt'] }, ty, pos, aft, none⟩ :: os) ⟨fr, hp⟩ M Q := by
  refine To_op rfl fun a w St => ?_
  have e1 := St.val h1
  have e2 := St.val h2
  have hb := St.heap hM
  unfold OpR
  rcases findNow_spec (isKey_ik key) es.toList 0 hok.isKey with ⟨_, hno⟩ | ⟨j, e, hf, hj, he⟩
  · obtain ⟨x, hx, e⟩ := hok.mem.1 hin
    exact (hno x hx e).elim
  · have hjs : j < es.size := by have := (List.getElem?_eq_some_iff.1 hj).1; simpa using this
    have hS : S[j]? = some key := by
      have h3 : (es.toList.map (·.key))[j]? = some (ik key) := by rw [List.getElem?_map, hj]; simp [he]
      rw [hok.keys, List.getElem?_map] at h3
      cases hs : S[j]? with
      | none => rw [hs] at h3; simp at h3
      | some z => rw [hs] at h3; simp at h3; rw [h3]
    have hrun : (execOp a.eval ⟨none, .call { callee := .builtin .delete, args := #[xm, xk], argTypes := #[t, kt'] }, ty, pos, aft, none⟩).run P w = .ok (.value (.tuple #[])) (setBlock w b (.map (es.eraseIdxIfInBounds j) clock)) := by
      have hf' : Instr.findNow (.int .i64) (ik key) es.toList 0 = some (some (j, e.val)) := by simpa using hf
      simp [execOp, resolve, invoke, builtin, e1, e2, Builtin.delete_, run_underlying ht, MapKept.run_getObj_map hb, MapKept.run_checkKey hk (isKey_ik key), MapKept.run_findKey hk hf', MapKept.run_setObj_map _ hb, Result.andThen, ChangeMaps.setBlock]
    rw [hrun]
    exact ⟨_, _, St.setBlock hM, r j _ hS (hok.erase j hjs)⟩
/-- range m: the iterator. -/
theorem To_rangeNil {d : Nat} {t kt et : TypeId} {xm : Operand} (hd : d < N) (ht : P.underlying t = some (.map kt et)) (h1 : opA fr xm = .sc (.map none))
    (r : ∀ b, M b = none → To P k N K B all (n + 1) os ⟨setd fr (some d) (.sc (.pointer (some ⟨b, 0, none⟩))), hp⟩ (mset M b (.mapIter none 0 #[] 0)) Q) :
    To P k N K B all n (⟨some d, .range t xm, ty, pos, aft, none⟩ :: os) ⟨fr, hp⟩ M Q := by
  refine To_op rfl fun a w S => ?_
  have e1 := S.val h1
  unfold OpR
  have hrun : (execOp a.eval ⟨some d, .range t xm, ty, pos, aft, none⟩).run P w = .ok (.value (.pointer (some ⟨w.heap.size, 0, none⟩))) (w.alloc (.mapIter none 0 #[] 0)) := by
    simp [execOp, e1, run_range_nilMap w t kt et ht]
  rw [hrun]
  obtain ⟨hn, S'⟩ := S.alloc (.mapIter none 0 #[] 0)
  exact ⟨_, _, S'.put hd (v := .sc _) rep_sc, r _ hn⟩
theorem To_range {d : Nat} {t kt et : TypeId} {xm : Operand} {c : Nat} {es : Array MapEntry} {clock : Nat} (hd : d < N) (ht : P.underlying t = some (.map kt et)) (h1 : opA fr xm = .sc (.map (some c))) (hM : M c = some (.map es clock))
    (r : ∀ b, M b = none → To P k N K B all (n + 1) os ⟨setd fr (some d) (.sc (.pointer (some ⟨b, 0, none⟩))), hp⟩ (mset M b (.mapIter (some c) clock #[] clock)) Q) :
    To P k N K B all n (⟨some d, .range t xm, ty, pos, aft, none⟩ :: os) ⟨fr, hp⟩ M Q := by
  refine To_op rfl fun a w S => ?_
  have e1 := S.val h1
  have hb := S.heap hM
  unfold OpR
  have hrun : (execOp a.eval ⟨some d, .range t xm, ty, pos, aft, none⟩).run P w = .ok (.value (.pointer (some ⟨w.heap.size, 0, none⟩))) (w.alloc (.mapIter (some c) clock #[] clock)) := by
    simp [execOp, e1, run_range_map w t kt et c es clock ht hb]
  rw [hrun]
  obtain ⟨hn, S'⟩ := S.alloc (.mapIter (some c) clock #[] clock)
  exact ⟨_, _, S'.put hd (v := .sc _) rep_sc, r _ hn⟩
/-- The next round, of none. -/
theorem To_nextNil {d : Nat} {xi : Operand} {b : Nat} {x y : Nat} {s : Array Nat} (hd : d < N) (h1 : opA fr xi = .sc (.pointer (some ⟨b, 0, none⟩))) (hM : M b = some (.mapIter none x s y))
    (r : To P k N K B all (n + 1) os ⟨setd fr (some d) (.tup [.sc (.bool false)]), hp⟩ M Q) :
    To P k N K B all n (⟨some d, .next xi false, ty, pos, aft, none⟩ :: os) ⟨fr, hp⟩ M Q := by
  refine To_op rfl fun a w S => ?_
  have e1 := S.val h1
  have hb := S.heap hM
  unfold OpR
  have hrun : (execOp a.eval ⟨some d, .next xi false, ty, pos, aft, none⟩).run P w = .ok (.value (.tuple #[.bool false])) w := by
    simp only [execOp, e1]
    simp [Instr.next, getObj, Sem.run_bind, Sem.run, hb, Result.andThen]
  rw [hrun]
  exact ⟨_, _, S.put hd (v := .tup [.sc (.bool false)]) (rep_tup (vs := [.bool false])), r⟩
/-- The next round: over, if none is left; else any one that is left. -/
theorem To_next {d : Nat} {xi : Operand} {b c since c0 : Nat} {seen : Array Nat} {es : Array MapEntry} {clock : Nat} (hd : d < N) (h1 : opA fr xi = .sc (.pointer (some ⟨b, 0, none⟩))) (hM : M b = some (.mapIter (some c) since seen c0))
    (hM2 : M c = some (.map es clock)) (hold : ∀ x ∈ es.toList, x.born < since) (hsc : since ≤ c0)
    (r0 : (leftOf es seen).size = 0 → To P k N K B all (n + 1) os ⟨setd fr (some d) (.tup [.sc (.bool false)]), hp⟩ M Q)
    (r1 : ∀ e ∈ (leftOf es seen).toList, To P k N K B all (n + 1) os ⟨setd fr (some d) (.tup [.sc (.bool true), .sc e.key, .sc e.val]), hp⟩ (mset M b (.mapIter (some c) since (seen.push e.born) clock)) Q) :
    To P k N K B all n (⟨some d, .next xi false, ty, pos, aft, none⟩ :: os) ⟨fr, hp⟩ M Q := by
  refine To_op rfl fun a w S => ?_
  have e1 := S.val h1
  have hb := S.heap hM
  have hb2 := S.heap hM2
  unfold OpR
  rcases run_next_at (P := P) w ty b c since c0 seen es clock hb hb2 hold hsc with ⟨h0, hrun⟩ | ⟨e, he, w1, hal, hrun⟩
  · have hr : (execOp a.eval ⟨some d, .next xi false, ty, pos, aft, none⟩).run P w = .ok (.value (.tuple #[.bool false])) w := by
      simp only [execOp, e1]
      simp [hrun]
    rw [hr]
    exact ⟨_, _, S.put hd (v := .tup [.sc (.bool false)]) (rep_tup (vs := [.bool false])), r0 h0⟩
  · have hr : (execOp a.eval ⟨some d, .next xi false, ty, pos, aft, none⟩).run P w = .ok (.value (.tuple #[.bool true, e.key, e.val])) (setBlock w1 b (.mapIter (some c) since (seen.push e.born) clock)) := by
      simp only [execOp, e1]
      simp [hrun]
    rw [hr]
    have S1 : StM k N K B ⟨fr, hp⟩ M a w1 := by
      rcases hal with rfl | rfl
      · exact S
      · exact S.drew
    exact ⟨_, _, (S1.setBlock hM).put hd (v := .tup [.sc (.bool true), .sc e.key, .sc e.val]) (rep_tup (vs := [.bool true, e.key, e.val])), r1 e he⟩
/-- The round's key and value. -/
theorem To_entry {d : Nat} {xi : Operand} {b c since : Nat} {seen : Array Nat} {es : Array MapEntry} {clock : Nat} {e : MapEntry} (hd : d < N) (h1 : opA fr xi = .sc (.pointer (some ⟨b, 0, none⟩))) (hM : M b = some (.mapIter (some c) since (seen.push e.born) clock))
    (hM2 : M c = some (.map es clock)) (he : e ∈ es.toList) (hn : (es.toList.map (·.born)).Nodup)
    (r : To P k N K B all (n + 1) os ⟨setd fr (some d) (.tup [.sc e.key, .sc e.val]), hp⟩ M Q) :
    To P k N K B all n (⟨some d, .entry xi, ty, pos, aft, none⟩ :: os) ⟨fr, hp⟩ M Q := by
  refine To_op rfl fun a w S => ?_
  have e1 := S.val h1
  have hb := S.heap hM
  have hb2 := S.heap hM2
  unfold OpR
  have hr : (execOp a.eval ⟨some d, .entry xi, ty, pos, aft, none⟩).run P w = .ok (.value (.tuple #[e.key, e.val])) w := by
    simp only [execOp, e1]
    simp [run_entry_at (P := P) w b c since seen es clock e hb hb2 he hn]
  rw [hr]
  exact ⟨_, _, S.put hd (v := .tup [.sc e.key, .sc e.val]) (rep_tup (vs := [e.key, e.val])), r⟩
/-- A call of a function without results, on the caller's heap and maps. -/
theorem To_call {d f : Nat} {args : Array Operand} {tys : Array TypeId} {fn : Func} {c : Code} {Qc : Hp → MM → Prop} (hd : d < N) (hok : okFn P f = true) (hfn : P.funcs[f]? = some fn) (hb : fn.body = some c) (hbo : bodyOk fn = true) (hl : args.size = fn.params.size) (hres : fn.results = #[])
    (body : ∀ N' B', N' = fn.ntmps → T P (k + 1) N' K B' c ⟨frame0 (args.toList.map (opA fr)), hp⟩ M (fun e st' M' => (∀ i, e ≠ .exit i) ∧ Qc st'.hp M'))
    (r : ∀ hp' M', Qc hp' M' → To P k N K B all (n + 1) os ⟨setd fr (some d) (.tup []), hp'⟩ M' Q) :
    To P k N K B all n (⟨some d, .call { callee := .value (.func f), args := args, argTypes := tys }, ty, pos, aft, none⟩ :: os) ⟨fr, hp⟩ M Q := by
  refine To_op rfl fun a w S => ?_
  obtain ⟨I, m, H, E0, hf, hsz, hdf⟩ := S
  unfold OpR
  have hrun : (execOp a.eval ⟨some d, .call { callee := .value (.func f), args := args, argTypes := tys }, ty, pos, aft, none⟩).run P w = .ok (.enter f (args.map a.eval)) w := by
    unfold okFn at hok
    rw [hfn] at hok
    simp only [Bool.and_eq_true, Bool.not_eq_true'] at hok
    have hb : fn.body ≠ none := fun hq => by simp [hq] at hok
    have hnm : fn.name ≠ "runtime.NumGoroutine" := by simpa using hok.2
    simp [execOp, resolve, Act.eval, Deferred.ofValue, invoke, callFunc, hfn, hnm, hb]
  rw [hrun]
  have hall : AllR (Rep k I m hp w) (args.toList.map (opA fr)) (args.toList.map a.eval) := by
    refine ⟨by simp, fun j x u h1 h2 => ?_⟩
    rw [List.getElem?_map] at h1 h2
    cases hj : args.toList[j]? with
    | none => rw [hj] at h1; cases h1
    | some z => rw [hj] at h1 h2; cases h1; cases h2; exact opA_ok hf z
  have harr : (⟨args.toList.map a.eval⟩ : Array Value) = args.map a.eval := by apply Array.ext'; simp
  simp only
  rw [← harr]
  unfold bodyOk at hbo
  rw [hb] at hbo
  simp only [Bool.and_eq_true, decide_eq_true_eq] at hbo
  obtain ⟨⟨⟨hs1, hs2⟩, hs3⟩, hs4⟩ := hbo
  refine calls_of_wp hfn hb ?_
  have S0 : StM (k + 1) fn.ntmps K ⟨I, m, hp, w⟩ ⟨frame0 (args.toList.map (opA fr)), hp⟩ M { tmps := (⟨args.toList.map a.eval⟩ : Array Value) ++ Array.replicate (fn.ntmps - (⟨args.toList.map a.eval⟩ : Array Value).size) undef, defers := [] } w := by
    refine ⟨I, m, H, .refl _ _ _ _ _, fun t => frame_ok (hall.imp fun a u h => Rep.depth (Nat.le_succ k) a u h) t, ?_, rfl⟩
    simp only [Array.size_append, List.size_toArray, Array.size_replicate, List.length_map, Array.length_toList]
    omega
  refine Code.wp_mono (fun ex a' w' hh => ?_) (body fn.ntmps ⟨I, m, hp, w⟩ rfl _ w S0)
  obtain ⟨e, st', M', rfl, S', hne, hq⟩ := hh
  have hfin : a'.defers = [] ∧ ∃ v, (results fn a'.tmps).run P w' = .ok v w' ∧ ∃ u, Ending.returned v = .returned u ∧ ∃ st' M', StM k N K B st' M' (a.put (some d) u) w' ∧ To P k N K B all (n + 1) os st' M' Q := by
    obtain ⟨I', m', H', E', _, _, hd'⟩ := S'
    refine ⟨hd', _, run_results fn a'.tmps [] (by rw [hres]; rfl), _, rfl, ⟨setd fr (some d) (.tup []), st'.hp⟩, M', ?_, r _ _ hq⟩
    refine ⟨I', m', H', E0.trans E', setd_ok (d := some d) (fun t => Rep.mono E' _ _ _ (hf t)) (rep_tup (vs := []) _ _ _ _ _) (fun x hx => by rw [hsz]; exact Option.some.inj hx ▸ hd), by rw [put_size]; exact hsz, by rw [put_defers]; exact hdf⟩
  cases e with
  | normal => exact hfin
  | exit i => exact (hne i rfl).elim
  | ret => exact hfin
end
end Go.Ab
