/- A part of the proof: Sl. -/
import Derived.Test.YtaeeffddinppeaaGreatDoorR04
import Derived.Test.YtaeeffddinppeaaGreatDoorR05
import Derived.Test.YtaeeffddinppeaaGreatDoorR19
import Derived.Test.YtaeeffddinppeaaGreatDoorCards
import Derived.Test.YtaeeffddinppeaaGreatDoorTie
import Derived.OpenShut
import Derived.Deep.DeepHandedRow
import Derived.Lib.LaidTab
set_option linter.unusedSimpArgs false
set_option linter.unusedVariables false
namespace Go.Proofs.YtaeeffddinppeaaGreatDoor
open Go Go.Ab Go.ChangeShapes Go.WideShapes Go.ChangeAt Go.RowKit
theorem own47 : ownKnob Tryz.prog.godebug = none := by kernel_rfl
theorem laidOut47 : laidOutB Tryz.prog = true := by kernel_rfl
theorem rowed47 : mapsRowed Tryz.prog = true := by kernel_rfl
theorem heard47 : Tryz.prog.stopsHeard = true := by kernel_rfl
theorem enter47 : Tryz.prog.mayEnter = true := by kernel_rfl
theorem looks47 : true = Tryz.prog.looks [] := by kernel_rfl
theorem noGo47 : Tryz.prog.funcs.any Func.goes = false := by kernel_rfl
theorem goes_of {P : Program} (h : P.funcs.any Func.goes = false) (f : FuncId) : P.goes f = false := by
  unfold Program.goes
  rw [h, Bool.and_false, Bool.or_false, List.any_eq_false]
  intro g _ hg
  cases hf : P.funcs[g]? with
  | none => rw [hf] at hg; cases hg
  | some fn =>
    rw [hf] at hg
    rw [Array.any_eq_false'] at h
    exact h fn (Array.mem_of_getElem? hf) hg
theorem goesBy_of {P : Program} (h : P.funcs.any Func.goes = false) {c : OpenClaim} (hs : c.start = .entering) : false = c.goesBy P := by
  unfold OpenClaim.goesBy Program.goesAt Program.goesFrom
  rw [hs]
  cases hf : P.funcNamed c.func with
  | none => rfl
  | some f => show false = (P.goes f || false); rw [goes_of h f]; rfl
theorem mixed47 : Tryz.prog.follows .mixedOrders = true := by kernel_rfl
theorem E47_law : EqLaw Tryz.prog E47.eq := by
  intro t ht w x y us vs b h1 h2 h
  simp only [E47, Bool.or_eq_true, beq_iff_eq] at ht
  rcases ht with (rfl | rfl) | rfl
  · exact array_law (by kernel_rfl) (by kernel_rfl) (by kernel_rfl) w x y us vs b h1 h2 h
  · exact struct_law (by kernel_rfl) (by kernel_rfl) (by kernel_rfl) (by kernel_rfl) (by kernel_rfl) w x y us vs b h1 h2 h
  · exact struct_law (by kernel_rfl) (by kernel_rfl) (by kernel_rfl) (by kernel_rfl) (by kernel_rfl) w x y us vs b h1 h2 h
theorem L47_ok : DatOk Tryz.prog (lim Tryz.prog E47 X47) := (lim_ok mixed47 ⟨E47_law, fun _ => rfl⟩ X47_ok).1
theorem laidVars_mem {P : Program} {w : World} : ∀ {l : List (String × DataW Unit)} {ps : List MemPlace}, DataW.LaidVars P w l ps → ∀ {n : String} {d : DataW Unit}, (n, d) ∈ l →
    ∃ g t cs fuel p, P.globalNamed n = some g ∧ (P.globals[g]?).map (·.type) = some t ∧ w.var? P n = some cs ∧ DataW.trod (fun _ => ()) P w 0 (fun _ => true) false fuel t cs.toList = some (d, p)
  | [], _, _, _, _, h => by cases h
  | (n', d') :: r, ps, h, n, d, hm => by
    obtain ⟨g, t, cs, fuel, p, q, h1, h2, h3, h4, h5, _⟩ := h
    rcases List.mem_cons.1 hm with e | e
    · cases e
      exact ⟨g, t, cs, fuel, p, h1, h2, h3, h4⟩
    · exact laidVars_mem h5 e
theorem tabIs_of_mem {P : Program} {W : World} {name : String} {k : IntKind} {zs : List Int} {l : List (String × DataW Unit)} {g : Nat} {t e : TypeId} {n : Nat}
    (hg : P.globalNamed name = some g) (hty : (P.globals[g]?).map (·.type) = some t) (ht : P.underlying t = some (.array n e)) (he : P.underlying e = some (.int k)) (hce : P.cellsOf e = 1) (hct : P.cellsOf t = n)
    (h : laidMet P l W) (hm : (name, Lib.tabData k zs) ∈ l) : Lib.TabIs P W name k zs := by
  obtain ⟨ps, h1, _⟩ := h
  obtain ⟨g', t', cs, fuel, p, hg', ht', hvar, hd⟩ := laidVars_mem h1 hm
  obtain rfl := Option.some.inj (hg.symm.trans hg')
  obtain rfl := Option.some.inj (hty.symm.trans ht')
  unfold Lib.TabIs
  rw [hvar, ← Lib.cells_of_tab ht he hce hct hd]
theorem tab_at {P : Program} {W : World} {name : String} {k : IntKind} {zs : List Int} {g : Nat} (h : Lib.TabIs P W name k zs) (hg : P.globalNamed name = some g) (j : Nat) (v : Value) (hj : (zs.map fun z => Value.int k z)[j]? = some v) : W.cell? ⟨g, j, none⟩ = some v := by
  rw [List.getElem?_map, Option.map_eq_some_iff] at hj
  obtain ⟨z, hz, rfl⟩ := hj
  have hl : j < zs.length := (List.getElem?_eq_some_iff.1 hz).1
  have := h.cell hg j hl
  rw [this, List.getD_eq_getElem?_getD, hz]
  rfl
theorem tab_size {P : Program} {W : World} {name : String} {k : IntKind} {zs : List Int} {g : Nat} (h : Lib.TabIs P W name k zs) (hg : P.globalNamed name = some g) {cs : Array Value} {t : TypeId} {mk : Nat × Nat} (hc : W.heap[g]? = some (.cells cs t mk)) : cs.size = (zs.map fun z => Value.int k z).length := by
  unfold Lib.TabIs World.var? at h
  rw [hg] at h
  simp only [Option.bind_some, hc, Option.some.injEq] at h
  rw [h]; simp
theorem gPlaces : Tryz.prog.globalNamed "seedcorn/digest.places" = some 0 := by kernel_rfl
theorem gPow : Tryz.prog.globalNamed "internal/strconv.uint64pow10" = some 1 := by kernel_rfl
abbrev pows : List Int := [1, 10, 100, 1000, 10000, 100000, 1000000, 10000000, 100000000, 1000000000, 10000000000, 100000000000, 1000000000000, 10000000000000, 100000000000000, 1000000000000000, 10000000000000000, 100000000000000000, 1000000000000000000, 10000000000000000000]
theorem gl_of {W : World} {l : List (String × DataW Unit)} (h : laidMet Tryz.prog l W) (h1 : ("seedcorn/digest.places", Lib.tabData .i64 [7, 9, 13, 18]) ∈ l) (h2 : ("internal/strconv.uint64pow10", Lib.tabData .u64 pows) ∈ l) : GlOk (There W) W := by
  have t1 := tabIs_of_mem (t := 182) (e := 3) (n := 4) gPlaces (by kernel_rfl) (by kernel_rfl) (by kernel_rfl) (by kernel_rfl) (by kernel_rfl) h h1
  have t2 := tabIs_of_mem (t := 361) (e := 93) (n := 20) gPow (by kernel_rfl) (by kernel_rfl) (by kernel_rfl) (by kernel_rfl) (by kernel_rfl) h h2
  intro g vs hg
  unfold globT at hg
  split at hg
  · cases hg
    exact ⟨(spot_none (tab_at t1 gPlaces 0 (.int .i64 7) rfl)).2, fun j v hj => by rw [Nat.zero_add]; exact tab_at t1 gPlaces j v hj, fun cs t mk hc => tab_size t1 gPlaces hc⟩
  · cases hg
    exact ⟨(spot_none (tab_at t2 gPow 0 (.int .u64 1) rfl)).2, fun j v hj => by rw [Nat.zero_add]; exact tab_at t2 gPow j v hj, fun cs t mk hc => tab_size t2 gPow hc⟩
  · cases hg
def laidVals : DataW Unit → Array Value
  | .agg ds => (ds.map fun d => match d with
    | .lit (.int k n) => Value.int k n
    | .lit (.string bs) => .string ⟨⟨bs⟩⟩
    | _ => .bool false).toArray
  | _ => #[]
def laidObj (d : DataW Unit) : Obj → Obj
  | .cells _ t frozen => .cells (laidVals d) t frozen
  | o => o
noncomputable def laidWorld (os : Os) : World :=
  { World.holding Tryz.prog os ⟨#[], #[], []⟩ with heap := (((((((World.holding Tryz.prog os ⟨#[], #[], []⟩).heap.modify 4 (laidObj Rows.laid_math_bits_deBruijn32tab)).modify 5 (laidObj Rows.laid_math_bits_deBruijn64tab)).modify 1 (laidObj Rows.laid_internal_strconv_uint64pow10)).modify 0 (laidObj Rows.laid_seedcorn_digest_places)).modify 3 (laidObj Rows.laid_seedcorn_token_words)).modify 2 (laidObj Rows.laid_seedcorn_token_signs)) }
theorem rd9 : Tryz.prog.readableRec 9 = true := by kernel_rfl
theorem lt9 : 9 < Tryz.prog.types.size := of_decide_eq_true (by kernel_rfl)
theorem want9 : Tryz.prog.wantsStandIn 9 = false := by kernel_rfl
end Go.Proofs.YtaeeffddinppeaaGreatDoor
