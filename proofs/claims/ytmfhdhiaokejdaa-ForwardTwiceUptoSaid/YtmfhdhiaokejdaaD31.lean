/- Law 31: the data as Lean has them, and what the functions compute of them: definitions. -/
import Derived.Test.YtmfhdhiaokejdaaAb23
namespace Go.Proofs.Ytmfhdhiaokejdaa
open Go Go.Ab
set_option linter.unusedSimpArgs false
set_option linter.unusedVariables false
abbrev iv (n : Int) : AV := .sc (.int .i64 n)
abbrev bv (n : Bool) : AV := .sc (.bool n)
structure Tac where
  (op d a b k base size n : Int)
deriving DecidableEq
structure Blk where
  (ins : List Tac)
  (en v to el : Int)
deriving DecidableEq
structure Fn where
  (regs : Int)
  (blocks : List Blk)
deriving DecidableEq
@[simp] def Tac.row (t : Tac) : List AV := [iv t.op, iv t.d, iv t.a, iv t.b, iv t.k, iv t.base, iv t.size, .sc (.int .u32 t.n)]
@[simp] def Blk.row (b : Blk) : List AV := [.sl false 8 (b.ins.map Tac.row), iv b.en, iv b.v, iv b.to, iv b.el]
@[simp] def Fn.row (f : Fn) : List AV := [iv f.regs, .sl false 5 (f.blocks.map Blk.row)]
def big : Nat := 4398046511104
structure Blk.fits (b : Blk) : Prop where
  len : b.ins.length ≤ big
structure Fn.fits (f : Fn) : Prop where
  len : f.blocks.length ≤ big
  ins : ∀ b ∈ f.blocks, b.fits

def setsB (n : Int) : Bool := n == 1 || n == 2 || n == 3 || n == 4 || n == 6 || n == 8
def setsZ (op d : Int) : Int := if setsB op then d else -1
def withinB (i n : Int) : Bool := decide (0 ≤ i) && decide (i < n)
def usesL (op a b : Int) : List Int := if op = 2 ∨ op = 5 ∨ op = 6 ∨ op = 9 then [a] else if op = 3 ∨ op = 7 then [a, b] else []
def endsB (en v to el blocks regs : Int) : Bool := if en = 1 then withinB to blocks && v == 0 && el == 0 else if en = 2 then withinB to blocks && withinB el blocks && withinB v regs else en == 3 && v == 0 && to == 0 && el == 0
def okUse (op a b regs : Int) : Bool := (usesL op a b).all fun x => withinB x regs
/-- What an instruction has; all else is 0. -/
def bare (op d a b k base size n : Int) : Bool := (setsB op || d == 0) && (op == 2 || op == 3 || op == 5 || op == 6 || op == 7 || op == 9 || a == 0) && (op == 3 || op == 7 || b == 0) && (op == 3 || k == 0) &&
  (op == 4 || op == 5 || op == 6 || op == 7 || op == 10 || base == 0) && (op == 6 || op == 7 || size == 0) && (op == 1 || n == 0)
def fitsB (op d a b k base size n number regs words : Int) : Bool := decide (1 ≤ op) && decide (op ≤ 10) && (!setsB op || withinB d regs) && okUse op a b regs && (!(op == 3) || (decide (4 ≤ k) && decide (k ≤ 15))) &&
  (!(op == 4 || op == 5) || withinB base words) && (!(op == 6 || op == 7) || (decide (1 ≤ size) && decide (size ≤ 4096) && decide (0 ≤ base) && decide (base ≤ words - size))) && (!(op == 10) || withinB base number) && bare op d a b k base size n
/-- So far all are so. -/
def AllTo {α : Type} (p : α → Bool) (l : List α) (k : Nat) : Prop := ∀ j x, j < k → l[j]? = some x → p x = true
theorem AllTo.zero {α : Type} {p : α → Bool} {l : List α} : AllTo p l 0 := fun j x h => by omega
theorem AllTo.succ {α : Type} {p : α → Bool} {l : List α} {k : Nat} {x : α} (h : AllTo p l k) (hg : l[k]? = some x) (hx : p x = true) : AllTo p l (k + 1) := fun j y hj hy => by
  by_cases e : j = k
  · subst e; rw [hg] at hy; cases hy; exact hx
  · exact h j y (by omega) hy
theorem AllTo.all {α : Type} {p : α → Bool} {l : List α} (h : AllTo p l l.length) : l.all p = true := by
  rw [List.all_eq_true]
  intro x hx
  obtain ⟨j, hj, rfl⟩ := List.getElem_of_mem hx
  exact h j _ hj (List.getElem?_eq_getElem hj)
theorem not_all {α : Type} {p : α → Bool} {l : List α} {k : Nat} {x : α} (hg : l[k]? = some x) (hx : p x = false) : l.all p = false := by
  rw [List.all_eq_false]
  exact ⟨x, List.mem_of_getElem? hg, by simp [hx]⟩
/-- So far both are alike. -/
def EqTo {α : Type} (l l' : List α) (k : Nat) : Prop := ∀ j, j < k → l[j]? = l'[j]?
theorem EqTo.zero {α : Type} {l l' : List α} : EqTo l l' 0 := fun j h => by omega
theorem EqTo.succ {α : Type} {l l' : List α} {k : Nat} (h : EqTo l l' k) (hx : l[k]? = l'[k]?) : EqTo l l' (k + 1) := fun j hj => by
  by_cases e : j = k
  · subst e; exact hx
  · exact h j (by omega)
theorem EqTo.eq {α : Type} {l l' : List α} (h : EqTo l l' l.length) (hl : l.length = l'.length) : l = l' := by
  apply List.ext_getElem? 
  intro j
  by_cases hj : j < l.length
  · exact h j hj
  · rw [List.getElem?_eq_none (by omega), List.getElem?_eq_none (by omega)]
theorem Tac.beq (t u : Tac) : (t.op == u.op && (t.d == u.d && (t.a == u.a && (t.b == u.b && (t.k == u.k && (t.base == u.base && (t.size == u.size && t.n == u.n))))))) = decide (t = u) := by
  cases t; cases u
  rw [Bool.eq_iff_iff]
  simp
theorem Blk.ext' {a b : Blk} (h1 : a.ins = b.ins) (h2 : a.en = b.en) (h3 : a.v = b.v) (h4 : a.to = b.to) (h5 : a.el = b.el) : a = b := by cases a; cases b; simp_all
theorem Fn.ext' {a b : Fn} (h1 : a.regs = b.regs) (h2 : a.blocks = b.blocks) : a = b := by cases a; cases b; simp_all
def Tac.fitsB (t : Tac) (number regs words : Int) : Bool := Go.Proofs.Ytmfhdhiaokejdaa.fitsB t.op t.d t.a t.b t.k t.base t.size t.n number regs words
def okBlk (blocks regs number words : Int) (b : Blk) : Bool := endsB b.en b.v b.to b.el blocks regs && b.ins.all fun t => t.fitsB number regs words
def oneB (f : Fn) (number words : Int) : Bool := decide (0 ≤ f.regs) && decide (f.regs ≤ 4000) && decide (0 < f.blocks.length) && f.blocks.all (okBlk f.blocks.length f.regs number words)
abbrev certRow (same : List (List Bool)) : List AV := [.sl false 1 (same.map fun l => [.sl false 1 (l.map fun x => [bv x])])]
def fullB (same : List (List Bool)) (blocks regs : Int) : Bool := (same.length : Int) == blocks && same.all fun l => (l.length : Int) == regs && l.all fun x => x
def Tac.sets (t : Tac) : Int := setsZ t.op t.d
def Tac.uses (t : Tac) : List Int := usesL t.op t.a t.b
/-- Nothing from lo to below hi sets x. -/
def noSet (ins : List Tac) (x : Int) (lo hi : Nat) : Bool := ((ins.take hi).drop lo).all fun t => t.sets != x
/-- Is v a copy of another one ahead of the instruction at, as far as those below i say? -/
def copyFrom (ins : List Tac) (v : Int) (hi : Nat) : Nat → Bool
  | 0 => false
  | i + 1 => match ins[i]? with
    | none => false
    | some t => if t.sets = v then (if t.op = 2 ∧ t.a ≠ v then noSet ins t.a (i + 1) hi else false) else copyFrom ins v hi i
def copyB (b : Blk) (hi : Nat) (v : Int) : Bool := copyFrom b.ins v hi hi
def readsAt (b : Blk) (i : Nat) : List Int := match b.ins[i]? with
  | some t => t.uses
  | none => if b.en = 2 then [b.v] else []
def doneB (b : Blk) : Bool := (List.range (b.ins.length + 1)).all fun i => (readsAt b i).all fun r => !copyB b i r
def accN (bs : List Blk) (k : Nat) : Nat := ((bs.map (·.ins.length)).take k).sum
theorem accN_succ {bs : List Blk} {k : Nat} {b : Blk} (h : bs[k]? = some b) : accN bs (k + 1) = accN bs k + b.ins.length := by simp [accN, List.take_add_one, h]
@[simp] theorem accN_zero {bs : List Blk} : accN bs 0 = 0 := by simp [accN]
theorem accN_mono (bs : List Blk) {j k : Nat} (h : j ≤ k) : accN bs j ≤ accN bs k := by
  induction k with
  | zero => obtain rfl : j = 0 := by omega
            exact Nat.le_refl _
  | succ k ih =>
    by_cases e : j = k + 1
    · subst e; exact Nat.le_refl _
    · refine Nat.le_trans (ih (by omega)) ?_
      simp [accN, List.take_add_one]
theorem accN_le (bs : List Blk) (k : Nat) : accN bs k ≤ accN bs bs.length := by
  by_cases h : k ≤ bs.length
  · exact accN_mono bs h
  · unfold accN; rw [List.take_of_length_le (by simp; omega), List.take_of_length_le (by simp)]; exact Nat.le_refl _
def sizeN (f : Fn) : Nat := f.blocks.length + accN f.blocks f.blocks.length
def smallB (f : Fn) : Bool := decide (f.blocks.length ≤ 12) && decide (f.regs ≤ 20) && decide (sizeN f ≤ 120) && oneB f 64 2000
theorem accN_big (bs : List Blk) (h : ∀ b ∈ bs, b.ins.length ≤ big) : ∀ k, k ≤ bs.length → accN bs k ≤ k * big
  | 0, _ => by simp
  | k + 1, hk => by
    have hg : bs[k]? = some bs[k] := List.getElem?_eq_getElem (by omega)
    rw [accN_succ hg, Nat.succ_mul]
    have := accN_big bs h k (by omega)
    have := h bs[k] (List.getElem_mem _)
    omega
theorem sizeN_big {f : Fn} (h : f.fits) (hl : f.blocks.length ≤ 12) : sizeN f ≤ 12 + 12 * big := by
  have := accN_big f.blocks (fun b hb => (h.ins b hb).len) f.blocks.length (Nat.le_refl _)
  have h2 : f.blocks.length * big ≤ 12 * big := Nat.mul_le_mul_right _ hl
  unfold sizeN
  omega
end Go.Proofs.Ytmfhdhiaokejdaa
