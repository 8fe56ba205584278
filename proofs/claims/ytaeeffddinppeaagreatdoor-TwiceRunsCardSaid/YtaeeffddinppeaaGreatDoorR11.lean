/- A part of the proof: Lo. -/
import Derived.Test.YtaeeffddinppeaaGreatDoorR09
import Derived.Test.YtaeeffddinppeaaGreatDoorR07
import Derived.Test.YtaeeffddinppeaaGreatDoorR10
set_option linter.unusedSimpArgs false
set_option linter.unusedVariables false
namespace Go.Proofs.YtaeeffddinppeaaGreatDoor
open Go Go.Ab Go.Ma
abbrev iv (n : Int) : AV := .sc (.int .i64 n)
abbrev bv (b : Bool) : AV := .sc (.bool b)
abbrev uv (n : Int) : AV := .sc (.int .u32 n)
abbrev rowW (l : List Int) : List (List AV) := l.map fun x => [uv x]
abbrev rowB (l : List Int) : List (List AV) := l.map fun x => [.sc (.int .u8 x)]
def toBytes (l : List Int) : List UInt8 := l.map fun x => UInt8.ofNat x.toNat
theorem bytes_rowB : ∀ l : List Int, bytesOfRows (rowB l) = some (toBytes l)
  | [] => rfl
  | x :: l => by
    show (bytesOfRows (rowB l)).map (UInt8.ofNat x.toNat :: ·) = _
    rw [bytes_rowB l]; rfl
def E00 : Cfg := ⟨fun _ => false, fun f => f == 211 || f == 212 || f == 213 || f == 285 || f == 286 || f == 287 || f == 363 || f == 399 || f == 400 || f == 401, fun _ => false⟩
@[simp] theorem E00_hp (f : Nat) : E00.hp f = (f == 211 || f == 212 || f == 213 || f == 285 || f == 286 || f == 287 || f == 363 || f == 399 || f == 400 || f == 401) := rfl
@[simp] theorem E00_eq (f : Nat) : E00.eq f = false := rfl
@[simp] theorem E00_yl (f : Nat) : E00.yl f = false := rfl
def E0y (l : Nat) : Cfg := ⟨E00.eq, E00.hp, fun l' => l' == l⟩
@[simp] theorem E0y_hp (l f : Nat) : (E0y l).hp f = (f == 211 || f == 212 || f == 213 || f == 285 || f == 286 || f == 287 || f == 363 || f == 399 || f == 400 || f == 401) := rfl
@[simp] theorem E0y_eq (l f : Nat) : (E0y l).eq f = false := rfl
@[simp] theorem E0y_yl (l l' : Nat) : (E0y l).yl l' = (l' == l) := rfl
def X00 : Orc := ⟨fun _ _ => none, fun _ _ _ _ _ => none⟩
@[simp] theorem wrap_1 : IntKind.i64.wrap 1 = 1 := by decide +kernel
@[simp] theorem wrap_2 : IntKind.i64.wrap 2 = 2 := by decide +kernel
@[simp] theorem wrap_0 : IntKind.i64.wrap 0 = 0 := by decide +kernel
theorem wrapN {k : Nat} (h : k < 9223372036854775807) : IntKind.i64.wrap ((k : Int) + 1) = (k : Int) + 1 := wrap64 (by omega) (by omega)
theorem and_form (x y : Int) : andW x y = (((x % 4294967296).toNat &&& (y % 4294967296).toNat : Nat) : Int) := by unfold andW; simp [BitVec.toNat_ofInt]
theorem or_form (x y : Int) : orW x y = (((x % 4294967296).toNat ||| (y % 4294967296).toNat : Nat) : Int) := by unfold orW; simp [BitVec.toNat_ofInt]
theorem take1 {α : Type} (l : List α) (k : Nat) : (l.drop k).take 1 = (l[k]?).toList := by
  rw [List.take_one, List.head?_drop]
def bxP (code : List Int) (inp : ByteArray) (pc : Int) (rg : List Int) (M : AV) (rd steps en : Int) (o : Bool) (go no : Nat) : List AV :=
  .sl false 1 (rowW code) :: .sc (.string inp) :: iv pc :: (rg.map uv ++ [M, iv rd, .sc (.string ⟨#[]⟩), iv steps, iv en, bv o, .own ⟨0, 13, 26⟩ go no])
section
variable {code : List Int} {inp : ByteArray} {pc : Int} {rg : List Int} {M : AV} {rd steps en : Int} {o : Bool} {go no : Nat}
theorem reg16 (h : rg.length = 16) : ∃ x0 x1 x2 x3 x4 x5 x6 x7 x8 x9 x10 x11 x12 x13 x14 x15, rg = [x0, x1, x2, x3, x4, x5, x6, x7, x8, x9, x10, x11, x12, x13, x14, x15] := by
  match rg, h with
  | [x0, x1, x2, x3, x4, x5, x6, x7, x8, x9, x10, x11, x12, x13, x14, x15], _ => exact ⟨_, _, _, _, _, _, _, _, _, _, _, _, _, _, _, _, rfl⟩
theorem bx_len (h : rg.length = 16) : (bxP code inp pc rg M rd steps en o go no).length = 26 := by simp [bxP, h]
theorem bx_0 : (bxP code inp pc rg M rd steps en o go no)[0]? = some (.sl false 1 (rowW code)) := rfl
theorem bx_1 : (bxP code inp pc rg M rd steps en o go no)[1]? = some (.sc (.string inp)) := rfl
theorem bx_2 : (bxP code inp pc rg M rd steps en o go no)[2]? = some (iv pc) := rfl
theorem bx_19 (h : rg.length = 16) : (bxP code inp pc rg M rd steps en o go no)[19]? = some M := by obtain ⟨_, _, _, _, _, _, _, _, _, _, _, _, _, _, _, _, rfl⟩ := reg16 h; rfl
theorem bx_20 (h : rg.length = 16) : (bxP code inp pc rg M rd steps en o go no)[20]? = some (iv rd) := by obtain ⟨_, _, _, _, _, _, _, _, _, _, _, _, _, _, _, _, rfl⟩ := reg16 h; rfl
theorem bx_21 (h : rg.length = 16) : (bxP code inp pc rg M rd steps en o go no)[21]? = some (.sc (.string ⟨#[]⟩)) := by obtain ⟨_, _, _, _, _, _, _, _, _, _, _, _, _, _, _, _, rfl⟩ := reg16 h; rfl
theorem bx_22 (h : rg.length = 16) : (bxP code inp pc rg M rd steps en o go no)[22]? = some (iv steps) := by obtain ⟨_, _, _, _, _, _, _, _, _, _, _, _, _, _, _, _, rfl⟩ := reg16 h; rfl
theorem bx_23 (h : rg.length = 16) : (bxP code inp pc rg M rd steps en o go no)[23]? = some (iv en) := by obtain ⟨_, _, _, _, _, _, _, _, _, _, _, _, _, _, _, _, rfl⟩ := reg16 h; rfl
theorem bx_24 (h : rg.length = 16) : (bxP code inp pc rg M rd steps en o go no)[24]? = some (bv o) := by obtain ⟨_, _, _, _, _, _, _, _, _, _, _, _, _, _, _, _, rfl⟩ := reg16 h; rfl
theorem bx_25 (h : rg.length = 16) : (bxP code inp pc rg M rd steps en o go no)[25]? = some (.own ⟨0, 13, 26⟩ go no) := by obtain ⟨_, _, _, _, _, _, _, _, _, _, _, _, _, _, _, _, rfl⟩ := reg16 h; rfl
theorem bx_reg {a : Nat} (h : rg.length = 16) (ha : a < 16) : (bxP code inp pc rg M rd steps en o go no)[3 + a]? = (rg[a]?).map uv := by
  unfold bxP
  rw [show 3 + a = a + 1 + 1 + 1 from by omega, List.getElem?_cons_succ, List.getElem?_cons_succ, List.getElem?_cons_succ, List.getElem?_append_left (by simpa [h] using ha), List.getElem?_map]
theorem bs_2 (x : Int) : (bxP code inp pc rg M rd steps en o go no).set 2 (iv x) = bxP code inp x rg M rd steps en o go no := rfl
theorem bs_19 (h : rg.length = 16) (x : AV) : (bxP code inp pc rg M rd steps en o go no).set 19 x = bxP code inp pc rg x rd steps en o go no := by obtain ⟨_, _, _, _, _, _, _, _, _, _, _, _, _, _, _, _, rfl⟩ := reg16 h; rfl
theorem bs_20 (h : rg.length = 16) (x : Int) : (bxP code inp pc rg M rd steps en o go no).set 20 (iv x) = bxP code inp pc rg M x steps en o go no := by obtain ⟨_, _, _, _, _, _, _, _, _, _, _, _, _, _, _, _, rfl⟩ := reg16 h; rfl
theorem bs_22 (h : rg.length = 16) (x : Int) : (bxP code inp pc rg M rd steps en o go no).set 22 (iv x) = bxP code inp pc rg M rd x en o go no := by obtain ⟨_, _, _, _, _, _, _, _, _, _, _, _, _, _, _, _, rfl⟩ := reg16 h; rfl
theorem bs_23 (h : rg.length = 16) (x : Int) : (bxP code inp pc rg M rd steps en o go no).set 23 (iv x) = bxP code inp pc rg M rd steps x o go no := by obtain ⟨_, _, _, _, _, _, _, _, _, _, _, _, _, _, _, _, rfl⟩ := reg16 h; rfl
theorem bs_24 (h : rg.length = 16) (x : Bool) : (bxP code inp pc rg M rd steps en o go no).set 24 (bv x) = bxP code inp pc rg M rd steps en x go no := by obtain ⟨_, _, _, _, _, _, _, _, _, _, _, _, _, _, _, _, rfl⟩ := reg16 h; rfl
theorem bs_25 (h : rg.length = 16) (g n : Nat) : (bxP code inp pc rg M rd steps en o go no).set 25 (.own ⟨0, 13, 26⟩ g n) = bxP code inp pc rg M rd steps en o g n := by obtain ⟨_, _, _, _, _, _, _, _, _, _, _, _, _, _, _, _, rfl⟩ := reg16 h; rfl
theorem bs_reg {a : Nat} (h : rg.length = 16) (ha : a < 16) (x : Int) : (bxP code inp pc rg M rd steps en o go no).set (3 + a) (uv x) = bxP code inp pc (rg.set a x) M rd steps en o go no := by
  unfold bxP
  rw [show 3 + a = a + 1 + 1 + 1 from by omega, List.set_cons_succ, List.set_cons_succ, List.set_cons_succ, List.set_append_left _ _ (by simpa [h] using ha), List.map_set]
end
def memA (o : Bool) (gm : Nat) (mem : List Int) : AV := if o then .own ⟨0, 13, 20⟩ gm mem.length else .sl false 1 (rowW mem)
structure Mst (code : List Int) (inp : ByteArray) (s : PS) (go gm : Nat) (hp : Hp) : Prop where
  bx : hp ⟨0, 13, 0⟩ = .box 1 (bxP code inp s.pc s.rg (memA s.own gm s.mem) s.rd s.steps s.en s.own go s.out.length) false
  out : hp ⟨0, 13, 26⟩ = .arr go 1 5 (rowB s.out) false
  mem : s.own = true → hp ⟨0, 13, 20⟩ = .arr gm 1 32 (rowW s.mem) false
def inpF (s : ByteArray) : Inp := fun k => (s.data[k]?).map fun b => (b.toNat : Int)
end Go.Proofs.YtaeeffddinppeaaGreatDoor
