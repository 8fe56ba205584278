/- What an operation makes of abstract values: a small program over the abstract heap; the same for regions and code. No program is named here. -/
import Derived.Test.YtmfhdhiaokejdaaAb1
namespace Go.Ab
open Go
set_option linter.unusedSimpArgs false
set_option linter.unusedVariables false

/-- What of an object is no cell and no row. -/
inductive Head where
  | no
  | box (g n : Nat) (fz : Bool)
  | arr (g sz : Nat) (e : TypeId) (n : Nat) (fz : Bool)
def AObj.head : AObj → Head
  | .no _ => .no
  | .box g cells fz => .box g cells.length fz
  | .arr g sz e rows fz => .arr g sz e rows.length fz

/-- A program over the abstract heap. -/
inductive Prog (α : Type) where
  | ret (a : α)
  | get (x : Nm) (k : AObj → Prog α)
  | put (x : Nm) (o : AObj) (k : Prog α)
  | hdr (x : Nm) (k : Head → Prog α)
  | getC (x : Nm) (off : Nat) (k : AV → Prog α)
  | putC (x : Nm) (off : Nat) (v : AV) (k : Prog α)
  | ext (g : Hp → Option (AV × Hp)) (k : AV → Prog α)
  | fail

def cellOf : AObj → Nat → Option AV
  | .box _ cells _, off => cells[off]?
  | _, _ => none
def setCellOf : AObj → Nat → AV → Option AObj
  | .box g cells fz, off, v => if off < cells.length then some (.box g (cells.set off v) fz) else none
  | _, _, _ => none

namespace Prog
def bind {α β : Type} : Prog α → (α → Prog β) → Prog β
  | .ret a, f => f a
  | .get x k, f => .get x fun o => (k o).bind f
  | .put x o k, f => .put x o (k.bind f)
  | .hdr x k, f => .hdr x fun o => (k o).bind f
  | .getC x off k, f => .getC x off fun v => (k v).bind f
  | .putC x off v k, f => .putC x off v (k.bind f)
  | .ext g k, f => .ext g fun v => (k v).bind f
  | .fail, _ => .fail
def run {α : Type} : Prog α → Hp → Option (α × Hp)
  | .ret a, hp => some (a, hp)
  | .get x k, hp => (k (hp x)).run hp
  | .put x o k, hp => k.run (upd hp x o)
  | .hdr x k, hp => (k (hp x).head).run hp
  | .getC x off k, hp => match cellOf (hp x) off with
    | some v => (k v).run hp
    | none => none
  | .putC x off v k, hp => match setCellOf (hp x) off v with
    | some o => k.run (upd hp x o)
    | none => none
  | .ext g k, hp => match g hp with
    | some (v, hp') => (k v).run hp'
    | none => none
  | .fail, _ => none
end Prog

/-! ### types -/
def slel (P : Program) (t : TypeId) : Option TypeId := match P.underlying t with | some (.slice e) => some e | _ => none
def isAggB (P : Program) (t : TypeId) : Bool := match P.underlying t with | some (.struct _) => true | some (.array _ _) => true | _ => false
def tOk (P : Program) (t : TypeId) : Bool := (P.info? t).isSome && (P.underlying t).isSome
/-- A struct's fields: offset, cells, type. -/
def flds (P : Program) (t : TypeId) : List (Nat × Nat × TypeId) := match P.underlying t with
  | some (.struct fs) => fs.toList.map fun f => (f.offset, P.cellsOf f.type, f.type)
  | _ => []
def arrOf (P : Program) (t : TypeId) : Option (Nat × TypeId) := match P.underlying t with | some (.array n e) => some (n, e) | _ => none
def strB (P : Program) (t : TypeId) : Bool := match P.underlying t with | some .string => true | _ => false
def bolB (P : Program) (t : TypeId) : Bool := match P.underlying t with | some .bool => true | _ => false
def intK (P : Program) (t : TypeId) : Option IntKind := match P.underlying t with | some (.int k) => some k | _ => none
def zeros (P : Program) (t : TypeId) : Option (List Value) := ((P.info? t).bind (·.zero)).map (·.cells.toList)
/-- May it be built of parts? -/
def bldOk (P : Program) (t : TypeId) : Bool := (zeros P t).isSome && match P.underlying t with
  | some (.struct fs) => fs.toList.all fun f => (P.info? f.type).isSome
  | some (.array _ e) => (P.info? e).isSome
  | _ => false
/-- The types of a type's cells. -/
def tcsN (P : Program) : Nat → TypeId → List TypeId
  | 0, _ => []
  | n + 1, t => match P.underlying t with
    | some (.struct fs) => fs.toList.flatMap fun f => tcsN P n f.type
    | some (.array k e) => (List.replicate k (tcsN P n e)).flatten
    | _ => [t]
def tcs (P : Program) (t : TypeId) : List TypeId := tcsN P 8 t
/-- A zero cell as data: no list is an empty one. -/
def zdat (P : Program) (ct : TypeId) : Value → AV
  | .slice none 0 0 => .sl false (match slel P ct with | some e => P.cellsOf e | none => 0) []
  | v => .sc v
def zrow (P : Program) (t : TypeId) : Option (List AV) := match zeros P t with | some z => if z.all (·.oneCell') then some (List.zipWith (zdat P) (tcs P t) z) else none | none => none
/-- A type no cell of which leads to memory. -/
def flatT (P : Program) (t : TypeId) : Bool := (tcs P t).all fun c => match P.underlying c with
  | some .bool => true | some (.int _) => true | some .string => true | _ => false

/-! ### scalars -/
def evInt (op : BinOp) (k : IntKind) (a b : Int) : Option Value :=
  match op with
  | .add => some (.int k (k.wrap (a + b)))
  | .sub => some (.int k (k.wrap (a - b)))
  | .mul => some (.int k (k.wrap (a * b)))
  | .quo => if b = 0 then none else some (.int k (k.wrap (a.tdiv b)))
  | .rem => if b = 0 then none else some (.int k (a.tmod b))
  | .and => some (.int k (k.wrap (BitVec.ofInt k.bits a &&& BitVec.ofInt k.bits b).toNat))
  | .or => some (.int k (k.wrap (BitVec.ofInt k.bits a ||| BitVec.ofInt k.bits b).toNat))
  | .xor => some (.int k (k.wrap (BitVec.ofInt k.bits a ^^^ BitVec.ofInt k.bits b).toNat))
  | .andNot => some (.int k (k.wrap (BitVec.ofInt k.bits a &&& ~~~ BitVec.ofInt k.bits b).toNat))
  | .eql => some (.bool (a == b))
  | .neq => some (.bool (a != b))
  | .lss => some (.bool (decide (a < b)))
  | .leq => some (.bool (decide (a ≤ b)))
  | .gtr => some (.bool (decide (b < a)))
  | .geq => some (.bool (decide (b ≤ a)))
  | _ => none
def evStr (op : BinOp) (a b : ByteArray) : Option Value :=
  match op with
  | .add => if a.size + b.size ≤ 9223372036854775807 then some (.string (a ++ b)) else none
  | .eql => some (.bool (decide (a = b)))
  | .neq => some (.bool (decide (a ≠ b)))
  | .lss => some (.bool (Op.bytesLess a.toList b.toList))
  | _ => none
def eqV : AV → AV → Option Bool
  | .sc (.int k a), .sc (.int k' b) => if k = k' then some (a == b) else none
  | .sc (.string a), .sc (.string b) => some (decide (a = b))
  | .sc (.bool a), .sc (.bool b) => some (a == b)
  | _, _ => none
def eqL : List AV → List AV → Option Bool
  | [], [] => some true
  | a :: as, b :: bs => match eqV a b, eqL as bs with
    | some x, some y => some (x && y)
    | _, _ => none
  | _, _ => none
/-- Is a cell one of its type, as far as it can be held against another? -/
def cellFits (P : Program) (t : TypeId) : AV → Bool
  | .sc (.int _ _) => (intK P t).isSome
  | .sc (.string _) => strB P t
  | .sc (.bool _) => bolB P t
  | _ => false
def fitsL (P : Program) : List TypeId → List AV → Bool
  | [], [] => true
  | t :: ts, x :: xs => cellFits P t x && fitsL P ts xs
  | _, _ => false
def mapB (P : Program) (t : TypeId) : Bool := match P.underlying t with | some (.map _ _) => true | _ => false
def evBin (P : Program) (E : TypeId → Bool) (op : BinOp) (t : TypeId) : AV → AV → Option AV
  | .sc (.int k a), .sc (.int k' b) =>
    match op with
    | .shl => if b < 0 then none else some (.sc (.int k (k.wrap (a * 2 ^ (min b.toNat k.bits)))))
    | .shr => if b < 0 then none else some (.sc (.int k (a.fdiv (2 ^ (min b.toNat k.bits)))))
    | op => if k = k' then (evInt op k a b).map .sc else none
  | .sc (.string a), .sc (.string b) => (evStr op a b).map .sc
  | .sc (.bool a), .sc (.bool b) => if bolB P t then (match op with
    | .eql => some (.sc (.bool (a == b)))
    | .neq => some (.sc (.bool (a != b)))
    | _ => none) else none
  | .sc (.map a), .sc (.map none) => if mapB P t then (match op with
    | .eql => some (.sc (.bool a.isNone))
    | .neq => some (.sc (.bool a.isSome))
    | _ => none) else none
  | .agg xs, .agg ys => if E t ∧ fitsL P (tcs P t) xs ∧ fitsL P (tcs P t) ys then (match op, eqL xs ys with
    | .eql, some b => some (.sc (.bool b))
    | .neq, some b => some (.sc (.bool (!b)))
    | _, _ => none) else none
  | _, _ => none
def evUn (op : UnOp) : AV → Option AV
  | .sc (.int k n) => match op with
    | .neg => some (.sc (.int k (k.wrap (0 - n))))
    | .xor => some (.sc (.int k (k.wrap (BitVec.ofInt k.bits (if k.signed then -1 else k.max) ^^^ BitVec.ofInt k.bits n).toNat)))
    | _ => none
  | .sc (.bool b) => match op with
    | .not => some (.sc (.bool !b))
    | _ => none
  | _ => none

/-! ### data, and what is owned -/
def cellsA : AV → List AV
  | .agg cs => cs
  | .sc (.agg us) => us.toList.map .sc
  | v => [v]
/-- Is it a struct or an array? -/
def aggA : AV → Bool
  | .agg _ => true
  | .sc (.agg _) => true
  | _ => false
/-- Does nothing of it lead to memory? -/
def allSc : AV → Bool
  | .sc _ => true
  | .agg cs => cs.all fun | .sc _ => true | _ => false
  | _ => false
/-- May it be taken apart into cells? -/
def chk : AV → Prog Unit
  | .any => .fail
  | .ptr _ _ _ => .fail
  | .eptr _ _ _ _ => .fail
  | .own x g _ => .hdr x fun | .arr g' _ _ _ _ => if g' = g then .ret () else .fail | _ => .fail
  | _ => .ret ()
def chkL : List AV → Prog Unit
  | [] => .ret ()
  | v :: vs => (chk v).bind fun _ => chkL vs
def splice (l : List AV) (off : Nat) (vs : List AV) : List AV := if vs.length = l.length then vs else l.take off ++ vs ++ l.drop (off + vs.length)
def chunks (sz : Nat) : Nat → List AV → List (List AV)
  | 0, _ => []
  | n + 1, l => l.take sz :: chunks sz n (l.drop sz)

/-- A cell's value as data that stay; fz: what is owned may be written no more. -/
def toDat (P : Program) (fz : Bool) (ct : TypeId) : AV → Prog AV
  | .sc (.slice none 0 0) => match slel P ct with
    | some e => .ret (.sl false (P.cellsOf e) [])
    | none => .fail
  | .sc v => if v.oneCell' then .ret (.sc v) else .fail
  | .sl _ sz rows => .ret (.sl false sz rows)
  | .dp c o => .ret (.dp c o)
  | .own x g n => .get x fun
    | .arr g' sz e rows f => if g' = g then (if fz then .put x (.arr g sz e rows true) (.ret (.sl false sz (rows.take n))) else if f then .ret (.sl false sz (rows.take n)) else .ret (.sl false sz (rows.take n))) else .fail
    | _ => .fail
  | _ => .fail
def toDatL (P : Program) (fz : Bool) : List TypeId → List AV → Prog (List AV)
  | _, [] => .ret []
  | [], _ :: _ => .fail
  | t :: ts, v :: vs => (toDat P fz t v).bind fun v' => (toDatL P fz ts vs).bind fun vs' => .ret (v' :: vs')
def isDat : AV → Bool
  | .sc v => v.oneCell'
  | .sl _ _ _ => true
  | .dp _ _ => true
  | _ => false

/-- A value that is laid into a cell whose own list's name is y. -/
def settle (P : Program) (y : Nm) (ct : TypeId) : AV → Prog AV
  | .sc (.slice none 0 0) => match slel P ct with
    | some e => .get y fun o => .put y (.arr (o.gen + 1) (P.cellsOf e) e [] false) (.ret (.own y (o.gen + 1) 0))
    | none => .fail
  | .sc v => if v.oneCell' then .ret (.sc v) else .fail
  | .own x g n => .get x fun
    | .arr g' sz e rows f => if g' = g then (if x = y then .ret (.own x g n) else if f = false ∧ n = rows.length then
        .put x (.no (g + 1)) (.get y fun o => .put y (.arr (o.gen + 1) sz e rows false) (.ret (.own y (o.gen + 1) n)))
        else .put x (.arr g sz e rows true) (.ret (.sl false sz (rows.take n)))) else .fail
    | _ => .fail
  | .sl f sz rows => .ret (.sl f sz rows)
  | .dp c o => .ret (.dp c o)
  | _ => .fail
def settleL (P : Program) (d i : Nat) : Nat → List TypeId → List AV → Prog (List AV)
  | _, _, [] => .ret []
  | _, [], _ :: _ => .fail
  | off, t :: ts, v :: vs => (settle P ⟨d, i, off + 1⟩ t v).bind fun v' => (settleL P d i (off + 1) ts vs).bind fun vs' => .ret (v' :: vs')

def newBox (P : Program) (k i : Nat) (t : TypeId) (cells : List AV) : Prog AV :=
  if cells.length = P.cellsOf t then
    (settleL P k i 0 (tcs P t) cells).bind fun cs => .get ⟨k, i, 0⟩ fun o => .put ⟨k, i, 0⟩ (.box (o.gen + 1) cs false) (.ret (.ptr ⟨k, i, 0⟩ (o.gen + 1) 0))
  else .fail
def newArr (y : Nm) (sz : Nat) (e : TypeId) (rows : List (List AV)) : Prog AV :=
  .get y fun o => .put y (.arr (o.gen + 1) sz e rows false) (.ret (.own y (o.gen + 1) rows.length))

/-! ### memory -/
/-- So many cells from an address on. -/
def getCs (x : Nm) : Nat → Nat → Prog (List AV)
  | _, 0 => .ret []
  | off, n + 1 => .getC x off fun v => (getCs x (off + 1) n).bind fun vs => .ret (v :: vs)
def putCs (x : Nm) : Nat → List AV → Prog AV
  | _, [] => .ret .any
  | off, v :: vs => .putC x off v (putCs x (off + 1) vs)
def cellsFrom (n : Nat) : AV → Prog (List AV)
  | .ptr x g off => .hdr x fun | .box g' l _ => if g' = g ∧ off + n ≤ l then getCs x off n else .fail | _ => .fail
  | .eptr x g i off => .get x fun | .arr g' _ _ rows _ => if g' = g then (match rows[i]? with | some r => if off + n ≤ r.length then .ret ((r.drop off).take n) else .fail | none => .fail) else .fail | _ => .fail
  | .dp cells off => if off + n ≤ cells.length then .ret ((cells.drop off).take n) else .fail
  | _ => .fail
def loadP (P : Program) (t : TypeId) (a : AV) : Prog AV :=
  if isAggB P t then (if 0 < P.cellsOf t then (cellsFrom (P.cellsOf t) a).bind fun cs => .ret (.agg cs) else .fail)
  else if (P.underlying t).isSome then (cellsFrom 1 a).bind fun cs => match cs with | [v] => .ret v | _ => .fail
  else .fail
def storeP (P : Program) (t : TypeId) (a v : AV) : Prog AV :=
  let vs := cellsA v
  if vs.length = P.cellsOf t then
    match a with
    | .ptr x g off => (settleL P x.d x.i off (tcs P t) vs).bind fun vs' => .hdr x fun
      | .box g' l f => if g' = g ∧ f = false ∧ off + vs'.length ≤ l then putCs x off vs' else .fail
      | _ => .fail
    | .eptr x g i off => (toDatL P true (tcs P t) vs).bind fun vs' => .get x fun
      | .arr g' sz e rows f => if g' = g ∧ f = false then (match rows[i]? with
        | some r => if off + vs'.length ≤ r.length then .put x (.arr g sz e (rows.set i (splice r off vs')) false) (.ret .any) else .fail
        | none => .fail) else .fail
      | _ => .fail
    | _ => .fail
  else .fail
def shiftA (n : Nat) : AV → Prog AV
  | .ptr x g off => .hdr x fun | .box g' _ _ => if g' = g then .ret (.ptr x g (off + n)) else .fail | _ => .fail
  | .eptr x g i off => .hdr x fun | .arr g' _ _ _ _ => if g' = g then .ret (.eptr x g i (off + n)) else .fail | _ => .fail
  | .dp cells off => .ret (.dp cells (off + n))
  | _ => .fail
def fieldP (P : Program) (s : TypeId) (x : AV) (f : Nat) : Prog AV :=
  match (flds P s)[f]? with
  | some (off, sz, _) => if sz = 0 then .fail else shiftA off x
  | none => .fail
def indexP (P : Program) (t : TypeId) (x : AV) : AV → Prog AV
  | .sc (.int _ i) =>
    if 0 ≤ i then
      match x with
      | .sl _ sz rows => match slel P t with
        | some e => if sz = P.cellsOf e ∧ tOk P e then (match rows[i.toNat]? with | some r => .ret (.dp r 0) | none => .fail) else .fail
        | none => .fail
      | .own y g n => match slel P t with
        | some e => .hdr y fun
          | .arr g' sz _ _ _ => if g' = g ∧ sz = P.cellsOf e ∧ tOk P e ∧ i.toNat < n then .ret (.eptr y g i.toNat 0) else .fail
          | _ => .fail
        | none => .fail
      | x => match arrOf P t with
        | some (len, e) => if i.toNat < len ∧ tOk P e then shiftA (i.toNat * P.cellsOf e) x else .fail
        | none => .fail
    else .fail
  | _ => .fail
def bound (dflt : Nat) : Option AV → Option Nat
  | none => some dflt
  | some (.sc (.int _ i)) => if 0 ≤ i then some i.toNat else none
  | _ => none
def sliceP (P : Program) (t : TypeId) (x : AV) (lo hi mx : Option AV) : Prog AV :=
  match x with
  | .sc (.string s) => match strB P t, bound 0 lo, bound s.size hi, mx with
    | true, some l, some h, none => if l ≤ h ∧ h ≤ s.size then .ret (.sc (.string (s.extract l h))) else .fail
    | _, _, _, _ => .fail
  | .sl _ sz rows => match slel P t, bound 0 lo, bound rows.length hi, mx with
    | some e, some l, some h, none => if l ≤ h ∧ h ≤ rows.length ∧ sz = P.cellsOf e ∧ tOk P e then .ret (.sl false sz ((rows.take h).drop l)) else .fail
    | some e, some l, some h, some m => match bound 0 (some m) with
      | some m => if l ≤ h ∧ h = m ∧ h ≤ rows.length ∧ sz = P.cellsOf e ∧ hi.isSome ∧ tOk P e then .ret (.sl true sz ((rows.take h).drop l)) else .fail
      | none => .fail
    | _, _, _, _ => .fail
  | .own y g n => .get y fun
    | .arr g' sz e' rows f => match slel P t, bound 0 lo, bound n hi, mx with
      | some e, some l, some h, none => if g' = g ∧ l ≤ h ∧ h ≤ n ∧ sz = P.cellsOf e ∧ tOk P e then
          (if l = 0 then .ret (.own y g h) else .put y (.arr g sz e' rows true) (.ret (.sl false sz ((rows.take h).drop l)))) else .fail
      | some e, some l, some h, some m => match bound 0 (some m) with
        | some m => if g' = g ∧ l ≤ h ∧ h = m ∧ h ≤ n ∧ sz = P.cellsOf e ∧ hi.isSome ∧ tOk P e then .put y (.arr g sz e' rows true) (.ret (.sl true sz ((rows.take h).drop l))) else .fail
        | none => .fail
      | _, _, _, _ => if f then .fail else .fail
    | _ => .fail
  | .ptr y g 0 => match arrOf P t, lo, hi, mx with
    | some (n, e), none, none, none => .get y fun
      | .box g' cells _ => if g' = g ∧ n ≤ maxLen ∧ cells.length = n * P.cellsOf e ∧ cells.all isDat ∧ tOk P e then .put y (.box g cells true) (.ret (.sl true (P.cellsOf e) (chunks (P.cellsOf e) n cells))) else .fail
      | _ => .fail
    | _, _, _, _ => .fail
  | .dp cells off => match arrOf P t, lo, hi, mx with
    | some (n, e), none, none, none => if n * P.cellsOf e ≤ (cells.drop off).length ∧ tOk P e ∧ n ≤ maxLen then .ret (.sl true (P.cellsOf e) (chunks (P.cellsOf e) n (cells.drop off))) else .fail
    | _, _, _, _ => .fail
  | _ => .fail

/-- The rows of a list, and how many cells each has. -/
def rowsP : AV → Prog (Nat × List (List AV))
  | .sl _ sz rows => .ret (sz, rows)
  | .own x g n => .get x fun | .arr g' sz _ rows _ => if g' = g ∧ n ≤ rows.length then .ret (sz, rows.take n) else .fail | _ => .fail
  | .sc (.slice none 0 0) => .ret (0, [])
  | .sc (.string s) => .ret (1, s.data.toList.map fun b => [.sc (.int .u8 b.toNat)])
  | _ => .fail
def lenP (P : Program) (t : TypeId) : AV → Prog AV
  | .sc (.string s) => if strB P t then .ret (.sc (.int .i64 s.size)) else .fail
  | .sl _ _ rows => if (slel P t).isSome then .ret (.sc (.int .i64 rows.length)) else .fail
  | .own x g n => if (slel P t).isSome then .hdr x fun | .arr g' _ _ _ _ => if g' = g then .ret (.sc (.int .i64 n)) else .fail | _ => .fail else .fail
  | .sc (.slice none 0 0) => if (slel P t).isSome then .ret (.sc (.int .i64 0)) else .fail
  | _ => .fail
/-- A type that has a zero value of so many cells as it has. -/
def zok (P : Program) (e : TypeId) : Bool := match zeros P e with | some z => z.length == P.cellsOf e && decide (0 < P.cellsOf e) | none => false
def srcT (P : Program) (t : TypeId) : Bool := match P.underlying t with | some (.slice _) => true | some .string => true | _ => false
def appendP (P : Program) (y : Nm) (t t' : TypeId) (s x : AV) : Prog AV :=
  match slel P t with
  | some e => if zok P e ∧ srcT P t' then (rowsP x).bind fun (sz', src) =>
    if sz' = P.cellsOf e ∨ src = [] then
      match s with
      | .own z g n => .get z fun
        | .arr g' sz e' rows f => if g' = g ∧ f = false ∧ n = rows.length ∧ (sz = P.cellsOf e ∧ e' = e) ∧ (n + src.length) * P.bytesOf e ≤ 140737488355328 ∧ n + src.length ≤ maxLen then
            .put z (.arr (g + 1) sz e (rows ++ src) false) (.ret (.own z (g + 1) (n + src.length))) else .fail
        | _ => .fail
      | .sc (.slice none 0 0) => if src.length * P.bytesOf e ≤ 140737488355328 ∧ src.length ≤ maxLen then newArr y (P.cellsOf e) e src else .fail
      | .sl true sz rows => if sz = P.cellsOf e ∧ 0 < src.length ∧ (rows.length + src.length) * P.bytesOf e ≤ 140737488355328 ∧ rows.length + src.length ≤ maxLen then newArr y sz e (rows ++ src) else .fail
      | _ => .fail
    else .fail
    else .fail
  | none => .fail
def makeP (P : Program) (y : Nm) (t : TypeId) : AV → AV → Prog AV
  | .sc (.int _ l), .sc (.int _ c) => match slel P t with
    | some e => match zrow P e with
      | some z => if 0 ≤ l ∧ l ≤ c ∧ c ≤ 9223372036854775807 ∧ c * P.bytesOf e ≤ 140737488355328 ∧ z.length = P.cellsOf e ∧ zok P e then newArr y (P.cellsOf e) e (List.replicate l.toNat z) else .fail
      | none => .fail
    | none => .fail
  | _, _ => .fail
/-- Parts, laid into cells. -/
def fillA (place : Nat → Option (Nat × Nat)) (cells : List AV) : List (Nat × AV) → Option (List AV)
  | [] => some cells
  | (i, v) :: rest => match place i with
    | none => none
    | some (off, size) => if (cellsA v).length = size ∧ off + (cellsA v).length ≤ cells.length then fillA place (splice cells off (cellsA v)) rest else none
def buildP (P : Program) (t : TypeId) (parts : List (Nat × AV)) : Prog AV :=
  if bldOk P t then
    match fillA (match arrOf P t with
        | some (_, e) => fun i => some (i * P.cellsOf e, P.cellsOf e)
        | none => fun i => ((flds P t)[i]?).map fun f => (f.1, f.2.1)) (((zeros P t).getD []).map .sc) parts with
    | some cs => .ret (.agg cs)
    | none => .fail
  else .fail
def rowsOfParts (P : Program) (e : TypeId) : List (Nat × AV) → List (List AV) → Prog (List (List AV))
  | [], rows => .ret rows
  | (i, v) :: rest, rows => if (cellsA v).length = P.cellsOf e ∧ i < rows.length then (toDatL P true (tcs P e) (cellsA v)).bind fun r => rowsOfParts P e rest (rows.set i r) else .fail
def buildSliceP (P : Program) (y : Nm) (t : TypeId) (len : Nat) (parts : List (Nat × AV)) : Prog AV :=
  match slel P t with
  | some e => match zrow P e with
    | some z => if z.length = P.cellsOf e ∧ zok P e ∧ len * P.cellsOf e ≤ 16777216 ∧ len ≤ maxLen then
        (rowsOfParts P e parts (List.replicate len z)).bind fun rows => newArr y (P.cellsOf e) e rows else .fail
    | none => .fail
  | none => .fail
def partA (P : Program) (t : TypeId) (cs : List AV) (off : Nat) : Prog AV :=
  if !tOk P t then .fail
  else if isAggB P t then (if off + P.cellsOf t ≤ cs.length then .ret (.agg ((cs.drop off).take (P.cellsOf t))) else .fail)
  else match cs[off]? with | some v => .ret v | none => .fail
def fieldVP (P : Program) (t : TypeId) (x : AV) (f : Nat) : Prog AV :=
  match (flds P t)[f]?, x with
  | some (off, _, ft), .agg cs => partA P ft cs off
  | _, _ => .fail
def indexVP (P : Program) (t : TypeId) (x : AV) : AV → Prog AV
  | .sc (.int _ i) => if 0 ≤ i then
      match x with
      | .agg cs => match arrOf P t with
        | some (len, e) => if i.toNat < len ∧ tOk P e then partA P e cs (i.toNat * P.cellsOf e) else .fail
        | none => .fail
      | .sc (.string s) => if strB P t then (match s.data[i.toNat]? with
        | some b => .ret (.sc (.int .u8 b.toNat))
        | none => .fail) else .fail
      | _ => .fail
    else .fail
  | _ => .fail
def bytesOfRows : List (List AV) → Option (List UInt8)
  | [] => some []
  | [.sc (.int .u8 n)] :: rs => (bytesOfRows rs).map (UInt8.ofNat n.toNat :: ·)
  | _ => none
def convertP (P : Program) (y : Nm) (src dst : TypeId) (x : AV) : Prog AV :=
  match x with
  | .sc (.int _ n) => match intK P dst with
    | some k => if (P.underlying src).isSome then .ret (.sc (.int k (k.wrap n))) else .fail
    | none => .fail
  | .sc (.string s) => if strB P src then (if strB P dst then .ret (.sc (.string s)) else match slel P dst with
    | some e => if intK P e = some .u8 ∧ P.cellsOf e = 1 ∧ s.size ≤ maxLen then newArr y 1 e (s.data.toList.map fun b => [.sc (.int .u8 b.toNat)]) else .fail
    | none => .fail) else .fail
  | x => match slel P src with
    | some e => if strB P dst ∧ intK P e = some .u8 then (rowsP x).bind fun (sz, rows) => match bytesOfRows rows with
        | some l => if sz = 1 ∨ rows = [] then .ret (.sc (.string ⟨⟨l⟩⟩)) else .fail
        | none => .fail
      else .fail
    | none => .fail

/-! ### calls -/
/-- Cells as one value again. -/
def oneV (agg : Bool) (cs : List AV) : Prog AV := if agg then .ret (.agg cs) else match cs with | [c] => .ret c | _ => .fail
def argsP (P : Program) (fz : Bool) : List TypeId → List AV → Prog (List AV)
  | [], [] => .ret []
  | t :: ts, v :: vs =>
    if (cellsA v).length = P.cellsOf t ∧ aggA v = isAggB P t then
      (chk v).bind fun _ => (toDatL P fz (tcs P t) (cellsA v)).bind fun cs => (argsP P fz ts vs).bind fun r =>
        (oneV (isAggB P t) cs).bind fun a => .ret (a :: r)
    else .fail
  | _, _ => .fail
/-- A result's cell: what the call owns is handed over. -/
def handCell (P : Program) (ct : TypeId) : AV → Prog AV
  | .sc (.slice none 0 0) => match slel P ct with
    | some e => .ret (.vec (P.cellsOf e) [])
    | none => .fail
  | .sc v => if v.oneCell' then .ret (.sc v) else .fail
  | .sl _ sz rows => .ret (.sl false sz rows)
  | .dp c o => .ret (.dp c o)
  | .own x g n => .get x fun
    | .arr g' sz e rows f => if g' = g then (if f = false ∧ n = rows.length ∧ slel P ct = some e then .put x (.no (g + 1)) (.ret (.vec sz rows)) else .put x (.arr g sz e rows true) (.ret (.sl false sz (rows.take n)))) else .fail
    | _ => .fail
  | _ => .fail
def handL (P : Program) : List TypeId → List AV → Prog (List AV)
  | _, [] => .ret []
  | [], _ :: _ => .fail
  | t :: ts, v :: vs => (handCell P t v).bind fun v' => (handL P ts vs).bind fun vs' => .ret (v' :: vs')
def hand (P : Program) (t : TypeId) (v : AV) : Prog AV :=
  if (cellsA v).length = P.cellsOf t ∧ aggA v = isAggB P t then (chk v).bind fun _ => (handL P (tcs P t) (cellsA v)).bind fun cs => oneV (isAggB P t) cs
  else .fail
def resultP (P : Program) (fr : Nat → AV) (t : TypeId) : ResultVar → Prog AV
  | .tmp s => hand P t (fr s)
  | .cell a t' => if t' = t then (loadP P t (fr a)).bind (hand P t) else .fail
def resultsP (P : Program) (fr : Nat → AV) : List TypeId → List ResultVar → Prog (List AV)
  | [], [] => .ret []
  | t :: ts, r :: rs => (resultP P fr t r).bind fun v => (resultsP P fr ts rs).bind fun vs => .ret (v :: vs)
  | _, _ => .fail
/-- What came of a call, for the caller: what is handed over is its own. -/
def takeCell (P : Program) (ct : TypeId) (y : Nm) : AV → Prog AV
  | .vec sz rows => match slel P ct with
    | some e => .get y fun o => .put y (.arr (o.gen + 1) sz e rows false) (.ret (.own y (o.gen + 1) rows.length))
    | none => .fail
  | .sc v => .ret (.sc v)
  | .sl f sz rows => .ret (.sl f sz rows)
  | .dp c o => .ret (.dp c o)
  | _ => .fail
def takeL (P : Program) (k d : Nat) : Nat → List TypeId → List AV → Prog (List AV)
  | _, _, [] => .ret []
  | _, [], _ :: _ => .fail
  | c, t :: ts, v :: vs => (takeCell P t ⟨k, d, c⟩ v).bind fun v' => (takeL P k d (c + 1) ts vs).bind fun vs' => .ret (v' :: vs')
def takeOne (P : Program) (k d c : Nat) (t : TypeId) (v : AV) : Prog AV :=
  if (cellsA v).length = P.cellsOf t then
    if isAggB P t then (match v with
      | .agg vs => (takeL P k d (c + 1) (tcs P t) vs).bind fun cs => .ret (.agg cs)
      | _ => .fail) else takeCell P t ⟨k, d, c⟩ v
  else .fail
def takeAll (P : Program) (k d : Nat) : Nat → List TypeId → List AV → Prog (List AV)
  | _, [], [] => .ret []
  | c, t :: ts, v :: vs => (takeOne P k d c t v).bind fun v' => (takeAll P k d (c + 1000) ts vs).bind fun vs' => .ret (v' :: vs')
  | _, _, _ => .fail
def takeRes (P : Program) (k d : Nat) : List TypeId → List AV → Prog AV
  | [t], [v] => takeOne P k d 0 t v
  | ts, vs => (takeAll P k d 1000 ts vs).bind fun r => .ret (.tup r)

/-! ### functions -/
def okFn (P : Program) (f : Nat) : Bool := match P.funcs[f]? with
  | some fn => fn.body.isSome && !(fn.name == "runtime.NumGoroutine")
  | none => false
def ptys (P : Program) (f : Nat) : List TypeId := match P.funcs[f]? with | some fn => fn.params.toList | none => []
def rtys (P : Program) (f : Nat) : List TypeId := match P.funcs[f]? with | some fn => fn.resultTypes.toList | none => []
def flatF (P : Program) (f : Nat) : Bool := (rtys P f).all (flatT P)

def opA (fr : Nat → AV) : Operand → AV
  | .tmp t => fr t
  | .const (.agg us) => .agg (us.toList.map .sc)
  | .const v => .sc v
  | .func f => .fn f []
  | .global _ => .any

/-- An oracle: what a call of a function comes to: of data; or on the caller's heap (for the slot d of a frame of depth k). -/
structure Orc where
  dat : Nat → List AV → Option (List AV)
  hpc : Nat → Nat → Nat → List AV → Hp → Option (AV × Hp)
/-- Types whose structs are held against each other; functions that are called on the caller's heap. -/
structure Cfg where
  eq : TypeId → Bool
  hp : Nat → Bool

def callP (P : Program) (E : Cfg) (k d : Nat) (call : Orc) (f : Nat) (args : List AV) : Prog AV :=
  if okFn P f then
    if E.hp f then .ext (call.hpc k d f args) .ret else
    (argsP P (!flatF P f) (ptys P f) args).bind fun as => match call.dat f as with
      | some rs => if !flatF P f || rs.all allSc then takeRes P k d (rtys P f) rs else .fail
      | none => .fail
  else .fail

def assignP (P : Program) (y : Nm) (t : TypeId) : AV → Prog AV
  | .sc (.slice none 0 0) => match slel P t with
    | some e => newArr y (P.cellsOf e) e []
    | none => .fail
  | v => .ret v

def evOp (P : Program) (E : Cfg) (k : Nat) (call : Orc) (fr : Nat → AV) (o : Oper) : Prog AV :=
  match o.op with
  | .move x => .ret (opA fr x)
  | .assign x => assignP P ⟨k, o.dst.getD 0, 0⟩ o.type (opA fr x)
  | .pick c a b => match opA fr c with
    | .sc (.bool t) => .ret (if t then opA fr a else opA fr b)
    | _ => .fail
  | .alloc t => match zeros P t with
    | some z => newBox P k (o.dst.getD 0) t (z.map .sc)
    | none => .fail
  | .box t x => (chk (opA fr x)).bind fun _ => newBox P k (o.dst.getD 0) t (cellsA (opA fr x))
  | .build t parts => (chkL (parts.toList.map fun p => opA fr p.2)).bind fun _ => buildP P t (parts.toList.map fun p => (p.1, opA fr p.2))
  | .buildSlice t len parts => (chkL (parts.toList.map fun p => opA fr p.2)).bind fun _ => buildSliceP P ⟨k, o.dst.getD 0, 0⟩ t len (parts.toList.map fun p => (p.1, opA fr p.2))
  | .load t a => loadP P t (opA fr a)
  | .store t a v => if (P.info? t).isSome then (chk (opA fr v)).bind fun _ => storeP P t (opA fr a) (opA fr v) else .fail
  | .nilCheck x => shiftA 0 (opA fr x)
  | .binOp op t x y _ => match evBin P E.eq op t (opA fr x) (opA fr y) with
    | some v => .ret v
    | none => .fail
  | .unOp op _ x => match evUn op (opA fr x) with
    | some v => .ret v
    | none => .fail
  | .convert s d x => convertP P ⟨k, o.dst.getD 0, 0⟩ s d (opA fr x)
  | .makeSlice t l c => makeP P ⟨k, o.dst.getD 0, 0⟩ t (opA fr l) (opA fr c)
  | .slice t x lo hi mx => sliceP P t (opA fr x) (lo.map (opA fr)) (hi.map (opA fr)) (mx.map (opA fr))
  | .fieldAddr s x f => fieldP P s (opA fr x) f
  | .field t x f => fieldVP P t (opA fr x) f
  | .indexAddr t x i => indexP P t (opA fr x) (opA fr i)
  | .index t x i => indexVP P t (opA fr x) (opA fr i)
  | .extract t i => match opA fr t with
    | .tup vs => match vs[i]? with
      | some v => .ret v
      | none => .fail
    | _ => .fail
  | .call c => match c.callee, c.args.toList, c.argTypes.toList with
    | .builtin .len, [x], [t] => lenP P t (opA fr x)
    | .builtin .append, [s, x], [t, t'] => appendP P ⟨k, o.dst.getD 0, 0⟩ t t' (opA fr s) (opA fr x)
    | .value (.func f), args, _ => callP P E k (o.dst.getD 0) call f (args.map (opA fr))
    | _, _, _ => .fail
  | _ => .fail

/-! ### regions and code -/
structure AS where
  fr : Nat → AV
  hp : Hp

def setd (fr : Nat → AV) (d : Option Nat) (v : AV) : Nat → AV := match d with
  | some d => fun i => if i = d then v else fr i
  | none => fr

def guardA (all : Array Oper) (fr : Nat → AV) (o : Oper) : Option Bool := match o.guard with
  | none => some true
  | some (j, b) => match (all[j]?).bind (·.dst) with
    | some d => match fr d with
      | .sc (.bool c) => some (c == b)
      | .sc (.tuple _) => some false
      | _ => none
    | none => none

def evOps (P : Program) (E : Cfg) (k : Nat) (call : Orc) (all : Array Oper) : List Oper → AS → Option AS
  | [], st => some st
  | o :: os, st => match guardA all st.fr o with
    | some true => match (evOp P E k call st.fr o).run st.hp with
      | some (v, hp) => evOps P E k call all os ⟨setd st.fr o.dst v, hp⟩
      | none => none
    | some false => evOps P E k call all os ⟨setd st.fr o.dst (.sc undef), st.hp⟩
    | none => none

/-! A region that draws its order: what each operation reads and writes. -/
inductive Facet where
  | all (x : Nm)
  | hd (x : Nm)
  | cl (x : Nm) (off : Nat)
  | top
deriving DecidableEq
def Facet.nm : Facet → Nm
  | .top => ⟨0, 0, 0⟩
  | .all x => x
  | .hd x => x
  | .cl x _ => x
/-- May two be of one thing? -/
def Facet.meets : Facet → Facet → Bool
  | .top, _ => true
  | _, .top => true
  | .all x, g => x == g.nm
  | f, .all y => f.nm == y
  | .hd x, .hd y => x == y
  | .cl x o, .cl y q => x == y && o == q
  | _, _ => false
def Prog.runF {α : Type} : Prog α → Hp → List Facet → List Facet → Option (α × Hp × List Facet × List Facet)
  | .ret a, hp, R, W => some (a, hp, R, W)
  | .get x k, hp, R, W => (k (hp x)).runF hp (.all x :: R) W
  | .put x o k, hp, R, W => k.runF (upd hp x o) R (.all x :: W)
  | .hdr x k, hp, R, W => (k (hp x).head).runF hp (.hd x :: R) W
  | .getC x off k, hp, R, W => match cellOf (hp x) off with
    | some v => (k v).runF hp (.cl x off :: .hd x :: R) W
    | none => none
  | .putC x off v k, hp, R, W => match setCellOf (hp x) off v with
    | some o => k.runF (upd hp x o) (.hd x :: R) (.cl x off :: W)
    | none => none
  | .ext g k, hp, R, W => match g hp with
    | some (v, hp') => (k v).runF hp' (.top :: R) (.top :: W)
    | none => none
  | .fail, _, _, _ => none
structure Foot where
  R : List Facet
  W : List Facet
def stepF (P : Program) (E : Cfg) (k : Nat) (call : Orc) (all : Array Oper) (o : Oper) (st : AS) : Option (AS × Foot) :=
  match guardA all st.fr o with
  | some true => match (evOp P E k call st.fr o).runF st.hp [] [] with
    | some (v, hp, R, W) => some (⟨setd st.fr o.dst v, hp⟩, ⟨R, W⟩)
    | none => none
  | some false => some (⟨setd st.fr o.dst (.sc undef), st.hp⟩, ⟨[], []⟩)
  | none => none
def runDraw (P : Program) (E : Cfg) (k : Nat) (call : Orc) (all : Array Oper) : List Oper → AS → List Foot → Option (AS × List Foot)
  | [], st, fs => some (st, fs.reverse)
  | o :: os, st, fs => match stepF P E k call all o st with
    | some (st', f) => runDraw P E k call all os st' (f :: fs)
    | none => none
/-- Slots that an operation looks at. -/
def slotsOf (all : Array Oper) (o : Oper) : List Nat :=
  (o.op.operands.toList.filterMap fun | .tmp t => some t | _ => none) ++
  (match o.guard with | some (j, _) => ((all[j]?).bind (·.dst)).toList | none => [])
/-- For which operations of a region does each wait, directly or not? -/
def waits : List Oper → List (List Nat) → List (List Nat)
  | [], acc => acc.reverse
  | o :: os, acc => waits os ((o.after.toList.flatMap fun e => if Region.binds .any e then e.on :: acc.reverse.getD e.on [] else []) :: acc)
def apartF (f g : Foot) : Bool := f.W.all (fun x => g.R.all (fun y => !x.meets y) && g.W.all (fun y => !x.meets y)) && g.W.all (fun x => f.R.all (fun y => !x.meets y))
def apartS (all : Array Oper) (o p : Oper) : Bool :=
  (match o.dst with | some d => !((slotsOf all p).contains d) && p.dst != some d | none => true) && (match p.dst with | some d => !((slotsOf all o).contains d) | none => true)
/-- Of two operations that don't wait for one another: do they leave each other's slots alone? -/
def drawS (all : Array Oper) : Bool :=
  let ws := waits all.toList []
  ((List.range all.size).all fun j => (all.getD j default).after.toList.all fun e => !(Region.binds .any e) || decide (e.on < j)) &&
  ((List.range all.size).all fun j => (List.range j).all fun i => ((ws.getD j []).contains i) || apartS all (all.getD i default) (all.getD j default))
def drawF (all : Array Oper) (fs : List Foot) : Bool :=
  let ws := waits all.toList []
  (List.range all.size).all fun j => (List.range j).all fun i => ((ws.getD j []).contains i) || apartF (fs.getD i ⟨[], []⟩) (fs.getD j ⟨[], []⟩)
def evRegion (P : Program) (E : Cfg) (k : Nat) (call : Orc) (ops : Array Oper) (draw : Bool) (st : AS) : Option AS :=
  if draw then
    match runDraw P E k call ops ops.toList st [] with
    | some (st', fs) => if drawS ops && drawF ops fs then some st' else none
    | none => none
  else evOps P E k call ops ops.toList st

inductive Ex where
  | normal
  | exit (id : Nat)
  | ret

def evC (P : Program) (E : Cfg) (k : Nat) (call : Orc) : Nat → Code → AS → Option (Ex × AS)
  | 0, _, _ => none
  | n + 1, c, st => match c with
    | .skip => some (.normal, st)
    | .label _ => some (.normal, st)
    | .region _ ops d => (evRegion P E k call ops d st).map fun s => (.normal, s)
    | .seq a b => match evC P E k call n a st with
      | some (.normal, s) => evC P E k call n b s
      | r => r
    | .cond c a b => match opA st.fr c with
      | .sc (.bool t) => if t then evC P E k call n a st else evC P E k call n b st
      | _ => none
    | .block id c => match evC P E k call n c st with
      | some (.exit i, s) => if i = id then some (.normal, s) else some (.exit i, s)
      | r => r
    | .loop c => match evC P E k call n c st with
      | some (.normal, s) => evC P E k call n (.loop c) s
      | r => r
    | .exit id => some (.exit id, st)
    | .ret => some (.ret, st)
    | _ => none

/-- Do all slots that the code names lie in the frame? -/
def slotsIn (N : Nat) : Code → Bool
  | .region _ ops _ => ops.toList.all fun o => (o.dst.toList.all (· < N)) && o.op.operands.toList.all fun | .tmp t => decide (t < N) | _ => true
  | .seq a b => slotsIn N a && slotsIn N b
  | .cond c a b => (match c with | .tmp t => decide (t < N) | _ => true) && slotsIn N a && slotsIn N b
  | .block _ c => slotsIn N c
  | .loop c => slotsIn N c
  | .scope c => slotsIn N c
  | _ => true
def resIn (N : Nat) : ResultVar → Bool
  | .tmp t => decide (t < N)
  | .cell t _ => decide (t < N)
/-- The frame with which a function begins. -/
def frame0 (args : List AV) : Nat → AV := fun i => args.getD i (.sc undef)
def hp0 : Hp := fun _ => .no 0
def bodyOk (fn : Func) : Bool := match fn.body with
  | some c => slotsIn fn.ntmps c && fn.results.toList.all (resIn fn.ntmps) && decide (fn.params.size ≤ fn.ntmps) && decide (fn.nfree = 0)
  | none => false
def evFn (P : Program) (E : Cfg) (call : Orc) (n : Nat) (fn : Func) (args : List AV) : Option (List AV) :=
  match fn.body with
  | some c => if bodyOk fn && args.length == fn.params.size then match evC P E 0 call n c ⟨frame0 args, hp0⟩ with
      | some (.exit _, _) => none
      | some (_, st) => ((resultsP P st.fr fn.resultTypes.toList fn.results.toList).run st.hp).map (·.1)
      | none => none
    else none
  | none => none
/-! A call on the caller's heap: what comes of it is lowered to names of the caller. -/
def lowerC (P : Program) (k : Nat) (y : Nm) : AV → Prog AV
  | .sc v => .ret (.sc v)
  | .sl f sz rows => .ret (.sl f sz rows)
  | .dp c o => .ret (.dp c o)
  | .own x g n => if x.d ≤ k then .ret (.own x g n) else settle P y 0 (.own x g n)
  | .ptr x g off => if x.d ≤ k then .ret (.ptr x g off) else .fail
  | .eptr x g i off => if x.d ≤ k then .ret (.eptr x g i off) else .fail
  | _ => .fail
def lowerL (P : Program) (k d : Nat) : Nat → List AV → Prog (List AV)
  | _, [] => .ret []
  | c, v :: vs => (lowerC P k ⟨k, d, c⟩ v).bind fun v' => (lowerL P k d (c + 1) vs).bind fun vs' => .ret (v' :: vs')
def lowerV (P : Program) (k d c : Nat) : AV → Prog AV
  | .agg cs => (lowerL P k d (c + 1) cs).bind fun vs => .ret (.agg vs)
  | v => lowerC P k ⟨k, d, c⟩ v
def resultV (P : Program) (fr : Nat → AV) : ResultVar → Prog AV
  | .tmp s => .ret (fr s)
  | .cell a t => loadP P t (fr a)
def lowerAll (P : Program) (fr : Nat → AV) (k d : Nat) : Nat → List ResultVar → Prog (List AV)
  | _, [] => .ret []
  | c, r :: rs => (resultV P fr r).bind fun v => (lowerV P k d c v).bind fun v' => (lowerAll P fr k d (c + 1000) rs).bind fun vs => .ret (v' :: vs)
def lowerRes (P : Program) (fr : Nat → AV) (k d : Nat) : List ResultVar → Prog AV
  | [r] => (resultV P fr r).bind fun v => lowerV P k d 0 v
  | rs => (lowerAll P fr k d 1000 rs).bind fun vs => .ret (.tup vs)
def evFnH (P : Program) (E : Cfg) (call : Orc) (n : Nat) (fn : Func) (k d : Nat) (args : List AV) (hp : Hp) : Option (AV × Hp) :=
  match fn.body with
  | some c => if bodyOk fn && args.length == fn.params.size then match evC P E (k + 1) call n c ⟨frame0 args, hp⟩ with
      | some (.exit _, _) => none
      | some (_, st) => (lowerRes P st.fr k d fn.results.toList).run st.hp
      | none => none
    else none
  | none => none
/-- What a call of a function comes to, with so much fuel; X: what is known of some functions besides. -/
def evCall (P : Program) (E : Cfg) (X : Orc) : Nat → Orc
  | 0 => X
  | n + 1 => {
    dat := fun f args => match X.dat f args with
      | some rs => some rs
      | none => match P.funcs[f]? with
        | some fn => evFn P E (evCall P E X n) n fn args
        | none => none
    hpc := fun k d f args hp => match X.hpc k d f args hp with
      | some r => some r
      | none => match P.funcs[f]? with
        | some fn => evFnH P E (evCall P E X n) n fn k d args hp
        | none => none }
end Go.Ab
