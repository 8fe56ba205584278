/- A part of the proof: Pm, Pn. -/
import Derived.Lib.Hide
import Derived.WalkKit
set_option linter.unusedSimpArgs false
set_option linter.unusedVariables false
namespace Go.Ma
def U (n : Int) : Prop := 0 ≤ n ∧ n < 4294967296
theorem U.mod (n : Int) : U (n % 4294967296) := ⟨Int.emod_nonneg _ (by decide), Int.emod_lt_of_pos _ (by decide)⟩
structure Ins where
  op : Int
  a : Int
  b : Int
  c : Int
def insW (w : Int) : Ins := ⟨w / 16777216, w / 1048576 % 16, w / 65536 % 16, w % 65536⟩
def hasA (op : Int) : Bool := (decide (1 ≤ op) && decide (op ≤ 17)) || (decide (19 ≤ op) && decide (op ≤ 25)) || decide (op = 27)
def hasB (op : Int) : Bool := (decide (3 ≤ op) && decide (op ≤ 17)) || decide (op = 27)
def kC (op : Int) : Nat := if 4 ≤ op ∧ op ≤ 15 then 2 else if op = 3 ∨ op = 22 ∨ op = 23 ∨ op = 24 ∨ op = 26 then 0 else if 1 ≤ op ∧ op ≤ 27 then 1 else 0
def wi (h : Bool) (x m : Int) : Bool := if h then decide (0 ≤ x) && decide (x ≤ m) else decide (x = 0)
def rightI (i : Ins) : Bool := (decide (1 ≤ i.op) && decide (i.op ≤ 27)) && wi (hasA i.op) i.a 15 && wi (hasB i.op) i.b 15 && wi (decide (kC i.op ≠ 0)) i.c (if kC i.op = 2 then 15 else 65535)
structure PS where
  pc : Int
  rg : List Int
  mem : List Int
  rd : Nat
  out : List Int
  steps : Nat
  en : Int
  own : Bool
def PS.reg (s : PS) (a : Int) : Int := s.rg.getD a.toNat 0
def PS.setR (s : PS) (a x : Int) : PS := { s with rg := s.rg.set a.toNat x, pc := s.pc + 1 }
def PS.goto (s : PS) (p : Int) : PS := { s with pc := p }
def PS.stop (s : PS) (e : Int) : PS := { s with en := e }
def andW (a b : Int) : Int := ((BitVec.ofInt 32 a &&& BitVec.ofInt 32 b).toNat : Int)
def orW (a b : Int) : Int := ((BitVec.ofInt 32 a ||| BitVec.ofInt 32 b).toNat : Int)
def xorW (a b : Int) : Int := ((BitVec.ofInt 32 a ^^^ BitVec.ofInt 32 b).toNat : Int)
def apP (op a b : Int) : Option Int :=
  if op = 4 then some ((a + b) % 4294967296)
  else if op = 5 then some ((a - b) % 4294967296)
  else if op = 6 then some (a * b % 4294967296)
  else if op = 7 then (if b = 0 then none else some (a / b))
  else if op = 8 then (if b = 0 then none else some (a % b))
  else if op = 9 then some (andW a b)
  else if op = 10 then some (orW a b)
  else if op = 11 then some (xorW a b)
  else if op = 12 then some (if 31 < b then 0 else a * 2 ^ b.toNat % 4294967296)
  else if op = 13 then some (if 31 < b then 0 else a / 2 ^ b.toNat)
  else if op = 14 then some (if a < b then 1 else 0)
  else some (if a = b then 1 else 0)
abbrev Inp := Nat → Option Int
def doP (code : List Int) (inp : Inp) (s : PS) (i : Ins) : PS :=
  if i.op = 1 then s.setR i.a i.c
  else if i.op = 2 then s.setR i.a (s.reg i.a % 65536 + i.c * 65536)
  else if i.op = 3 then s.setR i.a (s.reg i.b)
  else if i.op = 16 then s.mem[((s.reg i.b + i.c) % 4294967296).toNat]?.elim (s.stop 8) fun x => s.setR i.a x
  else if i.op = 17 then (if ((s.reg i.b + i.c) % 4294967296).toNat < s.mem.length then { s with mem := s.mem.set ((s.reg i.b + i.c) % 4294967296).toNat (s.reg i.a), pc := s.pc + 1, own := true } else s.stop 8)
  else if i.op = 18 then s.goto i.c
  else if i.op = 19 then s.goto (if s.reg i.a = 0 then i.c else s.pc + 1)
  else if i.op = 20 then s.goto (if s.reg i.a ≠ 0 then i.c else s.pc + 1)
  else if i.op = 21 then { s with rg := s.rg.set i.a.toNat ((s.pc + 1) % 4294967296), pc := i.c }
  else if i.op = 22 then s.goto (s.reg i.a)
  else if i.op = 23 then (inp s.rd).elim (s.setR i.a 256) fun b => { s with rg := s.rg.set i.a.toNat b, rd := s.rd + 1, pc := s.pc + 1 }
  else if i.op = 24 then (if 65536 ≤ s.out.length then s.stop 4 else { s with out := s.out ++ [s.reg i.a % 256], pc := s.pc + 1 })
  else if i.op = 25 then (if i.c ≤ s.reg i.a then s.stop 3 else s.goto (s.pc + 1))
  else if i.op = 26 then s.stop 1
  else if i.op = 27 then code[((s.reg i.b + i.c) % 4294967296).toNat]?.elim (s.stop 8) fun x => s.setR i.a x
  else (apP i.op (s.reg i.b) (s.reg i.c)).elim (s.stop 2) fun x => s.setR i.a x
def stepP (code : List Int) (inp : Inp) (s : PS) : PS :=
  if s.pc < 0 then s.stop 7 else
  code[s.pc.toNat]?.elim (s.stop 7) fun w => if rightI (insW w) then doP code inp { s with steps := s.steps + 1 } (insW w) else { s with steps := s.steps + 1, en := 6 }
def runP (code : List Int) (inp : Inp) : Nat → PS → PS
  | 0, s => s
  | n + 1, s => if s.en = 0 then runP code inp n (stepP code inp s) else s
structure Ok (inpN : Nat) (s : PS) : Prop where
  pc0 : 0 ≤ s.pc
  pc1 : s.pc ≤ 4294967296
  rl : s.rg.length = 16
  ru : ∀ x ∈ s.rg, U x
  mu : ∀ x ∈ s.mem, U x
  rd : s.rd ≤ inpN
  ou : ∀ x ∈ s.out, 0 ≤ x ∧ x < 256
  ol : s.out.length ≤ 65536
  en0 : 0 ≤ s.en
  en1 : s.en ≤ 8
theorem Ok.reg {n : Nat} {s : PS} (h : Ok n s) {a : Int} (h0 : 0 ≤ a) (h1 : a ≤ 15) : s.rg[a.toNat]? = some (s.reg a) ∧ U (s.reg a) := by
  have hl : a.toNat < s.rg.length := by rw [h.rl]; omega
  have e : s.reg a = s.rg[a.toNat] := by simp [PS.reg, List.getD_eq_getElem?_getD, hl]
  rw [e]
  exact ⟨List.getElem?_eq_getElem hl, h.ru _ (List.getElem_mem hl)⟩
theorem mem_set {l : List Int} {P : Int → Prop} (h : ∀ x ∈ l, P x) {i : Nat} {v : Int} (hv : P v) : ∀ x ∈ l.set i v, P x := by
  intro x hx
  rcases List.mem_or_eq_of_mem_set hx with h1 | h1
  · exact h x h1
  · rw [h1]; exact hv
theorem Ok.setR {n : Nat} {s : PS} (h : Ok n s) (hp : s.pc + 1 ≤ 4294967296) {x : Int} (hx : U x) (a : Int) : Ok n (s.setR a x) :=
  { pc0 := by show 0 ≤ s.pc + 1; have := h.pc0; omega
    pc1 := hp
    rl := by show (s.rg.set _ _).length = 16; rw [List.length_set]; exact h.rl
    ru := mem_set h.ru hx
    mu := h.mu, rd := h.rd, ou := h.ou, ol := h.ol, en0 := h.en0, en1 := h.en1 }
theorem Ok.goto {n : Nat} {s : PS} (h : Ok n s) {p : Int} (h0 : 0 ≤ p) (h1 : p ≤ 4294967296) : Ok n (s.goto p) :=
  { pc0 := h0, pc1 := h1, rl := h.rl, ru := h.ru, mu := h.mu, rd := h.rd, ou := h.ou, ol := h.ol, en0 := h.en0, en1 := h.en1 }
theorem Ok.stop {n : Nat} {s : PS} (h : Ok n s) {e : Int} (h0 : 0 ≤ e) (h1 : e ≤ 8) : Ok n (s.stop e) :=
  { pc0 := h.pc0, pc1 := h.pc1, rl := h.rl, ru := h.ru, mu := h.mu, rd := h.rd, ou := h.ou, ol := h.ol, en0 := h0, en1 := h1 }
theorem U_bits (x : BitVec 32) : U (x.toNat : Int) := ⟨by omega, by have := x.isLt; omega⟩
theorem ite_ind {α : Type} {p : α → Prop} {c : Prop} [Decidable c] {a b : α} (h1 : c → p a) (h2 : ¬ c → p b) : p (if c then a else b) := by
  by_cases h : c
  · rw [if_pos h]; exact h1 h
  · rw [if_neg h]; exact h2 h
theorem elim_ind {α β : Type} {p : α → Prop} {o : Option β} {b : α} {f : β → α} (h1 : o = none → p b) (h2 : ∀ x, o = some x → p (f x)) : p (o.elim b f) := by
  cases o with
  | none => exact h1 rfl
  | some x => exact h2 x rfl
theorem apP_U {op a b : Int} (ha : U a) (hb : U b) : ∀ {x : Int}, apP op a b = some x → U x := by
  have hm : ∀ n : Int, U (n % 4294967296) := U.mod
  have one : U (if a < b then 1 else 0) := by by_cases h : a < b <;> simp [h] <;> exact ⟨by decide, by decide⟩
  have one' : U (if a = b then 1 else 0) := by by_cases h : a = b <;> simp [h] <;> exact ⟨by decide, by decide⟩
  have so : ∀ {v : Int}, U v → ∀ {x : Int}, some v = some x → U x := fun hv x h => by cases h; exact hv
  have z : U 0 := ⟨by decide, by decide⟩
  have J : ∀ {c : Prop} [Decidable c] {a b : Option Int}, (c → ∀ {x : Int}, a = some x → U x) → (¬ c → ∀ {x : Int}, b = some x → U x) → ∀ {x : Int}, (if c then a else b) = some x → U x := by
    intro c _ a b h1 h2 x h
    by_cases hc : c
    · rw [if_pos hc] at h; exact h1 hc h
    · rw [if_neg hc] at h; exact h2 hc h
  have V : ∀ {c : Prop} [Decidable c] {a b : Int}, (c → U a) → (¬ c → U b) → U (if c then a else b) := fun h1 h2 => ite_ind (p := U) h1 h2
  have no : ∀ {x : Int}, (none : Option Int) = some x → U x := fun h => by cases h
  intro x
  unfold apP
  refine J (fun _ => so (hm _)) fun _ => J (fun _ => so (hm _)) fun _ => J (fun _ => so (hm _)) fun _ => ?_
  refine J (fun _ => J (fun _ => no) fun _ => so ⟨Int.ediv_nonneg ha.1 hb.1, Int.lt_of_le_of_lt (Int.ediv_le_self _ ha.1) ha.2⟩) fun _ => ?_
  refine J (fun _ => J (fun _ => no) fun h0 => so ⟨Int.emod_nonneg _ h0, Int.lt_trans (Int.emod_lt_of_pos _ (by have := hb.1; omega)) hb.2⟩) fun _ => ?_
  refine J (fun _ => so (U_bits _)) fun _ => J (fun _ => so (U_bits _)) fun _ => J (fun _ => so (U_bits _)) fun _ => ?_
  refine J (fun _ => so (V (fun _ => z) fun _ => hm _)) fun _ => ?_
  refine J (fun _ => so (V (fun _ => z) fun _ => ⟨Int.ediv_nonneg ha.1 (Int.le_of_lt (Int.pow_pos (by decide))), Int.lt_of_le_of_lt (Int.ediv_le_self _ ha.1) ha.2⟩)) fun _ => ?_
  exact J (fun _ => so one) fun _ => so one'
theorem wi_le {h : Bool} {x m : Int} (hw : wi h x m = true) (hm : 0 ≤ m) : 0 ≤ x ∧ x ≤ m := by
  unfold wi at hw
  cases h
  · simp at hw; omega
  · simpa using hw
theorem right_bounds {i : Ins} (h : rightI i = true) : (1 ≤ i.op ∧ i.op ≤ 27) ∧ (0 ≤ i.a ∧ i.a ≤ 15) ∧ (0 ≤ i.b ∧ i.b ≤ 15) ∧ (0 ≤ i.c ∧ i.c ≤ 65535) ∧ (4 ≤ i.op → i.op ≤ 15 → i.c ≤ 15) := by
  unfold rightI at h
  simp only [Bool.and_eq_true, decide_eq_true_eq] at h
  obtain ⟨⟨⟨⟨h1, h2⟩, h3⟩, h4⟩, h5⟩ := h
  have h6 := wi_le h5 (by split <;> decide)
  refine ⟨⟨h1, h2⟩, wi_le h3 (by decide), wi_le h4 (by decide), ⟨h6.1, Int.le_trans h6.2 (by split <;> decide)⟩, fun h7 h8 => ?_⟩
  have e : kC i.op = 2 := by unfold kC; rw [if_pos ⟨h7, h8⟩]
  rw [e, if_pos rfl] at h6
  exact h6.2
theorem Ok.outR {n : Nat} {s : PS} (h : Ok n s) (hp : s.pc + 1 ≤ 4294967296) {x : Int} (hx : 0 ≤ x ∧ x < 256) (hl : ¬ 65536 ≤ s.out.length) : Ok n { s with out := s.out ++ [x], pc := s.pc + 1 } :=
  { pc0 := by show 0 ≤ s.pc + 1; have := h.pc0; omega
    pc1 := hp, rl := h.rl, ru := h.ru, mu := h.mu, rd := h.rd
    ou := fun y hy => by
      rcases List.mem_append.1 hy with hy | hy
      · exact h.ou y hy
      · rw [List.mem_singleton.1 hy]; exact hx
    ol := by show (s.out ++ [x]).length ≤ 65536; simp; omega
    en0 := h.en0, en1 := h.en1 }
theorem doP_ok {n : Nat} {code : List Int} {inp : Inp} {s : PS} {i : Ins} (h : Ok n s) (hc : ∀ x ∈ code, U x) (hi : ∀ k b, inp k = some b → k < n ∧ 0 ≤ b ∧ b < 256) (hr : rightI i = true) (hp : s.pc + 1 ≤ 4294967296) : Ok n (doP code inp s i) := by
  obtain ⟨ho, ha, hb, hcc, hc2⟩ := right_bounds hr
  have ra := (h.reg ha.1 ha.2).2
  have rb := (h.reg hb.1 hb.2).2
  have hp0 := h.pc0
  have uc : U i.c := ⟨hcc.1, by omega⟩
  have I : ∀ {c : Prop} [Decidable c] {a b : PS}, (c → Ok n a) → (¬ c → Ok n b) → Ok n (if c then a else b) := fun h1 h2 => ite_ind (p := Ok n) h1 h2
  have st : ∀ e : Int, 0 ≤ e → e ≤ 8 → Ok n (s.stop e) := fun e h1 h2 => h.stop h1 h2
  unfold doP
  refine I (fun _ => h.setR hp uc _) fun _ => ?_
  refine I (fun _ => h.setR hp (by unfold U at *; omega) _) fun _ => ?_
  refine I (fun _ => h.setR hp rb _) fun _ => ?_
  refine I (fun _ => elim_ind (p := Ok n) (fun _ => st 8 (by decide) (by decide)) fun x hx => h.setR hp (h.mu x (List.mem_of_getElem? hx)) _) fun _ => ?_
  refine I (fun _ => I (fun _ => ?_) fun _ => st 8 (by decide) (by decide)) fun _ => ?_
  · exact { pc0 := by show 0 ≤ s.pc + 1; omega
            pc1 := hp, rl := h.rl, ru := h.ru, mu := mem_set h.mu ra, rd := h.rd, ou := h.ou, ol := h.ol, en0 := h.en0, en1 := h.en1 }
  refine I (fun _ => h.goto hcc.1 (by omega)) fun _ => ?_
  refine I (fun _ => h.goto (by split <;> omega) (by split <;> omega)) fun _ => ?_
  refine I (fun _ => h.goto (by split <;> omega) (by split <;> omega)) fun _ => ?_
  refine I (fun _ => ?_) fun _ => ?_
  · exact { pc0 := hcc.1
            pc1 := by show i.c ≤ _; omega
            rl := by show (s.rg.set _ _).length = 16; rw [List.length_set]; exact h.rl
            ru := mem_set h.ru (U.mod _)
            mu := h.mu, rd := h.rd, ou := h.ou, ol := h.ol, en0 := h.en0, en1 := h.en1 }
  refine I (fun _ => by unfold U at ra; exact h.goto ra.1 (by omega)) fun _ => ?_
  refine I (fun _ => elim_ind (p := Ok n) (fun _ => h.setR hp ⟨by decide, by decide⟩ _) fun b hb' => ?_) fun _ => ?_
  · obtain ⟨h1, h2, h3⟩ := hi _ _ hb'
    exact { pc0 := by show 0 ≤ s.pc + 1; omega
            pc1 := hp
            rl := by show (s.rg.set _ _).length = 16; rw [List.length_set]; exact h.rl
            ru := mem_set h.ru ⟨h2, by omega⟩
            mu := h.mu
            rd := h1
            ou := h.ou, ol := h.ol, en0 := h.en0, en1 := h.en1 }
  refine I (fun _ => I (fun _ => st 4 (by decide) (by decide)) fun hl => h.outR hp ⟨by omega, by omega⟩ hl) fun _ => ?_
  refine I (fun _ => I (fun _ => st 3 (by decide) (by decide)) fun _ => h.goto (by omega) hp) fun _ => ?_
  refine I (fun _ => st 1 (by decide) (by decide)) fun _ => ?_
  refine I (fun _ => elim_ind (p := Ok n) (fun _ => st 8 (by decide) (by decide)) fun x hx => h.setR hp (hc x (List.mem_of_getElem? hx)) _) fun _ => ?_
  refine elim_ind (p := Ok n) (fun _ => st 2 (by decide) (by decide)) fun x hx => ?_
  have h4 : 4 ≤ i.op ∧ i.op ≤ 15 := by omega
  exact h.setR hp (apP_U rb (h.reg hcc.1 (hc2 h4.1 h4.2)).2 hx) _
theorem stepP_ok {n : Nat} {code : List Int} {inp : Inp} {s : PS} (h : Ok n s) (hl : code.length ≤ 4294967295) (hc : ∀ x ∈ code, U x) (hi : ∀ k b, inp k = some b → k < n ∧ 0 ≤ b ∧ b < 256) : Ok n (stepP code inp s) := by
  have h0 := h.pc0
  have ok1 : ∀ e : Int, 0 ≤ e → e ≤ 8 → Ok n { s with steps := s.steps + 1, en := e } := fun e h1 h2 => { pc0 := h.pc0, pc1 := h.pc1, rl := h.rl, ru := h.ru, mu := h.mu, rd := h.rd, ou := h.ou, ol := h.ol, en0 := h1, en1 := h2 }
  unfold stepP
  refine ite_ind (p := Ok n) (fun _ => h.stop (by decide) (by decide)) fun _ => elim_ind (p := Ok n) (fun _ => h.stop (by decide) (by decide)) fun w hw => ?_
  have hlt := (List.getElem?_eq_some_iff.1 hw).1
  refine ite_ind (p := Ok n) (fun hr => ?_) fun _ => ok1 6 (by decide) (by decide)
  exact doP_ok (s := { s with steps := s.steps + 1 }) (ok1 s.en h.en0 h.en1) hc hi hr (by show s.pc + 1 ≤ _; omega)
theorem runP_ok {n : Nat} {code : List Int} {inp : Inp} (hl : code.length ≤ 4294967295) (hc : ∀ x ∈ code, U x) (hi : ∀ k b, inp k = some b → k < n ∧ 0 ≤ b ∧ b < 256) : ∀ (k : Nat) {s : PS}, Ok n s → Ok n (runP code inp k s)
  | 0, s, h => h
  | k + 1, s, h => by
    unfold runP
    split
    · exact runP_ok hl hc hi k (stepP_ok h hl hc hi)
    · exact h
theorem doP_steps (code : List Int) (inp : Inp) (s : PS) (i : Ins) : (doP code inp s i).steps = s.steps := by
  have I : ∀ {c : Prop} [Decidable c] {a b : PS}, a.steps = s.steps → b.steps = s.steps → (if c then a else b).steps = s.steps := fun h1 h2 => ite_ind (p := fun t : PS => t.steps = s.steps) (fun _ => h1) fun _ => h2
  have E : ∀ {o : Option Int} {b : PS} {f : Int → PS}, b.steps = s.steps → (∀ x, (f x).steps = s.steps) → (o.elim b f).steps = s.steps := fun h1 h2 => elim_ind (p := fun t : PS => t.steps = s.steps) (fun _ => h1) fun x _ => h2 x
  unfold doP
  exact I rfl (I rfl (I rfl (I (E rfl fun _ => rfl) (I (I rfl rfl) (I rfl (I rfl (I rfl (I rfl (I rfl (I (E rfl fun _ => rfl) (I (I rfl rfl) (I (I rfl rfl) (I rfl (I (E rfl fun _ => rfl) (E rfl fun _ => rfl)))))))))))))))
theorem stepP_steps (code : List Int) (inp : Inp) (s : PS) : (stepP code inp s).steps ≤ s.steps + 1 := by
  unfold stepP
  refine ite_ind (p := fun t : PS => t.steps ≤ s.steps + 1) (fun _ => Nat.le_succ _) fun _ => elim_ind (p := fun t : PS => t.steps ≤ s.steps + 1) (fun _ => Nat.le_succ _) fun w _ => ?_
  refine ite_ind (p := fun t : PS => t.steps ≤ s.steps + 1) (fun _ => ?_) fun _ => Nat.le_refl _
  rw [doP_steps]
  exact Nat.le_refl _
end Go.Ma
namespace Go.Ma
open Go
theorem wrap_U {n : Int} (h : U n) : IntKind.u32.wrap n = n := by rw [IntKind.wrap_u32]; unfold U at h; omega
theorem ofInt_toNat {n : Int} (h : U n) : (BitVec.ofInt 32 n).toNat = n.toNat := by
  rw [BitVec.toNat_ofInt]
  unfold U at h
  omega
theorem andW_mask {n : Int} (h : U n) (k : Nat) (hk : k ≤ 32) : andW n (2 ^ k - 1) = n % 2 ^ k := by
  have hu : U (2 ^ k - 1 : Int) := by
    have h1 : (2 : Nat) ^ k ≤ 2 ^ 32 := Nat.pow_le_pow_right (by decide) hk
    have h2 : 0 < (2 : Nat) ^ k := Nat.pow_pos (by decide)
    have h3 : ((2 : Nat) ^ k : Int) = (2 : Int) ^ k := by norm_cast
    unfold U
    rw [← h3]
    constructor <;> omega
  unfold andW
  rw [BitVec.toNat_and, ofInt_toNat h, ofInt_toNat hu]
  have h2 : 0 < (2 : Nat) ^ k := Nat.pow_pos (by decide)
  have h3 : ((2 : Nat) ^ k : Int) = (2 : Int) ^ k := by norm_cast
  have e : (2 ^ k - 1 : Int).toNat = 2 ^ k - 1 := by rw [← h3]; omega
  rw [e, Nat.and_two_pow_sub_one_eq_mod]
  have hn : (n.toNat : Int) = n := Int.toNat_of_nonneg h.1
  rw [Int.natCast_emod, hn]
  simp
theorem andW_15 {n : Int} (h : U n) : andW n 15 = n % 16 := andW_mask h 4 (by decide)
theorem andW_65535 {n : Int} (h : U n) : andW n 65535 = n % 65536 := andW_mask h 16 (by decide)
theorem orW_lui {x c : Int} (hx : 0 ≤ x ∧ x < 65536) (hc : 0 ≤ c ∧ c < 65536) : orW x (c * 65536) = x + c * 65536 := by
  have hu1 : U x := ⟨hx.1, by omega⟩
  have hu2 : U (c * 65536) := ⟨by omega, by omega⟩
  unfold orW
  rw [BitVec.toNat_or, ofInt_toNat hu1, ofInt_toNat hu2]
  have e : (c * 65536).toNat = 2 ^ 16 * c.toNat := by omega
  rw [e, Nat.or_comm, ← Nat.two_pow_add_eq_or_of_lt (by omega : x.toNat < 2 ^ 16)]
  omega
/-! ### bit by bit -/
def bitsP (a : Int) : List Int := (List.range 32).map fun i => a / 2 ^ i % 2
def valP : List Int → Int
  | [] => 0
  | b :: l => b + 2 * valP l
def bitF (op p q : Int) : Int := if (p + q = 2 ∧ op ≠ 11) ∨ (p + q = 1 ∧ op ≠ 9) then 1 else 0
theorem val_bits : ∀ (k n : Nat), n < 2 ^ k → valP ((List.range k).map fun i => ((n / 2 ^ i % 2 : Nat) : Int)) = n
  | 0, n, h => by simp at h; subst h; rfl
  | k + 1, n, h => by
    rw [List.range_succ_eq_map, List.map_cons, List.map_map, valP]
    have ih := val_bits k (n / 2) (by rw [Nat.pow_succ] at h; omega)
    have e : (List.range k).map ((fun i => ((n / 2 ^ i % 2 : Nat) : Int)) ∘ Nat.succ) = (List.range k).map fun i => ((n / 2 / 2 ^ i % 2 : Nat) : Int) := by
      refine List.map_congr_left fun i _ => ?_
      simp only [Function.comp, Nat.succ_eq_add_one, Nat.pow_succ, Nat.div_div_eq_div_mul, Nat.mul_comm]
    rw [e, ih]
    simp
    omega
theorem bit_test (n i : Nat) : ((n / 2 ^ i % 2 : Nat) : Int) = if n.testBit i then 1 else 0 := by
  rw [← Nat.toNat_testBit]
  cases n.testBit i <;> rfl
theorem bits_nat {a : Int} (h : U a) : bitsP a = (List.range 32).map fun i => ((a.toNat / 2 ^ i % 2 : Nat) : Int) := by
  unfold bitsP
  refine List.map_congr_left fun i _ => ?_
  have ha : (a.toNat : Int) = a := Int.toNat_of_nonneg h.1
  rw [Int.natCast_emod, Int.natCast_ediv, ha]
  simp
theorem zip_map {α : Type} (f g : α → Int) (h : Int → Int → Int) : ∀ l : List α, List.zipWith h (l.map f) (l.map g) = l.map fun x => h (f x) (g x)
  | [] => rfl
  | x :: l => by simp [zip_map f g h l]
theorem val_bit {n : Nat} {f : Nat → Int} (hn : n < 2 ^ 32) (h : ∀ i, f i = if n.testBit i then 1 else 0) : valP ((List.range 32).map f) = n := by
  rw [← val_bits 32 n hn]
  congr 1
  exact List.map_congr_left fun i _ => by rw [h, bit_test]
theorem both_val {op a b : Int} (ha : U a) (hb : U b) (h : op = 9 ∨ op = 10 ∨ op = 11) : valP (List.zipWith (bitF op) (bitsP a) (bitsP b)) = if op = 9 then andW a b else if op = 10 then orW a b else xorW a b := by
  rw [bits_nat ha, bits_nat hb, zip_map]
  have h1 : a.toNat < 2 ^ 32 := by unfold U at ha; omega
  have h2 : b.toNat < 2 ^ 32 := by unfold U at hb; omega
  rcases h with rfl | rfl | rfl
  · simp only [if_true]
    unfold andW
    rw [BitVec.toNat_and, ofInt_toNat ha, ofInt_toNat hb]
    refine val_bit (Nat.lt_of_le_of_lt Nat.and_le_left h1) fun i => ?_
    rw [bit_test, bit_test, Nat.testBit_and]
    cases a.toNat.testBit i <;> cases b.toNat.testBit i <;> decide
  · simp only [show ((10 : Int) = 9) = False from by decide, if_false, if_true]
    unfold orW
    rw [BitVec.toNat_or, ofInt_toNat ha, ofInt_toNat hb]
    refine val_bit (Nat.or_lt_two_pow h1 h2) fun i => ?_
    rw [bit_test, bit_test, Nat.testBit_or]
    cases a.toNat.testBit i <;> cases b.toNat.testBit i <;> decide
  · simp only [show ((11 : Int) = 9) = False from by decide, show ((11 : Int) = 10) = False from by decide, if_false]
    unfold xorW
    rw [BitVec.toNat_xor, ofInt_toNat ha, ofInt_toNat hb]
    refine val_bit (Nat.xor_lt_two_pow h1 h2) fun i => ?_
    rw [bit_test, bit_test, Nat.testBit_xor]
    cases a.toNat.testBit i <;> cases b.toNat.testBit i <;> decide
/-! ### shifted, one place at a time -/
def shlF (a : Int) : Nat → Int
  | 0 => a
  | k + 1 => 2 * shlF a k % 4294967296
theorem shlF_eq {a : Int} (h : U a) : ∀ k : Nat, shlF a k = a * 2 ^ k % 4294967296
  | 0 => by unfold U at h; simp [shlF]; omega
  | k + 1 => by
    rw [shlF, shlF_eq h k, Int.pow_succ, ← Int.mul_assoc]
    omega
theorem shlF_U {a : Int} (h : U a) (k : Nat) : U (shlF a k) := by rw [shlF_eq h]; exact U.mod _
end Go.Ma
