/- forward.forwarded as a known function. No walk here. -/
import Derived.Test.YtmfhdhiaokejdaaFw6
namespace Go.Proofs.Ytmfhdhiaokejdaa
open Go Go.Ab
set_option linter.unusedSimpArgs false
set_option linter.unusedVariables false
def Tac.okRB (t : Tac) (n : Nat) : Bool := t.uses.all (fun x => decide (0 ≤ x) && decide (x < n)) && (decide (t.sets < 0) || decide (t.sets < n))
def Blk.okRB (b : Blk) (n : Nat) : Bool := b.ins.all (fun t => t.okRB n) && (!(b.en == 2) || (decide (0 ≤ b.v) && decide (b.v < n)))
theorem Tac.okRB_iff (t : Tac) (n : Nat) : t.okRB n = true ↔ t.okR n := by
  unfold Tac.okRB Tac.okR
  simp only [Bool.and_eq_true, List.all_eq_true, decide_eq_true_eq, Bool.or_eq_true]
  constructor
  · rintro ⟨h1, h2⟩; exact ⟨h1, fun h => by omega⟩
  · rintro ⟨h1, h2⟩; exact ⟨h1, by omega⟩
theorem Blk.okRB_iff (b : Blk) (n : Nat) : b.okRB n = true ↔ b.okR n := by
  unfold Blk.okRB
  simp only [Bool.and_eq_true, List.all_eq_true, Bool.or_eq_true, Bool.not_eq_true', decide_eq_true_eq]
  constructor
  · rintro ⟨h1, h2⟩
    refine ⟨fun t ht => (Tac.okRB_iff t n).1 (h1 t ht), fun he => ?_⟩
    rcases h2 with h2 | h2
    · simp [he] at h2
    · exact h2
  · rintro ⟨h1, h2⟩
    refine ⟨fun t ht => (Tac.okRB_iff t n).2 (h1 t ht), ?_⟩
    by_cases he : b.en = 2
    · exact .inr (h2 he)
    · left; simpa using he
def decTac : List AV → Option Tac
  | [.sc (.int .i64 op), .sc (.int .i64 d), .sc (.int .i64 a), .sc (.int .i64 b), .sc (.int .i64 k), .sc (.int .i64 base), .sc (.int .i64 size), .sc (.int .u32 n)] => some ⟨op, d, a, b, k, base, size, n⟩
  | _ => none
def decTacs : List (List AV) → Option (List Tac)
  | [] => some []
  | r :: rs => match decTac r, decTacs rs with
    | some t, some ts => some (t :: ts)
    | _, _ => none
theorem decTac_row (t : Tac) : decTac t.row = some t := rfl
theorem decTacs_rows (l : List Tac) : decTacs (l.map Tac.row) = some l := by
  induction l with
  | nil => rfl
  | cons t ts ih => simp only [List.map_cons, decTacs, decTac_row, ih]
theorem decTac_inv {r : List AV} {t : Tac} (h : decTac r = some t) : r = t.row := by
  unfold decTac at h
  split at h
  · cases h; rfl
  · cases h
theorem decTacs_inv : ∀ {rows : List (List AV)} {l : List Tac}, decTacs rows = some l → rows = l.map Tac.row
  | [], l, h => by simp only [decTacs, Option.some.injEq] at h; subst h; rfl
  | r :: rs, l, h => by
    simp only [decTacs] at h
    split at h
    · rename_i t ts h1 h2
      cases h
      rw [decTac_inv h1, decTacs_inv h2]; rfl
    · cases h
def fwdO : List AV → Option (List AV)
  | [.agg [.sl false 8 rows, .sc (.int .i64 en), .sc (.int .i64 v), .sc (.int .i64 to), .sc (.int .i64 el)], .sc (.int .i64 regs)] => match decTacs rows with
    | some ins => if decide (0 ≤ regs) && decide (regs ≤ 4000) && decide (ins.length ≤ 100000) && (Blk.mk ins en v to el).okRB regs.toNat then
        some [.agg [.vec 8 ((fwdBlk regs ⟨ins, en, v, to, el⟩).ins.map Tac.row), iv en, iv (fwdBlk regs ⟨ins, en, v, to, el⟩).v, iv to, iv el]] else none
    | none => none
  | _ => none
def E31 : Cfg := ⟨fun t => t == 40 || t == 47, fun f => f == 35 || f == 29 || f == 37 || f == 38⟩
def X31 : Orc := ⟨fun f args => if f = 22 then fwdO args else none, fun _ _ _ _ _ => none⟩
theorem fwdO_ok {args rs : List AV} (h : fwdO args = some rs) : ∃ (b : Blk) (n : Nat), n ≤ 4000 ∧ b.ins.length ≤ 100000 ∧ b.okR n ∧ args = [.agg b.row, iv n] ∧ rs = [.agg [.vec 8 ((fwdBlk n b).ins.map Tac.row), iv b.en, iv (fwdBlk n b).v, iv b.to, iv b.el]] := by
  unfold fwdO at h
  split at h
  · rename_i rows en v to el regs
    split at h
    · rename_i ins hd
      split at h
      · rename_i hc
        simp only [Bool.and_eq_true, decide_eq_true_eq] at hc
        obtain ⟨⟨⟨h1, h2⟩, h3⟩, h4⟩ := hc
        have e : ((regs.toNat : Nat) : Int) = regs := Int.toNat_of_nonneg h1
        refine ⟨⟨ins, en, v, to, el⟩, regs.toNat, by omega, h3, (Blk.okRB_iff _ _).1 h4, ?_, ?_⟩
        · rw [decTacs_inv hd, e]; rfl
        · rw [e]; exact (Option.some.inj h).symm
      · cases h
    · cases h
  · cases h
theorem X31_ok : OrcOk Try.prog X31 := by
  refine ⟨fun f args rs h hok I w us hI ha => ?_, fun k d f args hp v hp' h => by simp [X31] at h⟩
  simp only [X31] at h
  split at h
  · rename_i hf
    subst hf
    obtain ⟨b, n, hn, hlen, hb, rfl, rfl⟩ := fwdO_ok h
    exact callT Try.func22 rfl bodyOk_22 rfl (fun K B => t22 rfl K B b n hn hlen hb) hI ha
  · cases h
theorem fwd_dat (b : Blk) (n : Nat) (hn : n ≤ 4000) (hlen : b.ins.length ≤ 100000) (hb : b.okR n) : (lim Try.prog E31 X31).dat 22 [.agg b.row, iv n] = some [.agg [.vec 8 ((fwdBlk n b).ins.map Tac.row), iv b.en, iv (fwdBlk n b).v, iv b.to, iv b.el]] := by
  refine lim_dat.2 ⟨0, ?_⟩
  show X31.dat 22 _ = _
  have h4 := (Blk.okRB_iff b n).2 hb
  have e1 : decide ((n : Int) ≤ 4000) = true := by simp; omega
  have e2 : decide (b.ins.length ≤ 100000) = true := by simpa using hlen
  simp only [X31, if_true, fwdO, Blk.row, decTacs_rows]
  rw [if_pos]
  simp only [e1, e2, Int.toNat_natCast, h4, Bool.and_true, decide_eq_true_eq]
  omega
end Go.Proofs.Ytmfhdhiaokejdaa
