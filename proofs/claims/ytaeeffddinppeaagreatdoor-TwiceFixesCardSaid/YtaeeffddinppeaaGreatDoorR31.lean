/- A part of the proof: Tp, Tq. -/
import Derived.Test.YtaeeffddinppeaaGreatDoorR29
import Derived.Test.YtaeeffddinppeaaGreatDoorR25
set_option linter.unusedSimpArgs false
set_option linter.unusedVariables false
namespace Go.Proofs.YtaeeffddinppeaaGreatDoor
open Go Go.Ab
attribute [-simp] Prog.bind getCs putCs
attribute [local simp ↓] run_bind
attribute [local simp ↓] runF_bind
attribute [local simp] run_getCsN runF_getCsN facetsC putCs_one run_putCsN runF_putCsN facetsW facetsH
def liOk (n : Nat) : Option (List AV) → Bool
  | some [.sc (.int .u32 w), .sc (.int .i64 0)] => decide (w = 17825792 + (n : Int))
  | _ => false
theorem li_all : (List.range 256).all (fun n => liOk n ((evCall Tryz.prog E47 X47 60).dat 72 [.agg [iv 1, iv 1, iv 0, iv n]])) = true := by kernel_rfl
theorem g72_li (n : Nat) (h : n < 256) : (lim Tryz.prog E47 X47).dat 72 [.agg [iv 1, iv 1, iv 0, iv n]] = some [uv (17825792 + (n : Int)), iv 0] := by
  have h1 := List.all_eq_true.1 li_all n (List.mem_range.2 h)
  generalize hr : (evCall Tryz.prog E47 X47 60).dat 72 [.agg [iv 1, iv 1, iv 0, iv n]] = r at h1
  unfold liOk at h1
  split at h1
  · rename_i w
    obtain rfl : w = 17825792 + (n : Int) := by simpa using h1
    exact lim_dat.2 ⟨60, hr⟩
  · cases h1
theorem g72_put : (lim Tryz.prog E47 X47).dat 72 [.agg [iv 24, iv 1, iv 0, iv 0]] = some [uv 403701760, iv 0] := lim_dat.2 ⟨60, by kernel_rfl⟩
theorem g72_halt : (lim Tryz.prog E47 X47).dat 72 [.agg [iv 26, iv 0, iv 0, iv 0]] = some [uv 436207616, iv 0] := lim_dat.2 ⟨60, by kernel_rfl⟩
def numB (l : List UInt8) : List Int := l.map fun b => (b.toNat : Int)
def prs : List UInt8 → List Int
  | [] => []
  | b :: l => (17825792 + (b.toNat : Int)) :: 403701760 :: prs l
theorem prs_say : ∀ l : List UInt8, prs l ++ [436207616] = Ma.sayC (numB l)
  | [] => rfl
  | b :: l => by show _ :: _ :: (prs l ++ [436207616]) = _ :: _ :: Ma.sayC (numB l); rw [prs_say l]
theorem prs_app : ∀ a b : List UInt8, prs (a ++ b) = prs a ++ prs b
  | [], _ => rfl
  | x :: a, b => by show _ :: _ :: prs (a ++ b) = _ :: _ :: (prs a ++ prs b); rw [prs_app a b]
theorem prs_len : ∀ l : List UInt8, (prs l).length = 2 * l.length
  | [] => rfl
  | b :: l => by simp only [prs, List.length_cons, prs_len l]; omega
theorem prs_take (l : List UInt8) (k : Nat) (h : k < l.length) : prs (l.take (k + 1)) = prs (l.take k) ++ [17825792 + (l[k].toNat : Int), 403701760] := by
  rw [List.take_add_one, List.getElem?_eq_getElem h, prs_app]
  rfl
theorem prs_U (l : List UInt8) : ∀ x ∈ prs l, U x := fun x hx => by
  refine Ma.sayC_U (numB l) ?_ x (by rw [← prs_say]; simp [hx])
  intro y hy
  obtain ⟨b, _, rfl⟩ := List.mem_map.1 hy
  have := b.toNat_lt
  omega
def spk (s : ByteArray) : ByteArray := txtI (prs s.data.toList ++ [436207616]) 0
set_option maxHeartbeats 8000000 in
theorem g48 (s : ByteArray) (hs : s.size ≤ 1000) : (lim Tryz.prog E47 X47).dat 48 [.sc (.string s)] = some [.sc (.string (spk s))] := by
  refine fnW Tryz.func48 rfl rfl bodyOk_48 rfl rtys_48 rfl ?_
  have hput := g72_put
  have hhalt := g72_halt
  refine sgo0 ?_
  refine W_loopS (n := s.size) (fun s0 m q => ∃ k g : Nat, m = s.size - k ∧ k ≤ s.size ∧ q.fr 4 = iv k ∧ q.fr 0 = s0.fr 0 ∧ q.fr 3 = s0.fr 3 ∧ q.hp ⟨0, 3, 0⟩ = .box 1 [.own ⟨0, 3, 1⟩ g (2 * k), iv 0] false ∧ q.hp ⟨0, 3, 1⟩ = .arr g 1 32 (rowW (prs (s.data.toList.take k))) false) ⟨0, 1, by simp, by omega, by simp, by simp, by simp, by simp, by simp [prs]⟩ ?_
  rintro m ⟨fr, hp⟩ ⟨k, g, rfl, hk, hs4, hs0, hs3, hh3, hh31⟩
  simp at hs4 hs0 hs3 hh3 hh31
  have hsl : s.data.toList.length = s.size := rfl
  have hpl : (prs (s.data.toList.take k)).length = 2 * k := by rw [prs_len, List.length_take]; omega
  by_cases hlt : k < s.size
  · have hw := wrapN (k := k) (by omega)
    have hlI : (k : Int) < s.size := by omega
    have hkl : k < s.data.toList.length := hlt
    have hkl' : k < s.data.size := hlt
    have hap := prs_take s.data.toList k hkl
    obtain ⟨x, hx⟩ : ∃ x, s.data.toList[k] = x := ⟨_, rfl⟩
    rw [hx] at hap
    have ga : s.data[k]? = some x := by rw [← Array.getElem?_toList, List.getElem?_eq_getElem hkl, hx]
    have ga' : ∀ h, s.data[k]'h = x := fun h => by rw [← Array.getElem_toList]; exact hx
    have hxl := x.toNat_lt
    have hli := g72_li x.toNat (by omega)
    have hwx : IntKind.i64.wrap (x.toNat : Int) = x.toNat := wrap64 (by omega) (by omega)
    have hap2 : rowW (prs (s.data.toList.take k)) ++ [[uv (17825792 + (x.toNat : Int))], [uv 403701760]] = rowW (prs (s.data.toList.take (k + 1))) := by rw [hap]; simp
    have hn2 : 2 * (k + 1) = 2 * k + 2 := by omega
    have b1 : (2 * k + 2) * 4 ≤ 140737488355328 := by omega
    have b2 : 2 * k ≤ 9223372036854775805 := by omega
    have b3 : 2 * k + 2 ≤ 9223372036854775807 := by omega
    clear hx hap hhalt
    generalize prs (s.data.toList.take k) = PK at *
    generalize hPK1 : prs (s.data.toList.take (k + 1)) = PK1 at *
    repeat' (first | ((with_reducible first | apply Wo_u | apply Wo_n | apply ex2 | apply W_sc | apply W_c | apply Wd_u | apply Wd_n | apply ex4 | apply EndQ_ret | apply EndQ_normal); (conv => lhs; simp -implicitDefEqProofs [*]) <;> exact rfl) | (with_reducible first | apply Wo_nil | apply W_ss | apply W_srl | apply W_rl | apply W_sblock | apply W_block | apply W_sskip | apply W_skip | apply W_sret | apply W_ret | apply W_sexit | apply W_exit | apply thenW_n | apply thenW_r | apply thenW_e | apply inB_n | apply inB_r | apply inB_e) | ((with_reducible apply Wo_gt); (exact rfl); ((conv => lhs; simp -implicitDefEqProofs [*]) <;> exact rfl); (conv => lhs; simp -implicitDefEqProofs [*]) <;> exact rfl) | ((with_reducible apply Wo_gf); (exact rfl); ((conv => lhs; simp -implicitDefEqProofs [*]) <;> exact rfl); (exact rfl)) | ((with_reducible apply Wo_gx); (exact rfl); ((conv => lhs; simp -implicitDefEqProofs [*]) <;> exact rfl)) | ((with_reducible apply Wo_gsT); (exact rfl); ((conv => lhs; simp -implicitDefEqProofs [*]) <;> exact rfl)) | ((with_reducible apply Wo_gsF); (exact rfl); ((conv => lhs; simp -implicitDefEqProofs [*]) <;> exact rfl)) | ((with_reducible apply Wd_gsT); (exact rfl); ((conv => lhs; simp -implicitDefEqProofs [*]) <;> exact rfl)) | ((with_reducible apply Wd_gsF); (exact rfl); ((conv => lhs; simp -implicitDefEqProofs [*]) <;> exact rfl)) | ((with_reducible first | apply W_srdl | apply W_rdl); kernel_rfl) | ((with_reducible apply Wd_nil); kernel_rfl) | ((with_reducible apply inB_o); rotate_left; exact rfl) | (intro h h'; try simp [*, -h] at h') | ((with_reducible apply Wd_gx); (exact rfl); ((conv => lhs; simp -implicitDefEqProofs [*]) <;> exact rfl)))
    all_goals exact ⟨_, by omega, k + 1, g + 1, rfl, hlt, by simp [*], by simp [*], by simp [*], by simp [*], by simp [*]⟩
  · obtain rfl : k = s.size := by omega
    have htk : s.data.toList.take s.size = s.data.toList := List.take_of_length_le (by rw [hsl]; omega)
    rw [htk] at hh31 hpl
    have hni : ¬ (s.size : Int) < s.size := by omega
    have hput73 := d23 (prs s.data.toList ++ [436207616]) 0 (by rw [List.length_append, hpl]; simp; omega) ⟨by decide, by decide⟩ (fun x hx => by
      rcases List.mem_append.1 hx with h | h
      · exact prs_U _ x h
      · simp at h; subst h; exact ⟨by decide, by decide⟩)
    have hap2 : rowW (prs s.data.toList) ++ [[uv 436207616]] = rowW (prs s.data.toList ++ [436207616]) := by simp
    have b1 : (2 * s.size + 1) * 4 ≤ 140737488355328 := by omega
    have b2 : 2 * s.size ≤ 9223372036854775806 := by omega
    have b3 : 2 * s.size + 1 ≤ 9223372036854775807 := by omega
    have hl2 : (prs s.data.toList ++ [436207616]).length = 2 * s.size + 1 := by rw [List.length_append, hpl]; rfl
    have htk2 : (rowW (prs s.data.toList ++ [436207616])).take (2 * s.size + 1) = rowW (prs s.data.toList ++ [436207616]) := List.take_of_length_le (by simp only [List.length_map]; omega)
    have htk3 : (rowW (prs s.data.toList)).take (2 * s.size) = rowW (prs s.data.toList) := List.take_of_length_le (by simp only [List.length_map]; omega)
    clear htk hput
    unfold spk
    generalize txtI (prs s.data.toList ++ [436207616]) 0 = TX at *
    generalize prs s.data.toList ++ [436207616] = PA at *
    generalize prs s.data.toList = PK at *
    exact step0
end Go.Proofs.YtaeeffddinppeaaGreatDoor
namespace Go.Proofs.YtaeeffddinppeaaGreatDoor
open Go Go.Ab
attribute [-simp] Prog.bind getCs putCs
attribute [local simp ↓] run_bind
attribute [local simp ↓] runF_bind
attribute [local simp] run_getCsN runF_getCsN facetsC putCs_one run_putCsN runF_putCsN facetsW facetsH
theorem toB_num : ∀ l : List UInt8, toBytes (numB l) = l
  | [] => rfl
  | b :: l => by
    show UInt8.ofNat _ :: toBytes (numB l) = b :: l
    rw [toB_num l]
    congr 1
    apply UInt8.toNat_inj.1
    have := b.toNat_lt
    simp
theorem outT_num (s : ByteArray) : outT (numB s.data.toList) = s := by
  unfold outT
  rw [toB_num]
theorem spk_size (s : ByteArray) (hs : s.size ≤ 1000) : (spk s).size ≤ 1048576 := by
  unfold spk
  rw [txtI_size, List.length_append, prs_len]
  have : s.data.toList.length = s.size := rfl
  simp
  omega
theorem said (s src : ByteArray) (fuel : Int) (hs : s.size ≤ 1000) (hf : 2 * (s.size : Int) + 1 ≤ fuel) : goodI (spk s) src fuel = some s := by
  have hsl : s.data.toList.length = s.size := rfl
  obtain ⟨h1, h2, h3⟩ := img_txtI (prs s.data.toList ++ [436207616]) 0 (by rw [List.length_append, prs_len]; simp; omega) ⟨by decide, by decide⟩ (fun x hx => by
      rcases List.mem_append.1 hx with h | h
      · exact prs_U _ x h
      · simp at h; subst h; exact ⟨by decide, by decide⟩)
  have hrun := Ma.say_run (inpF src) (numB s.data.toList) (fun y hy => by
    obtain ⟨b, _, rfl⟩ := List.mem_map.1 hy
    have := b.toNat_lt
    omega) [] (startM []) fuel.toNat rfl rfl rfl (by simp [startM, numB]; omega) (by simp [numB]; omega)
  have hst : stI (spk s) src fuel = Ma.runP ([] ++ Ma.sayC (numB s.data.toList)) (inpF src) fuel.toNat (startM []) := by
    unfold stI runI spk
    rw [h2, h3, prs_say]
    rfl
  unfold goodI
  rw [hst]
  unfold endI
  rw [hrun.1, hrun.2, if_pos ⟨h1, by decide⟩]
  show some (outT ([] ++ numB s.data.toList)) = _
  rw [List.nil_append, outT_num]
def Par.rowV (p : Par) : List AV := [iv p.kind, .vec 1 (rowN p.ps), .sc (.string p.img), iv p.fuel, uv p.mark.d0, uv p.mark.d1, uv p.mark.d2, uv p.mark.d3, .sc (.string p.give)]
def plant (src other : ByteArray) : Par := ⟨4, [], ⟨#[]⟩, 0, ofP src, spk other⟩
set_option maxHeartbeats 8000000 in
theorem g21 (src other : ByteArray) (hs : src.size ≤ 1000) (ho : other.size ≤ 1000) : (lim Tryz.prog E47 X47).dat 21 [.sc (.string src), .sc (.string other)] = some [.agg (plant src other).rowV] := by
  refine fnW Tryz.func21 rfl rfl bodyOk_21 rfl rtys_21 rfl ?_
  have h27 := e27 src (by omega)
  have h48 := g48 other ho
  unfold plant
  simp only [Par.rowV, List.map_nil] at h27 h48 ⊢
  generalize ofP src = d at *
  generalize spk other = SP at *
  obtain ⟨d0, d1, d2, d3⟩ := d
  simp only [D4.row] at h27
  clear hs ho
  exact step0
theorem g24p (src o other : ByteArray) (fuel : Int) (hs : src.size ≤ 1000) (ho : o.size ≤ 1000) (ho' : other.size ≤ 1000) (hf : 2 * (o.size : Int) + 1 ≤ fuel) (hf2 : fuel ≤ 1000) : (lim Tryz.prog E47 X47).dat 24 [.sc (.string src), .sc (.string other), .agg (plant src o).row, iv fuel] = some (onceR (some o) other) := by
  refine g24 _ src other fuel (some o) (by omega) (fun x hx => by cases hx; omega) ?_
  rw [← said o src fuel ho hf]
  exact g49 _ src fuel (by omega) (by omega) (spk_size o ho) (g16m _ src rfl rfl (by omega))
theorem g28w : (lim Tryz.prog E47 X47).dat 28 [.agg [iv 8, iv 1, iv 17]] = some [.sc (.string ⟨#[112, 97, 114, 101, 110, 116, 32, 49, 58, 32, 98, 121, 116, 101, 32, 49, 55]⟩)] := lim_dat.2 ⟨200, by kernel_rfl⟩
set_option maxHeartbeats 8000000 in
theorem g20 : (lim Tryz.prog E47 X47).dat 20 [] = some [bv true] := by
  refine fnW Tryz.func20 rfl rfl bodyOk_20 rfl rtys_20 rfl ?_
  have h21 := g21 ⟨#[120]⟩ ⟨#[97, 98]⟩ (by decide) (by decide)
  have h24 := g24p ⟨#[120]⟩ ⟨#[97, 98]⟩ ⟨#[97, 98]⟩ 99 (by decide) (by decide) (by decide) (by decide) (by decide)
  have h24' := g24p ⟨#[120]⟩ ⟨#[97, 98]⟩ ⟨#[97, 99]⟩ 99 (by decide) (by decide) (by decide) (by decide) (by decide)
  have hd : diffB ⟨#[97, 98]⟩ ⟨#[97, 98]⟩ = -1 := by decide
  have hd' : diffB ⟨#[97, 98]⟩ ⟨#[97, 99]⟩ = 1 := by decide
  unfold onceR at h24 h24'
  simp only at h24 h24'
  rw [if_pos hd] at h24
  rw [hd', if_neg (by decide)] at h24'
  have h22 := g22 _ _ _ _ _ _ _ _ _ h24' h24'
  have h28 := g28w
  unfold checkR at h22
  rw [if_pos (by decide)] at h22
  clear h24' hd hd'
  generalize plant ⟨#[120]⟩ ⟨#[97, 98]⟩ = q at *
  obtain ⟨kind, ps, img, qf, ⟨d0, d1, d2, d3⟩, give⟩ := q
  simp only [Par.row, Par.rowV] at *
  generalize rowN ps = PR at *
  exact step0
end Go.Proofs.YtaeeffddinppeaaGreatDoor
