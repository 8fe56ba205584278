/- A part of the proof: F16, Rh. -/
import Derived.KernelRfl
import Derived.Test.YtpedpkegmalgmaaGreatDoorV05
import Derived.Test.YtpedpkegmalgmaaGreatDoorV02
import Derived.Test.YtpedpkegmalgmaaGreatDoorV04
set_option linter.unusedSimpArgs false
set_option linter.unusedVariables false
namespace Go.Proofs.YtpedpkegmalgmaaGreatDoor
section
open Go Go.Ab
@[simp] theorem rtys_60 :rtys Tryz.prog 60=[25]:=by kernel_rfl
@[simp] theorem bodyOk_60 :bodyOk Tryz.f60=true:=by kernel_rfl
@[simp] theorem okFn_70 :okFn Tryz.prog 70=true:=by kernel_rfl
@[simp] theorem bodyOk_70 :bodyOk Tryz.f70=true:=by kernel_rfl
@[simp] theorem rtys_80 :rtys Tryz.prog 80=[24]:=by kernel_rfl
@[simp] theorem bodyOk_80 :bodyOk Tryz.f80=true:=by kernel_rfl
@[simp] theorem rtys_104 :rtys Tryz.prog 104=[24]:=by kernel_rfl
@[simp] theorem bodyOk_104 :bodyOk Tryz.f104=true:=by kernel_rfl
theorem rvs_60 :Tryz.f60.results.toList=[.tmp 6]:=rfl
theorem rvs_70 :Tryz.f70.results.toList=[.tmp 6]:=rfl
theorem rvs_80 :Tryz.f80.results.toList=[.cell 4 24]:=rfl
theorem rvs_104 :Tryz.f104.results.toList=[.cell 5 24]:=rfl
@[simp] theorem jF16_0 :okFn Tryz.prog 71=true∧ptys Tryz.prog 71=[24,24,65]∧rtys Tryz.prog 71=[4]∧flatF Tryz.prog 71=true∧Tryz.prog.cellsOf 122=1∧isAggB Tryz.prog 122=false∧tcs Tryz.prog 122=[122]∧zeros Tryz.prog 122=some [Value.map none]∧(Tryz.prog.info? 122).isSome=true∧Tryz.prog.cellsOf 123=1∧isAggB Tryz.prog 123=false∧tcs Tryz.prog 123=[123]∧zeros Tryz.prog 123=some [Value.map none]∧(Tryz.prog.info? 123).isSome=true∧arrPl Tryz.prog 24=true∧typesOf Tryz.prog 24=[22,22,22,22]:=Zh
end
end Go.Proofs.YtpedpkegmalgmaaGreatDoor
namespace Go.Ab
section
open Go
def oneX (f:Nat)(xs rs:List AV):Orc:=⟨fun g a=>if g==f&&eqAL a xs then some rs else none,fun _ _ _ _ _=>none⟩
def orX (X Y:Orc):Orc:=⟨fun f a=>match X.dat f a with|some r=>some r|none=>Y.dat f a,fun k d f a hp=>match X.hpc k d f a hp with|some r=>some r|none=>Y.hpc k d f a hp⟩
theorem oneX_dat {f g:Nat}{xs rs a r:List AV}(h:(oneX f xs rs).dat g a=some r):g=f∧a=xs∧r=rs:=by
 simp only[oneX] at h
 split at h
 ·rename_i hc
  simp only[Bool.and_eq_true,beq_iff_eq] at hc
  cases h
  exact⟨hc.1,eqAL_ok _ _ hc.2,rfl⟩
 ·cases h
theorem orX_ok {P:Program}{X Y:Orc}(hx:OrcOk P X)(hy:OrcOk P Y):OrcOk P (orX X Y):=by
 refine⟨fun f a r h=>?_,fun k d f a hp v hp' h=>?_⟩
 ·simp only[orX] at h
  split at h
  ·rename_i e;cases h;exact hx.1 _ _ _ e
  ·exact hy.1 _ _ _ h
 ·simp only[orX] at h
  split at h
  ·rename_i e;cases h;exact hx.2 _ _ _ _ _ _ _ e
  ·exact hy.2 _ _ _ _ _ _ _ h
theorem oneX_ok {P:Program}{f:Nat}{xs rs:List AV}(hs:SemD P f xs rs):OrcOk P (oneX f xs rs):=by
 refine⟨fun g a r h=>?_,fun _ _ _ _ _ _ _ h=>nomatch h⟩
 obtain⟨rfl,rfl,rfl⟩:=oneX_dat h
 exact hs
end
end Go.Ab
