/- A part of the proof: F16, Rh. -/
import Derived.KernelRfl
import Derived.Test.YtpedpkegmalgmaaGreatDoorZ05
import Derived.Test.YtpedpkegmalgmaaGreatDoorZ02
import Derived.Test.YtpedpkegmalgmaaGreatDoorZ04
set_option linter.unusedSimpArgs false
set_option linter.unusedVariables false
namespace Go.Proofs.YtpedpkegmalgmaaGreatDoor
section
open Go Go.Ab
@[simp] theorem okFn_4 :okFn Tryz.prog 4=true:=by kernel_rfl
@[simp] theorem rtys_4 :rtys Tryz.prog 4=[4]:=by kernel_rfl
@[simp] theorem bodyOk_4 :bodyOk Tryz.f4=true:=by kernel_rfl
@[simp] theorem rtys_8 :rtys Tryz.prog 8=[4]:=by kernel_rfl
@[simp] theorem bodyOk_8 :bodyOk Tryz.f8=true:=by kernel_rfl
@[simp] theorem rtys_9 :rtys Tryz.prog 9=[3]:=by kernel_rfl
@[simp] theorem bodyOk_9 :bodyOk Tryz.f9=true:=by kernel_rfl
@[simp] theorem rtys_10 :rtys Tryz.prog 10=[38]:=by kernel_rfl
@[simp] theorem bodyOk_10 :bodyOk Tryz.f10=true:=by kernel_rfl
@[simp] theorem rtys_16 :rtys Tryz.prog 16=[4]:=by kernel_rfl
@[simp] theorem bodyOk_16 :bodyOk Tryz.f16=true:=by kernel_rfl
@[simp] theorem rtys_17 :rtys Tryz.prog 17=[4]:=by kernel_rfl
@[simp] theorem bodyOk_17 :bodyOk Tryz.f17=true:=by kernel_rfl
@[simp] theorem rtys_18 :rtys Tryz.prog 18=[4]:=by kernel_rfl
@[simp] theorem bodyOk_18 :bodyOk Tryz.f18=true:=by kernel_rfl
@[simp] theorem bodyOk_19 :bodyOk Tryz.f19=true:=by kernel_rfl
@[simp] theorem bodyOk_20 :bodyOk Tryz.f20=true:=by kernel_rfl
@[simp] theorem bodyOk_21 :bodyOk Tryz.f21=true:=by kernel_rfl
@[simp] theorem okFn_22 :okFn Tryz.prog 22=true:=by kernel_rfl
@[simp] theorem bodyOk_22 :bodyOk Tryz.f22=true:=by kernel_rfl
@[simp] theorem rtys_23 :rtys Tryz.prog 23=[24]:=by kernel_rfl
@[simp] theorem jF16_0 :okFn Tryz.prog 8=true∧ptys Tryz.prog 8=[48]∧flatF Tryz.prog 8=true∧okFn Tryz.prog 9=true∧ptys Tryz.prog 9=[46,32]∧flatF Tryz.prog 9=true∧okFn Tryz.prog 10=true∧ptys Tryz.prog 10=[36,44,46,3]∧flatF Tryz.prog 10=true∧okFn Tryz.prog 16=true∧ptys Tryz.prog 16=[32]∧flatF Tryz.prog 16=true∧okFn Tryz.prog 17=true∧ptys Tryz.prog 17=[44,3,3]∧flatF Tryz.prog 17=true∧okFn Tryz.prog 18=true∧ptys Tryz.prog 18=[44]∧flatF Tryz.prog 18=true∧okFn Tryz.prog 19=true∧okFn Tryz.prog 20=true∧okFn Tryz.prog 21=true∧okFn Tryz.prog 23=true∧ptys Tryz.prog 23=[34]∧flatF Tryz.prog 23=true:=Zh
@[simp] theorem bodyOk_23 :bodyOk Tryz.f23=true:=by kernel_rfl
@[simp] theorem bodyOk_24 :bodyOk Tryz.f24=true:=by kernel_rfl
@[simp] theorem bodyOk_25 :bodyOk Tryz.f25=true:=by kernel_rfl
@[simp] theorem rtys_39 :rtys Tryz.prog 39=[29]:=by kernel_rfl
@[simp] theorem bodyOk_39 :bodyOk Tryz.f39=true:=by kernel_rfl
@[simp] theorem rtys_40 :rtys Tryz.prog 40=[4]:=by kernel_rfl
@[simp] theorem bodyOk_40 :bodyOk Tryz.f40=true:=by kernel_rfl
@[simp] theorem rtys_42 :rtys Tryz.prog 42=[38]:=by kernel_rfl
@[simp] theorem bodyOk_42 :bodyOk Tryz.f42=true:=by kernel_rfl
@[simp] theorem rtys_43 :rtys Tryz.prog 43=[4]:=by kernel_rfl
@[simp] theorem bodyOk_43 :bodyOk Tryz.f43=true:=by kernel_rfl
@[simp] theorem rtys_59 :rtys Tryz.prog 59=[34]:=by kernel_rfl
@[simp] theorem bodyOk_59 :bodyOk Tryz.f59=true:=by kernel_rfl
@[simp] theorem rtys_60 :rtys Tryz.prog 60=[25]:=by kernel_rfl
@[simp] theorem bodyOk_60 :bodyOk Tryz.f60=true:=by kernel_rfl
@[simp] theorem rtys_69 :rtys Tryz.prog 69=[24]:=by kernel_rfl
@[simp] theorem bodyOk_69 :bodyOk Tryz.f69=true:=by kernel_rfl
@[simp] theorem okFn_70 :okFn Tryz.prog 70=true:=by kernel_rfl
@[simp] theorem bodyOk_70 :bodyOk Tryz.f70=true:=by kernel_rfl
@[simp] theorem jF16_1 :okFn Tryz.prog 24=true∧okFn Tryz.prog 25=true∧okFn Tryz.prog 39=true∧ptys Tryz.prog 39=[44]∧flatF Tryz.prog 39=false∧okFn Tryz.prog 40=true∧ptys Tryz.prog 40=[46]∧flatF Tryz.prog 40=true∧okFn Tryz.prog 42=true∧ptys Tryz.prog 42=[44,34]∧flatF Tryz.prog 42=true∧okFn Tryz.prog 43=true∧ptys Tryz.prog 43=[46,24,32]∧flatF Tryz.prog 43=true∧okFn Tryz.prog 59=true∧ptys Tryz.prog 59=[44]∧flatF Tryz.prog 59=true∧okFn Tryz.prog 60=true∧ptys Tryz.prog 60=[46,24,32]∧flatF Tryz.prog 60=false∧okFn Tryz.prog 69=true∧ptys Tryz.prog 69=[44]∧flatF Tryz.prog 69=true∧okFn Tryz.prog 71=true:=Zh
@[simp] theorem rtys_71 :rtys Tryz.prog 71=[4]:=by kernel_rfl
@[simp] theorem bodyOk_71 :bodyOk Tryz.f71=true:=by kernel_rfl
@[simp] theorem rtys_80 :rtys Tryz.prog 80=[24]:=by kernel_rfl
@[simp] theorem bodyOk_80 :bodyOk Tryz.f80=true:=by kernel_rfl
@[simp] theorem rtys_83 :rtys Tryz.prog 83=[24]:=by kernel_rfl
@[simp] theorem bodyOk_83 :bodyOk Tryz.f83=true:=by kernel_rfl
@[simp] theorem rtys_84 :rtys Tryz.prog 84=[29]:=by kernel_rfl
@[simp] theorem bodyOk_84 :bodyOk Tryz.f84=true:=by kernel_rfl
@[simp] theorem rtys_85 :rtys Tryz.prog 85=[24,4]:=by kernel_rfl
@[simp] theorem bodyOk_85 :bodyOk Tryz.f85=true:=by kernel_rfl
@[simp] theorem rtys_86 :rtys Tryz.prog 86=[4]:=by kernel_rfl
@[simp] theorem bodyOk_86 :bodyOk Tryz.f86=true:=by kernel_rfl
@[simp] theorem rtys_92 :rtys Tryz.prog 92=[3]:=by kernel_rfl
@[simp] theorem bodyOk_92 :bodyOk Tryz.f92=true:=by kernel_rfl
@[simp] theorem rtys_93 :rtys Tryz.prog 93=[121]:=by kernel_rfl
@[simp] theorem bodyOk_93 :bodyOk Tryz.f93=true:=by kernel_rfl
@[simp] theorem jF16_2 :ptys Tryz.prog 71=[24,24,65]∧flatF Tryz.prog 71=true∧okFn Tryz.prog 83=true∧ptys Tryz.prog 83=[29]∧flatF Tryz.prog 83=true∧okFn Tryz.prog 84=true∧ptys Tryz.prog 84=[44]∧flatF Tryz.prog 84=false∧okFn Tryz.prog 85=true∧ptys Tryz.prog 85=[24,63]∧flatF Tryz.prog 85=true∧okFn Tryz.prog 86=true∧ptys Tryz.prog 86=[24,3,3,24,29]∧flatF Tryz.prog 86=true∧okFn Tryz.prog 92=true∧ptys Tryz.prog 92=[3]∧flatF Tryz.prog 92=true∧okFn Tryz.prog 93=true∧ptys Tryz.prog 93=[]∧flatF Tryz.prog 93=false∧okFn Tryz.prog 94=true∧ptys Tryz.prog 94=[24]∧rtys Tryz.prog 94=[25]∧flatF Tryz.prog 94=false:=Zh
@[simp] theorem rtys_95 :rtys Tryz.prog 95=[24]:=by kernel_rfl
@[simp] theorem bodyOk_95 :bodyOk Tryz.f95=true:=by kernel_rfl
@[simp] theorem rtys_96 :rtys Tryz.prog 96=[24]:=by kernel_rfl
@[simp] theorem bodyOk_96 :bodyOk Tryz.f96=true:=by kernel_rfl
@[simp] theorem rtys_104 :rtys Tryz.prog 104=[24]:=by kernel_rfl
@[simp] theorem bodyOk_104 :bodyOk Tryz.f104=true:=by kernel_rfl
@[simp] theorem jF16_3 :okFn Tryz.prog 95=true∧ptys Tryz.prog 95=[145]∧flatF Tryz.prog 95=true∧okFn Tryz.prog 96=true∧ptys Tryz.prog 96=[3]∧flatF Tryz.prog 96=true∧okFn Tryz.prog 104=true∧ptys Tryz.prog 104=[24,3]∧flatF Tryz.prog 104=true∧Tryz.prog.cellsOf 48=45∧isAggB Tryz.prog 48=true∧tcs Tryz.prog 48=[22,22,22,22,22,22,22,22,3,25,9,3,22,22,22,22,9,3,25,9,3,22,22,22,22,9,3,22,22,22,22,25,29,3,32,3,22,22,22,22,32,42,29,3,3]∧flds Tryz.prog 48=[(0,41,36),(41,1,44),(42,2,46),(44,1,3)]∧Tryz.prog.cellsOf 68=1∧isAggB Tryz.prog 68=false∧tcs Tryz.prog 68=[68]∧zeros Tryz.prog 68=some [Value.pointer none]∧(Tryz.prog.info? 68).isSome=true∧Tryz.prog.cellsOf 70=47∧arrOf Tryz.prog 70=none∧bldOk Tryz.prog 70=true∧tcs Tryz.prog 70=[22,22,22,22,22,22,22,22,3,25,9,3,22,22,22,22,9,3,25,9,3,22,22,22,22,9,3,22,22,22,22,25,29,3,32,3,22,22,22,22,32,42,29,3,3,9,9]∧flds Tryz.prog 70=[(0,41,36),(41,1,44),(42,2,46),(44,1,3),(45,1,9),(46,1,9)]∧zeros Tryz.prog 70=some [Value.int IntKind.u32 0,Value.int IntKind.u32 0,Value.int IntKind.u32 0,Value.int IntKind.u32 0,Value.int IntKind.u32 0,Value.int IntKind.u32 0,Value.int IntKind.u32 0,Value.int IntKind.u32 0,Value.int IntKind.i64 0,Value.slice none 0 0,Value.string {data:={toList:=[]}},Value.int IntKind.i64 0,Value.int IntKind.u32 0,Value.int IntKind.u32 0,Value.int IntKind.u32 0,Value.int IntKind.u32 0,Value.string {data:={toList:=[]}},Value.int IntKind.i64 0,Value.slice none 0 0,Value.string {data:={toList:=[]}},Value.int IntKind.i64 0,Value.int IntKind.u32 0,Value.int IntKind.u32 0,Value.int IntKind.u32 0,Value.int IntKind.u32 0,Value.string {data:={toList:=[]}},Value.int IntKind.i64 0,Value.int IntKind.u32 0,Value.int IntKind.u32 0,Value.int IntKind.u32 0,Value.int IntKind.u32 0,Value.slice none 0 0,Value.slice none 0 0,Value.int IntKind.i64 0,Value.slice none 0 0,Value.int IntKind.i64 0,Value.int IntKind.u32 0,Value.int IntKind.u32 0,Value.int IntKind.u32 0,Value.int IntKind.u32 0,Value.slice none 0 0,Value.slice none 0 0,Value.slice none 0 0,Value.int IntKind.i64 0,Value.int IntKind.i64 0,Value.string {data:={toList:=[]}},Value.string {data:={toList:=[]}}]:=Zh
@[simp] theorem jF16_4 :Tryz.prog.cellsOf 71=1∧isAggB Tryz.prog 71=false∧tOk Tryz.prog 71=true∧tcs Tryz.prog 71=[71]∧zok Tryz.prog 71=true∧zeros Tryz.prog 71=some [Value.nilFunc]∧slel Tryz.prog 74=some 71∧Tryz.prog.cellsOf 121=1∧isAggB Tryz.prog 121=false∧tcs Tryz.prog 121=[121]∧zeros Tryz.prog 121=some [Value.nilFunc]∧(Tryz.prog.info? 121).isSome=true∧Tryz.prog.cellsOf 122=1∧isAggB Tryz.prog 122=false∧tcs Tryz.prog 122=[122]∧zeros Tryz.prog 122=some [Value.map none]∧(Tryz.prog.info? 122).isSome=true∧Tryz.prog.cellsOf 123=1∧isAggB Tryz.prog 123=false∧tcs Tryz.prog 123=[123]∧zeros Tryz.prog 123=some [Value.map none]∧(Tryz.prog.info? 123).isSome=true∧Tryz.prog.cellsOf 145=1∧isAggB Tryz.prog 145=false:=Zh
theorem rvs_4 :Tryz.f4.results.toList=[.tmp 2]:=rfl
theorem rvs_8 :Tryz.f8.results.toList=[.tmp 2]:=rfl
theorem rvs_9 :Tryz.f9.results.toList=[.tmp 4]:=rfl
theorem rvs_10 :Tryz.f10.results.toList=[.tmp 8]:=rfl
theorem rvs_16 :Tryz.f16.results.toList=[.tmp 2]:=rfl
theorem rvs_17 :Tryz.f17.results.toList=[.tmp 6]:=rfl
theorem rvs_18 :Tryz.f18.results.toList=[.tmp 2]:=rfl
theorem rvs_19 :Tryz.f19.results.toList=[.tmp 2]:=rfl
theorem rvs_20 :Tryz.f20.results.toList=[.tmp 2]:=rfl
theorem rvs_21 :Tryz.f21.results.toList=[.tmp 2]:=rfl
theorem rvs_22 :Tryz.f22.results.toList=[.tmp 6]:=rfl
theorem rvs_23 :Tryz.f23.results.toList=[.cell 2 24]:=rfl
theorem rvs_24 :Tryz.f24.results.toList=[.tmp 2]:=rfl
theorem rvs_25 :Tryz.f25.results.toList=[.tmp 2]:=rfl
theorem rvs_39 :Tryz.f39.results.toList=[.tmp 2]:=rfl
theorem rvs_40 :Tryz.f40.results.toList=[.tmp 2]:=rfl
theorem rvs_42 :Tryz.f42.results.toList=[.tmp 4]:=rfl
theorem rvs_43 :Tryz.f43.results.toList=[.tmp 6]:=rfl
theorem rvs_59 :Tryz.f59.results.toList=[.cell 2 34]:=rfl
theorem rvs_60 :Tryz.f60.results.toList=[.tmp 6]:=rfl
theorem rvs_69 :Tryz.f69.results.toList=[.cell 2 24]:=rfl
theorem rvs_70 :Tryz.f70.results.toList=[.tmp 6]:=rfl
theorem rvs_71 :Tryz.f71.results.toList=[.tmp 6]:=rfl
theorem rvs_80 :Tryz.f80.results.toList=[.cell 4 24]:=rfl
theorem rvs_83 :Tryz.f83.results.toList=[.cell 2 24]:=rfl
theorem rvs_84 :Tryz.f84.results.toList=[.tmp 2]:=rfl
theorem rvs_85 :Tryz.f85.results.toList=[.cell 4 24,.tmp 5]:=rfl
theorem rvs_86 :Tryz.f86.results.toList=[.tmp 10]:=rfl
theorem rvs_92 :Tryz.f92.results.toList=[.tmp 2]:=rfl
theorem rvs_93 :Tryz.f93.results.toList=[.tmp 0]:=rfl
theorem rvs_95 :Tryz.f95.results.toList=[.cell 2 24]:=rfl
theorem rvs_96 :Tryz.f96.results.toList=[.cell 5 24]:=rfl
theorem rvs_104 :Tryz.f104.results.toList=[.cell 5 24]:=rfl
@[simp] theorem jF16_5 :tcs Tryz.prog 145=[145]∧arrPl Tryz.prog 24=true∧typesOf Tryz.prog 24=[22,22,22,22]:=Zh
end
end Go.Proofs.YtpedpkegmalgmaaGreatDoor
namespace Go.Ab
section
open Go
def oneX (f:Nat)(xs rs:List AV):Orc:=⟨fun g a=>if g==f&&eqAL a xs then some rs else none,fun _ _ _ _ _=>none⟩
def orX (X Y:Orc):Orc:=⟨fun f a=>match X.dat f a with|some r=>some r|none=>Y.dat f a,fun k d f a hp=>match X.hpc k d f a hp with|some r=>some r|none=>Y.hpc k d f a hp⟩
theorem oneX_dat {f g:Nat}{xs rs a r:List AV}(h:(oneX f xs rs).dat g a=some r):g=f∧a=xs∧r=rs:=by
 simp only[oneX] at h
 split at h
 ·rename_i hc
  simp only[Bool.and_eq_true,beq_iff_eq] at hc
  cases h
  exact⟨hc.1,eqAL_ok _ _ hc.2,rfl⟩
 ·cases h
theorem orX_ok {P:Program}{X Y:Orc}(hx:OrcOk P X)(hy:OrcOk P Y):OrcOk P (orX X Y):=by
 refine⟨fun f a r h=>?_,fun k d f a hp v hp' h=>?_⟩
 ·simp only[orX] at h
  split at h
  ·rename_i e;cases h;exact hx.1 _ _ _ e
  ·exact hy.1 _ _ _ h
 ·simp only[orX] at h
  split at h
  ·rename_i e;cases h;exact hx.2 _ _ _ _ _ _ _ e
  ·exact hy.2 _ _ _ _ _ _ _ h
theorem oneX_ok {P:Program}{f:Nat}{xs rs:List AV}(hs:SemD P f xs rs):OrcOk P (oneX f xs rs):=by
 refine⟨fun g a r h=>?_,fun _ _ _ _ _ _ _ h=>nomatch h⟩
 obtain⟨rfl,rfl,rfl⟩:=oneX_dat h
 exact hs
end
end Go.Ab
