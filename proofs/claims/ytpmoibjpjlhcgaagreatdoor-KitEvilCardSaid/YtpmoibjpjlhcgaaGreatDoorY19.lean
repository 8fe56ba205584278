/- A part of the proof: F10. -/
import Derived.KernelRfl
import Derived.Test.YtpmoibjpjlhcgaaGreatDoorProg
import Derived.Test.YtpmoibjpjlhcgaaGreatDoorY09
set_option linter.unusedSimpArgs false
set_option linter.unusedVariables false
namespace Go.Proofs.YtpmoibjpjlhcgaaGreatDoor
open Go Go.Ab
@[simp] theorem okFn_4 :okFn Tryz.prog 4=true:=by kernel_rfl
@[simp] theorem Pp :rtys Tryz.prog 4=[4]:=by kernel_rfl
@[simp] theorem Nd :Ad Tryz.f4=true:=by kernel_rfl
@[simp] theorem rtys_11 :rtys Tryz.prog 11=[29]:=by kernel_rfl
@[simp] theorem Dua :Ad Tryz.f11=true:=by kernel_rfl
@[simp] theorem rtys_30 :rtys Tryz.prog 30=[4]:=by kernel_rfl
@[simp] theorem Dna :Ad Tryz.f30=true:=by kernel_rfl
@[simp] theorem rtys_57 :rtys Tryz.prog 57=[58,30]:=by kernel_rfl
@[simp] theorem Dca :Ad Tryz.f57=true:=by kernel_rfl
@[simp] theorem rtys_58 :rtys Tryz.prog 58=[88]:=by kernel_rfl
@[simp] theorem Dba :Ad Tryz.f58=true:=by kernel_rfl
@[simp] theorem rtys_92 :rtys Tryz.prog 92=[23]:=by kernel_rfl
@[simp] theorem Csa :Ad Tryz.f92=true:=by kernel_rfl
@[simp] theorem rtys_93 :rtys Tryz.prog 93=[186]:=by kernel_rfl
@[simp] theorem Cra :Ad Tryz.f93=true:=by kernel_rfl
@[simp] theorem rtys_94 :rtys Tryz.prog 94=[186]:=by kernel_rfl
@[simp] theorem Cqa :Ad Tryz.f94=true:=by kernel_rfl
@[simp] theorem jF10_0 :okFn Tryz.prog 10=true/\ptys Tryz.prog 10=[]/\rtys Tryz.prog 10=[4]/\Aj Tryz.prog 10=true/\okFn Tryz.prog 11=true/\ptys Tryz.prog 11=[9,9]/\Aj Tryz.prog 11=false/\okFn Tryz.prog 57=true/\ptys Tryz.prog 57=[9]/\Aj Tryz.prog 57=false/\okFn Tryz.prog 58=true/\ptys Tryz.prog 58=[58,9,3]/\Aj Tryz.prog 58=true/\okFn Tryz.prog 92=true/\ptys Tryz.prog 92=[9,3]/\Aj Tryz.prog 92=true/\okFn Tryz.prog 93=true/\ptys Tryz.prog 93=[58,9,186,3]/\Aj Tryz.prog 93=false/\okFn Tryz.prog 94=true/\ptys Tryz.prog 94=[58]/\Aj Tryz.prog 94=false/\okFn Tryz.prog 97=true/\ptys Tryz.prog 97=[118]:=by repeat' (first|(with_reducible apply And.intro)|kernel_rfl)
@[simp] theorem rtys_97 :rtys Tryz.prog 97=[4]:=by kernel_rfl
@[simp] theorem Cpa :Ad Tryz.f97=true:=by kernel_rfl
@[simp] theorem Fwa :rtys Tryz.prog 130=[186,27]:=by kernel_rfl
@[simp] theorem X0 :Ad Tryz.f130=true:=by kernel_rfl
@[simp] theorem Fva :rtys Tryz.prog 133=[9]:=by kernel_rfl
@[simp] theorem Xz :Ad Tryz.f133=true:=by kernel_rfl
@[simp] theorem Fua :rtys Tryz.prog 135=[4]:=by kernel_rfl
@[simp] theorem Xy :Ad Tryz.f135=true:=by kernel_rfl
@[simp] theorem Faa :rtys Tryz.prog 204=[169,266]:=by kernel_rfl
@[simp] theorem We :Ad Tryz.f204=true:=by kernel_rfl
@[simp] theorem A4 :Ad Tryz.f205=true:=by kernel_rfl
@[simp] theorem E3a :rtys Tryz.prog 257=[118,30]:=by kernel_rfl
@[simp] theorem Vt :Ad Tryz.f257=true:=by kernel_rfl
@[simp] theorem Ck :Ad Tryz.f258=true:=by kernel_rfl
@[simp] theorem jF10_1 :Aj Tryz.prog 97=true/\okFn Tryz.prog 130=true/\ptys Tryz.prog 130=[58,9,186,3]/\Aj Tryz.prog 130=false/\okFn Tryz.prog 133=true/\ptys Tryz.prog 133=[3]/\Aj Tryz.prog 133=true/\okFn Tryz.prog 134=true/\ptys Tryz.prog 134=[9,5]/\rtys Tryz.prog 134=[4]/\Aj Tryz.prog 134=true/\okFn Tryz.prog 135=true/\ptys Tryz.prog 135=[4,3,3]/\Aj Tryz.prog 135=true/\okFn Tryz.prog 204=true/\ptys Tryz.prog 204=[58]/\Aj Tryz.prog 204=false/\okFn Tryz.prog 205=true/\okFn Tryz.prog 257=true/\ptys Tryz.prog 257=[23]/\Aj Tryz.prog 257=true/\okFn Tryz.prog 258=true/\okFn Tryz.prog 259=true/\ptys Tryz.prog 259=[41,23,3]:=by repeat' (first|(with_reducible apply And.intro)|kernel_rfl)
@[simp] theorem E2a :rtys Tryz.prog 259=[23,4]:=by kernel_rfl
@[simp] theorem Vs :Ad Tryz.f259=true:=by kernel_rfl
@[simp] theorem Vr :Ad Tryz.f260=true:=by kernel_rfl
@[simp] theorem L9 :rtys Tryz.prog 261=[23,30]:=by kernel_rfl
@[simp] theorem Hr :Ad Tryz.f261=true:=by kernel_rfl
@[simp] theorem Eya :rtys Tryz.prog 297=[23]:=by kernel_rfl
@[simp] theorem Vl :Ad Tryz.f297=true:=by kernel_rfl
@[simp] theorem Exa :rtys Tryz.prog 298=[23]:=by kernel_rfl
@[simp] theorem Vk :Ad Tryz.f298=true:=by kernel_rfl
@[simp] theorem jF10_2 :Aj Tryz.prog 259=true/\okFn Tryz.prog 260=true/\okFn Tryz.prog 261=true/\ptys Tryz.prog 261=[3,23,23]/\Aj Tryz.prog 261=true/\okFn Tryz.prog 297=true/\ptys Tryz.prog 297=[3,23,23]/\Aj Tryz.prog 297=true/\okFn Tryz.prog 298=true/\ptys Tryz.prog 298=[4]/\Aj Tryz.prog 298=true/\Tryz.prog.cellsOf 184=16/\isAggB Tryz.prog 184=true/\At Tryz.prog 184=some (16,23)/\Tryz.prog.cellsOf 186=22/\isAggB Tryz.prog 186=true/\At Tryz.prog 186=none/\A9 Tryz.prog 186=true/\tcs Tryz.prog 186=[3,23,23,23,23,23,23,23,23,23,23,23,23,23,23,23,23,41,3,9,3,3]/\flds Tryz.prog 186=[(0,1,3),(1,16,184),(17,1,41),(18,1,3),(19,1,9),(20,1,3),(21,1,3)]/\zeros Tryz.prog 186=some [Value.int IntKind.i64 0,Value.int IntKind.u32 0,Value.int IntKind.u32 0,Value.int IntKind.u32 0,Value.int IntKind.u32 0,Value.int IntKind.u32 0,Value.int IntKind.u32 0,Value.int IntKind.u32 0,Value.int IntKind.u32 0,Value.int IntKind.u32 0,Value.int IntKind.u32 0,Value.int IntKind.u32 0,Value.int IntKind.u32 0,Value.int IntKind.u32 0,Value.int IntKind.u32 0,Value.int IntKind.u32 0,Value.int IntKind.u32 0,Value.slice none 0 0,Value.int IntKind.i64 0,Value.string {data:={toList:=[]}},Value.int IntKind.i64 0,Value.int IntKind.i64 0]/\(Tryz.prog.info? 186).isSome=true/\Tryz.prog.cellsOf 266=1/\slel Tryz.prog 266=some 4:=by repeat' (first|(with_reducible apply And.intro)|kernel_rfl)
@[simp] theorem jF10_3 :isAggB Tryz.prog 266=false/\tcs Tryz.prog 266=[266]/\Tryz.prog.cellsOf 331=28/\At Tryz.prog 331=none/\A9 Tryz.prog 331=true/\tcs Tryz.prog 331=[3,23,23,23,23,23,23,23,23,23,23,23,23,23,23,23,23,41,3,9,3,3,73,169,266,41,9,27]/\flds Tryz.prog 331=[(0,22,186),(22,1,73),(23,1,169),(24,1,266),(25,1,41),(26,1,9),(27,1,27)]/\zeros Tryz.prog 331=some [Value.int IntKind.i64 0,Value.int IntKind.u32 0,Value.int IntKind.u32 0,Value.int IntKind.u32 0,Value.int IntKind.u32 0,Value.int IntKind.u32 0,Value.int IntKind.u32 0,Value.int IntKind.u32 0,Value.int IntKind.u32 0,Value.int IntKind.u32 0,Value.int IntKind.u32 0,Value.int IntKind.u32 0,Value.int IntKind.u32 0,Value.int IntKind.u32 0,Value.int IntKind.u32 0,Value.int IntKind.u32 0,Value.int IntKind.u32 0,Value.slice none 0 0,Value.int IntKind.i64 0,Value.string {data:={toList:=[]}},Value.int IntKind.i64 0,Value.int IntKind.i64 0,Value.slice none 0 0,Value.slice none 0 0,Value.slice none 0 0,Value.slice none 0 0,Value.string {data:={toList:=[]}},Value.slice none 0 0]/\(Tryz.prog.info? 331).isSome=true:=by repeat' (first|(with_reducible apply And.intro)|kernel_rfl)
end Go.Proofs.YtpmoibjpjlhcgaaGreatDoor
