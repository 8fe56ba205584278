/- A part of the proof: F8, Be, Hf, Gx, No, Va. -/
import Derived.KernelRfl
import Derived.Test.YtggghdmdjpianaaGreatDoorProg
import Derived.Test.YtggghdmdjpianaaGreatDoorC00
import Derived.Test.YtggghdmdjpianaaGreatDoorC06
import Derived.Test.YtggghdmdjpianaaGreatDoorC04
set_option linter.unusedSimpArgs false
set_option linter.unusedVariables false
set_option maxRecDepth 200000
set_option maxHeartbeats 8000000
namespace Go.Proofs.YtggghdmdjpianaaGreatDoor
section
open Go Go.Ab
noncomputable abbrev P0 :Program:=Tryz.prog
@[simp] theorem okFn_3 :Il P0 3=true:=Zf
@[simp] theorem rtys_3 :Iv P0 3=[4]:=Zf
@[simp] theorem jF8_0 :Il P0 4=true/\Um P0 4=[]/\Iv P0 4=[4]/\Af P0 4=true/\Il P0 5=true/\Um P0 5=[47]/\Iv P0 5=[32,9,33]/\Af P0 5=false/\Il P0 6=true/\Um P0 6=[9,23]/\Iv P0 6=[37]/\Af P0 6=false/\Il P0 7=true/\Um P0 7=[9]/\Iv P0 7=[42,3,33]/\Af P0 7=false/\Il P0 8=true/\Um P0 8=[42]/\Iv P0 8=[33]/\Af P0 8=true/\Il P0 9=true/\Um P0 9=[]/\Iv P0 9=[32]/\Af P0 9=false:=Zh
@[simp] theorem okFn_11 :Il P0 11=true:=Zf
@[simp] theorem okFn_12 :Il P0 12=true:=Zf
@[simp] theorem okFn_13 :Il P0 13=true:=Zf
@[simp] theorem jF8_1 :Il P0 10=true/\Um P0 10=[32,37]/\Iv P0 10=[32,9,33]/\Af P0 10=false/\Iv P0 11=[50,3,33]/\Iv P0 12=[42]/\Il P0 14=true/\Um P0 14=[42]/\Iv P0 14=[4]/\Af P0 14=true/\Il P0 15=true/\Um P0 15=[42]/\Iv P0 15=[33]/\Af P0 15=true/\Il P0 16=true/\Um P0 16=[42]/\Iv P0 16=[33]/\Af P0 16=true/\Il P0 17=true/\Um P0 17=[]/\Iv P0 17=[63]/\Af P0 17=false/\Il P0 18=true/\Um P0 18=[32,9,23]:=Zh
@[simp] theorem okFn_22 :Il P0 22=true:=Zf
@[simp] theorem Bva :Il P0 23=true:=Zf
@[simp] theorem okFn_24 :Il P0 24=true:=Zf
@[simp] theorem okFn_25 :Il P0 25=true:=Zf
@[simp] theorem KC :Il P0 26=true:=Zf
@[simp] theorem jF8_2 :Iv P0 18=[33]/\Af P0 18=true/\Il P0 20=true/\Um P0 20=[9,3]/\Iv P0 20=[3]/\Af P0 20=true/\Il P0 21=true/\Um P0 21=[9,3]/\Iv P0 21=[75,33]/\Af P0 21=true/\Iv P0 23=[23]/\Iv P0 25=[75]/\Iv P0 26=[85]/\Il P0 27=true/\Um P0 27=[23]/\Iv P0 27=[4]/\Af P0 27=true/\Il P0 28=true/\Um P0 28=[9]/\Iv P0 28=[4]/\Af P0 28=true/\Il P0 29=true/\Um P0 29=[83,3]/\Iv P0 29=[4]:=Zh
@[simp] theorem KB :Il P0 34=true:=Zf
@[simp] theorem KA :Il P0 37=true:=Zf
@[simp] theorem JZ :Il P0 42=true:=Zf
@[simp] theorem JY :Il P0 44=true:=Zf
@[simp] theorem JX :Il P0 45=true:=Zf
@[simp] theorem jF8_3 :Af P0 29=true/\Il P0 30=true/\Um P0 30=[42]/\Iv P0 30=[4]/\Af P0 30=true/\Il P0 31=true/\Um P0 31=[42]/\Iv P0 31=[4]/\Af P0 31=true/\Il P0 32=true/\Um P0 32=[42,83]/\Iv P0 32=[4]/\Af P0 32=true/\Il P0 33=true/\Um P0 33=[42,4,83]/\Iv P0 33=[4]/\Af P0 33=true/\Il P0 54=true/\Um P0 54=[5,9]/\Iv P0 54=[4]/\Af P0 54=true/\Il P0 55=true/\Um P0 55=[5,9]/\Iv P0 55=[23]:=Zh
@[simp] theorem jF8_4 :Af P0 55=false/\Il P0 56=true/\Um P0 56=[32,9]/\Iv P0 56=[9,4]/\Af P0 56=true/\Il P0 57=true/\Um P0 57=[5,9]/\Iv P0 57=[4]/\Af P0 57=true/\Il P0 58=true/\Um P0 58=[9,3,9]/\Iv P0 58=[4]/\Af P0 58=true/\Il P0 59=true/\Um P0 59=[5]/\Iv P0 59=[4]/\Af P0 59=true/\Il P0 60=true/\Um P0 60=[9,3]/\Iv P0 60=[97,3,4]/\Af P0 60=true/\Il P0 61=true/\Um P0 61=[5]/\Iv P0 61=[4]:=Zh
@[simp] theorem okFn_65 :Il P0 65=true:=Zf
@[simp] theorem okFn_66 :Il P0 66=true:=Zf
@[simp] theorem JW :Il P0 67=true:=Zf
@[simp] theorem jF8_5 :Af P0 61=true/\Il P0 62=true/\Um P0 62=[23,9]/\Iv P0 62=[4]/\Af P0 62=true/\Il P0 63=true/\Um P0 63=[]/\Iv P0 63=[23]/\Af P0 63=false/\Il P0 64=true/\Um P0 64=[]/\Iv P0 64=[23]/\Af P0 64=false/\Iv P0 67=[105]/\Il P0 68=true/\Um P0 68=[]/\Iv P0 68=[23]/\Af P0 68=false/\Il P0 69=true/\Um P0 69=[9]/\Iv P0 69=[4]/\Af P0 69=true/\Il P0 70=true/\Um P0 70=[105,3]:=Zh
@[simp] theorem jF8_6 :Iv P0 70=[4]/\Af P0 70=true/\Il P0 71=true/\Um P0 71=[23]/\Iv P0 71=[4]/\Af P0 71=true/\Il P0 72=true/\Um P0 72=[42]/\Iv P0 72=[23]/\Af P0 72=false/\Il P0 73=true/\Um P0 73=[85]/\Iv P0 73=[23]/\Af P0 73=false/\Il P0 74=true/\Um P0 74=[83]/\Iv P0 74=[110]/\Af P0 74=false/\Il P0 75=true/\Um P0 75=[42,3,9]/\Iv P0 75=[3,3]/\Af P0 75=true/\Il P0 76=true/\Um P0 76=[42,9]:=Zh
@[simp] theorem okFn_80 :Il P0 80=true:=Zf
@[simp] theorem okFn_82 :Il P0 82=true:=Zf
@[simp] theorem okFn_87 :Il P0 87=true:=Zf
@[simp] theorem okFn_95 :Il P0 95=true:=Zf
@[simp] theorem jF8_7 :Iv P0 76=[3]/\Af P0 76=true/\Il P0 77=true/\Um P0 77=[42,103]/\Iv P0 77=[4]/\Af P0 77=true/\Il P0 78=true/\Um P0 78=[42,103]/\Iv P0 78=[4]/\Af P0 78=true/\Il P0 79=true/\Um P0 79=[42,103]/\Iv P0 79=[4]/\Af P0 79=true/\Il P0 96=true/\Um P0 96=[3]/\Iv P0 96=[9]/\Af P0 96=true/\Il P0 97=true/\Um P0 97=[9]/\Iv P0 97=[42,3,33]/\Af P0 97=false/\Il P0 98=true/\Um P0 98=[42]:=Zh
@[simp] theorem okFn_120 :Il P0 120=true:=Zf
@[simp] theorem Kl :Il P0 121=true:=Zf
@[simp] theorem jF8_8 :Iv P0 98=[33]/\Af P0 98=true/\Il P0 99=true/\Um P0 99=[42,9,3]/\Iv P0 99=[141]/\Af P0 99=true/\Il P0 100=true/\Um P0 100=[3]/\Iv P0 100=[9]/\Af P0 100=true/\Il P0 116=true/\Um P0 116=[9]/\Iv P0 116=[4]/\Af P0 116=true/\Il P0 117=true/\Um P0 117=[9]/\Iv P0 117=[73,33]/\Af P0 117=true/\Il P0 119=true/\Um P0 119=[23,9]/\Iv P0 119=[3]/\Af P0 119=true/\Iv P0 120=[103]/\Iv P0 121=[186]:=Zh
@[simp] theorem okFn_122 :Il P0 122=true:=Zf
@[simp] theorem okFn_123 :Il P0 123=true:=Zf
@[simp] theorem okFn_129 :Il P0 129=true:=Zf
@[simp] theorem okFn_154 :Il P0 154=true:=Zf
@[simp] theorem G6a :Il P0 155=true:=Zf
@[simp] theorem okFn_156 :Il P0 156=true:=Zf
@[simp] theorem jF8_9 :Iv P0 122=[83]/\Iv P0 123=[103]/\Il P0 124=true/\Um P0 124=[103,3]/\Iv P0 124=[4]/\Af P0 124=true/\Il P0 125=true/\Um P0 125=[23,9]/\Iv P0 125=[3]/\Af P0 125=true/\Il P0 126=true/\Um P0 126=[103]/\Iv P0 126=[110]/\Af P0 126=false/\Il P0 127=true/\Um P0 127=[42,186]/\Iv P0 127=[3]/\Af P0 127=true/\Iv P0 156=[42]/\Il P0 157=true/\Um P0 157=[42]/\Iv P0 157=[4]/\Af P0 157=true/\Il P0 158=true:=Zh
@[simp] theorem G5a :Il P0 162=true:=Zf
@[simp] theorem okFn_187 :Il P0 187=true:=Zf
@[simp] theorem jF8_10 :Um P0 158=[42]/\Iv P0 158=[33]/\Af P0 158=true/\Il P0 159=true/\Um P0 159=[42]/\Iv P0 159=[33]/\Af P0 159=true/\Il P0 160=true/\Um P0 160=[42]/\Iv P0 160=[240]/\Af P0 160=false/\Il P0 163=true/\Um P0 163=[3]/\Iv P0 163=[9]/\Af P0 163=true/\Iv P0 187=[186]/\Il P0 188=true/\Um P0 188=[9]/\Iv P0 188=[3]/\Af P0 188=true/\Il P0 189=true/\Um P0 189=[9,186,186]/\Iv P0 189=[186]/\Af P0 189=false:=Zh
@[simp] theorem okFn_219 :Il P0 219=true:=Zf
@[simp] theorem okFn_220 :Il P0 220=true:=Zf
@[simp] theorem V8 :Il P0 221=true:=Zf
@[simp] theorem okFn_222 :Il P0 222=true:=Zf
@[simp] theorem okFn_223 :Il P0 223=true:=Zf
@[simp] theorem Ol :Il P0 224=true:=Zf
@[simp] theorem jF8_11 :Il P0 190=true/\Um P0 190=[186,3]/\Iv P0 190=[4]/\Af P0 190=true/\Il P0 217=true/\Um P0 217=[9]/\Iv P0 217=[50,3,33]/\Af P0 217=false/\Iv P0 221=[23]/\Iv P0 222=[75]/\Iv P0 224=[85]/\Il P0 225=true/\Um P0 225=[23]/\Iv P0 225=[4]/\Af P0 225=true/\Il P0 226=true/\Um P0 226=[9]/\Iv P0 226=[4]/\Af P0 226=true/\Il P0 227=true/\Um P0 227=[83,3]/\Iv P0 227=[4]/\Af P0 227=true/\Il P0 228=true:=Zh
@[simp] theorem okFn_230 :Il P0 230=true:=Zf
@[simp] theorem okFn_231 :Il P0 231=true:=Zf
@[simp] theorem G4a :Il P0 233=true:=Zf
@[simp] theorem Aya :Bb Tryz.f233=true:=Zf
@[simp] theorem okFn_237 :Il P0 237=true:=Zf
@[simp] theorem jF8_12 :Um P0 228=[42]/\Iv P0 228=[333,4]/\Af P0 228=false/\Il P0 229=true/\Um P0 229=[85]/\Iv P0 229=[333,4]/\Af P0 229=false/\Il P0 232=true/\Um P0 232=[338,9]/\Iv P0 232=[343]/\Af P0 232=true/\Il P0 234=true/\Il P0 235=true/\Il P0 236=true/\Um P0 236=[354,83]/\Iv P0 236=[248]/\Af P0 236=false/\Il P0 238=true/\Um P0 238=[2,3]/\Iv P0 238=[9]/\Af P0 238=true/\Il P0 284=true/\Um P0 284=[9,9]/\Iv P0 284=[4]:=Zh
@[simp] theorem okFn_297 :Il P0 297=true:=Zf
@[simp] theorem okFn_298 :Il P0 298=true:=Zf
@[simp] theorem okFn_299 :Il P0 299=true:=Zf
@[simp] theorem jF8_13 :Af P0 284=true/\Il P0 293=true/\Um P0 293=[9,9]/\Iv P0 293=[4]/\Af P0 293=true/\Il P0 294=true/\Um P0 294=[9,96]/\Iv P0 294=[9]/\Af P0 294=true/\Il P0 295=true/\Um P0 295=[5]/\Iv P0 295=[4]/\Af P0 295=true/\Il P0 296=true/\Um P0 296=[9]/\Iv P0 296=[75,33]/\Af P0 296=true/\Iv P0 299=[83]/\Il P0 300=true/\Um P0 300=[9]/\Iv P0 300=[4]/\Af P0 300=true/\Il P0 301=true/\Um P0 301=[105]:=Zh
@[simp] theorem okFn_303 :Il P0 303=true:=Zf
@[simp] theorem okFn_304 :Il P0 304=true:=Zf
@[simp] theorem okFn_305 :Il P0 305=true:=Zf
@[simp] theorem okFn_306 :Il P0 306=true:=Zf
@[simp] theorem jF8_14 :Iv P0 301=[4]/\Af P0 301=true/\Il P0 302=true/\Um P0 302=[103,3]/\Iv P0 302=[4]/\Af P0 302=true/\Il P0 307=true/\Um P0 307=[186]/\Iv P0 307=[3]/\Af P0 307=true/\Il P0 308=true/\Il P0 309=true/\Il P0 310=true/\Il P0 311=true/\Il P0 312=true/\Il P0 313=true/\Il P0 314=true/\Um P0 314=[354,9]/\Iv P0 314=[352]/\Af P0 314=true/\Il P0 315=true/\Um P0 315=[354,103]/\Iv P0 315=[358]/\Af P0 315=false:=Zh
@[simp] theorem G3a :Il P0 316=true:=Zf
@[simp] theorem G2a :Il P0 317=true:=Zf
@[simp] theorem okFn_318 :Il P0 318=true:=Zf
@[simp] theorem okFn_319 :Il P0 319=true:=Zf
@[simp] theorem Ok :Il P0 320=true:=Zf
@[simp] theorem jF8_15 :Il P0 321=true/\Um P0 321=[3]/\Iv P0 321=[9]/\Af P0 321=true/\Il P0 389=true/\Um P0 389=[5]/\Iv P0 389=[4]/\Af P0 389=true/\Il P0 390=true/\Um P0 390=[9]/\Iv P0 390=[75,33]/\Af P0 390=true/\Il P0 391=true/\Um P0 391=[9]/\Iv P0 391=[75,33]/\Af P0 391=true/\Il P0 392=true/\Um P0 392=[5]/\Iv P0 392=[4]/\Af P0 392=true/\Il P0 393=true/\Um P0 393=[9]/\Iv P0 393=[75,33]/\Af P0 393=true:=Zh
@[simp] theorem okFn_395 :Il P0 395=true:=Zf
@[simp] theorem okFn_400 :Il P0 400=true:=Zf
@[simp] theorem okFn_402 :Il P0 402=true:=Zf
@[simp] theorem okFn_480 :Il P0 480=true:=Zf
@[simp] theorem Oj :Il P0 481=true:=Zf
@[simp] theorem jF8_16 :Il P0 394=true/\Um P0 394=[5]/\Iv P0 394=[4]/\Af P0 394=true/\Iv P0 395=[105]/\Il P0 396=true/\Um P0 396=[9]/\Iv P0 396=[4]/\Af P0 396=true/\Il P0 397=true/\Um P0 397=[9,4]/\Iv P0 397=[4]/\Af P0 397=true/\Il P0 398=true/\Um P0 398=[186]/\Iv P0 398=[4]/\Af P0 398=true/\Il P0 399=true/\Il P0 401=true/\Um P0 401=[3,73,73]/\Iv P0 401=[73,33]/\Af P0 401=true/\Iv P0 480=[103]/\Iv P0 481=[186]:=Zh
@[simp] theorem okFn_482 :Il P0 482=true:=Zf
@[simp] theorem okFn_483 :Il P0 483=true:=Zf
@[simp] theorem okFn_524 :Il P0 524=true:=Zf
@[simp] theorem okFn_526 :Il P0 526=true:=Zf
@[simp] theorem jF8_17 :Iv P0 482=[83]/\Iv P0 483=[105]/\Il P0 484=true/\Um P0 484=[3,73,73]/\Iv P0 484=[73,33]/\Af P0 484=true/\Il P0 485=true/\Um P0 485=[3,73,73]/\Iv P0 485=[73]/\Af P0 485=true/\Il P0 486=true/\Um P0 486=[3,73,73]/\Iv P0 486=[73]/\Af P0 486=true/\Iv P0 524=[186]/\Il P0 525=true/\Um P0 525=[9]/\Iv P0 525=[186,3]/\Af P0 525=false/\Iv P0 526=[103]/\Il P0 552=true/\Um P0 552=[3]/\Iv P0 552=[186]/\Af P0 552=false:=Zh
@[simp] theorem H8a :Iu P0 4=false:=Zf
@[simp] theorem jF8_18 :P0.cellsOf 2=1/\Iu P0 2=false/\dO P0 2=[2]/\P0.cellsOf 3=1/\bF P0 3=none/\Iu P0 3=false/\oD P0 3=some IntKind.i64/\dO P0 3=[3]/\U8 P0 3=some [Value.int IntKind.i64 0]/\(P0.info? 3).isSome=true/\P0.cellsOf 4=1/\bF P0 4=none/\kB P0 4=true/\xU P0 4=true/\dO P0 4=[4]/\U8 P0 4=some [Value.bool false]/\(P0.info? 4).isSome=true/\P0.cellsOf 5=1/\P0.bytesOf 5=1/\Iu P0 5=false/\oD P0 5=some IntKind.u8/\jG P0 5=some [AV.sc (Value.int IntKind.u8 0)]/\dO P0 5=[5]/\oX P0 5=true:=Zh
@[simp] theorem jF8_19 :P0.cellsOf 9=1/\P0.bytesOf 9=16/\bF P0 9=none/\Iu P0 9=false/\kB P0 9=true/\mP P0 9=true/\jG P0 9=some [AV.sc (Value.string {data:={toList:=[]}})]/\dO P0 9=[9]/\oX P0 9=true/\U8 P0 9=some [Value.string {data:={toList:=[]}}]/\(P0.info? 9).isSome=true/\P0.cellsOf 23=1/\bF P0 23=some 9/\Iu P0 23=false/\dO P0 23=[23]/\oA P0 23=true/\(P0.info? 23).isSome=true/\P0.cellsOf 32=7/\Iu P0 32=true/\A5 P0 32=none/\Bz P0 32=true/\dO P0 32=[23,23,23,26,27,3,30]/\eU P0 32=[(0,1,23),(1,1,23),(2,1,25),(3,1,26),(4,2,29),(6,1,30)]/\U8 P0 32=some [Value.slice none 0 0,Value.slice none 0 0,Value.slice none 0 0,Value.slice none 0 0,Value.slice none 0 0,Value.int IntKind.i64 0,Value.slice none 0 0]:=Zh
@[simp] theorem Rk :Iu P0 33=false:=Zf
@[simp] theorem jF8_20 :(P0.info? 32).isSome=true/\P0.cellsOf 33=1/\dO P0 33=[33]/\U8 P0 33=some [Value.int IntKind.i64 0]/\(P0.info? 33).isSome=true/\P0.cellsOf 37=2/\Iu P0 37=true/\kB P0 37=true/\A5 P0 37=none/\jG P0 37=some [AV.sc (Value.string {data:={toList:=[]}}),AV.sl false 1 []]/\Bz P0 37=true/\dO P0 37=[9,23]/\oX P0 37=true/\eU P0 37=[(0,1,9),(1,1,23)]/\U8 P0 37=some [Value.string {data:={toList:=[]}},Value.slice none 0 0]/\(P0.info? 37).isSome=true/\P0.cellsOf 39=1/\bF P0 39=some 82/\Iu P0 39=false/\dO P0 39=[39]/\oA P0 39=true/\(P0.info? 39).isSome=true/\P0.cellsOf 40=1/\bF P0 40=some 85:=Zh
@[simp] theorem jF8_21 :Iu P0 40=false/\dO P0 40=[40]/\oA P0 40=true/\(P0.info? 40).isSome=true/\P0.cellsOf 42=3/\Iu P0 42=true/\A5 P0 42=none/\Bz P0 42=true/\dO P0 42=[23,39,40]/\eU P0 42=[(0,1,23),(1,1,39),(2,1,40)]/\U8 P0 42=some [Value.slice none 0 0,Value.slice none 0 0,Value.slice none 0 0]/\(P0.info? 42).isSome=true/\P0.cellsOf 47=1/\bF P0 47=some 37/\Iu P0 47=false/\dO P0 47=[47]/\P0.cellsOf 50=1/\bF P0 50=some 75/\Iu P0 50=false/\dO P0 50=[50]/\oA P0 50=true/\P0.cellsOf 55=3/\A5 P0 55=none/\Bz P0 55=true:=Zh
@[simp] theorem jF8_22 :dO P0 55=[50,3,4]/\eU P0 55=[(0,1,50),(1,1,3),(2,1,4)]/\U8 P0 55=some [Value.slice none 0 0,Value.int IntKind.i64 0,Value.bool false]/\Iu P0 59=false/\P0.cellsOf 61=2/\Iu P0 61=true/\A5 P0 61=none/\jG P0 61=some [AV.sc (Value.string {data:={toList:=[]}}),AV.sc Value.nilFunc]/\Bz P0 61=true/\dO P0 61=[9,59]/\oX P0 61=true/\eU P0 61=[(0,1,9),(1,1,59)]/\U8 P0 61=some [Value.string {data:={toList:=[]}},Value.nilFunc]/\(P0.info? 61).isSome=true/\P0.cellsOf 63=1/\Iu P0 63=false/\dO P0 63=[63]/\P0.cellsOf 67=1/\A5 P0 67=none/\Bz P0 67=true/\dO P0 67=[33]/\eU P0 67=[(0,1,33)]/\U8 P0 67=some [Value.int IntKind.i64 0]/\(P0.info? 67).isSome=true:=Zh
@[simp] theorem jF8_23 :P0.cellsOf 71=9/\A5 P0 71=none/\Bz P0 71=true/\dO P0 71=[23,23,23,26,27,3,30,23,9]/\eU P0 71=[(0,7,32),(7,1,23),(8,1,9)]/\U8 P0 71=some [Value.slice none 0 0,Value.slice none 0 0,Value.slice none 0 0,Value.slice none 0 0,Value.slice none 0 0,Value.int IntKind.i64 0,Value.slice none 0 0,Value.slice none 0 0,Value.string {data:={toList:=[]}}]/\P0.cellsOf 73=1/\P0.bytesOf 73=4/\bF P0 73=none/\Iu P0 73=false/\kB P0 73=true/\oD P0 73=some IntKind.u32/\jG P0 73=some [AV.sc (Value.int IntKind.u32 0)]/\dO P0 73=[73]/\oX P0 73=true/\(P0.info? 73).isSome=true/\P0.cellsOf 75=4/\P0.bytesOf 75=40/\Iu P0 75=true/\kB P0 75=true/\A5 P0 75=none/\jG P0 75=some [AV.sc (Value.int IntKind.i64 0),AV.sc (Value.string {data:={toList:=[]}}),AV.sc (Value.int IntKind.u32 0),AV.sc (Value.int IntKind.i64 0)]/\Bz P0 75=true/\dO P0 75=[3,9,73,3]:=Zh
@[simp] theorem jF8_24 :oX P0 75=true/\eU P0 75=[(0,1,3),(1,1,9),(2,1,73),(3,1,3)]/\U8 P0 75=some [Value.int IntKind.i64 0,Value.string {data:={toList:=[]}},Value.int IntKind.u32 0,Value.int IntKind.i64 0]/\(P0.info? 75).isSome=true/\P0.cellsOf 82=2/\P0.bytesOf 82=24/\Iu P0 82=true/\kB P0 82=true/\A5 P0 82=none/\jG P0 82=some [AV.sc (Value.string {data:={toList:=[]}}),AV.sc (Value.int IntKind.i64 0)]/\Bz P0 82=true/\dO P0 82=[9,3]/\oX P0 82=true/\eU P0 82=[(0,1,9),(1,1,3)]/\U8 P0 82=some [Value.string {data:={toList:=[]}},Value.int IntKind.i64 0]/\(P0.info? 82).isSome=true/\P0.cellsOf 83=1/\bF P0 83=some 105/\Iu P0 83=false/\dO P0 83=[83]/\oA P0 83=true/\(P0.info? 83).isSome=true/\P0.cellsOf 85=5/\P0.bytesOf 85=96:=Zh
@[simp] theorem jF8_25 :Iu P0 85=true/\kB P0 85=true/\A5 P0 85=none/\jG P0 85=some [AV.sc (Value.string {data:={toList:=[]}}),AV.sl false 1 [],AV.sl false 1 [],AV.sc (Value.bool false),AV.sl false 5 []]/\Bz P0 85=true/\dO P0 85=[9,23,23,4,83]/\oX P0 85=true/\eU P0 85=[(0,1,9),(1,1,23),(2,1,23),(3,1,4),(4,1,83)]/\U8 P0 85=some [Value.string {data:={toList:=[]}},Value.slice none 0 0,Value.slice none 0 0,Value.bool false,Value.slice none 0 0]/\(P0.info? 85).isSome=true/\P0.cellsOf 96=1/\Iu P0 96=false/\dO P0 96=[96]/\P0.cellsOf 97=1/\Iu P0 97=false/\oD P0 97=some IntKind.u64/\dO P0 97=[97]/\P0.cellsOf 103=1/\bF P0 103=some 186/\Iu P0 103=false/\dO P0 103=[103]/\oA P0 103=true/\(P0.info? 103).isSome=true/\P0.cellsOf 105=5:=Zh
@[simp] theorem jF8_26 :P0.bytesOf 105=96/\Iu P0 105=true/\kB P0 105=true/\A5 P0 105=none/\jG P0 105=some [AV.sc (Value.int IntKind.i64 0),AV.sc (Value.string {data:={toList:=[]}}),AV.sl false 5 [],AV.sl false 5 [],AV.sl false 5 []]/\Bz P0 105=true/\dO P0 105=[3,9,103,83,83]/\oX P0 105=true/\eU P0 105=[(0,1,3),(1,1,9),(2,1,103),(3,1,83),(4,1,83)]/\U8 P0 105=some [Value.int IntKind.i64 0,Value.string {data:={toList:=[]}},Value.slice none 0 0,Value.slice none 0 0,Value.slice none 0 0]/\(P0.info? 105).isSome=true/\P0.cellsOf 110=1/\bF P0 110=some 115/\Iu P0 110=false/\dO P0 110=[110]/\oA P0 110=true/\P0.cellsOf 115=3/\P0.bytesOf 115=32/\kB P0 115=true/\A5 P0 115=none/\jG P0 115=some [AV.sc (Value.string {data:={toList:=[]}}),AV.sc (Value.int IntKind.i64 0),AV.sc (Value.int IntKind.i64 0)]/\Bz P0 115=true/\dO P0 115=[9,3,3]/\oX P0 115=true:=Zh
@[simp] theorem jF8_27 :eU P0 115=[(0,1,9),(1,1,3),(2,1,3)]/\U8 P0 115=some [Value.string {data:={toList:=[]}},Value.int IntKind.i64 0,Value.int IntKind.i64 0]/\P0.cellsOf 124=1/\P0.bytesOf 124=24/\bF P0 124=some 73/\Iu P0 124=false/\kB P0 124=true/\dO P0 124=[124]/\oX P0 124=true/\U8 P0 124=some [Value.slice none 0 0]/\P0.cellsOf 141=3/\Iu P0 141=true/\A5 P0 141=none/\Bz P0 141=true/\dO P0 141=[3,9,3]/\eU P0 141=[(0,1,3),(1,1,9),(2,1,3)]/\U8 P0 141=some [Value.int IntKind.i64 0,Value.string {data:={toList:=[]}},Value.int IntKind.i64 0]/\(P0.info? 141).isSome=true/\P0.cellsOf 186=5/\P0.bytesOf 186=64/\Iu P0 186=true/\kB P0 186=true/\A5 P0 186=none/\jG P0 186=some [AV.sc (Value.int IntKind.i64 0),AV.sc (Value.int IntKind.i64 0),AV.sc (Value.int IntKind.u32 0),AV.sc (Value.string {data:={toList:=[]}}),AV.sl false 5 []]:=Zh
@[simp] theorem jF8_28 :Bz P0 186=true/\dO P0 186=[3,3,73,9,103]/\oX P0 186=true/\eU P0 186=[(0,1,3),(1,1,3),(2,1,73),(3,1,9),(4,1,103)]/\U8 P0 186=some [Value.int IntKind.i64 0,Value.int IntKind.i64 0,Value.int IntKind.u32 0,Value.string {data:={toList:=[]}},Value.slice none 0 0]/\(P0.info? 186).isSome=true/\P0.cellsOf 193=1/\bF P0 193=some 5/\Iu P0 193=false/\dO P0 193=[193]/\oA P0 193=true/\(P0.info? 193).isSome=true/\P0.cellsOf 239=1/\Iu P0 239=false/\dO P0 239=[239]/\U8 P0 239=some [Value.pointer none]/\(P0.info? 239).isSome=true/\P0.cellsOf 240=1/\bF P0 240=some 250/\Iu P0 240=false/\dO P0 240=[240]/\P0.cellsOf 242=1/\bF P0 242=some 124/\Iu P0 242=false:=Zh
@[simp] theorem jF8_29 :dO P0 242=[242]/\oA P0 242=true/\(P0.info? 242).isSome=true/\P0.cellsOf 244=8/\A5 P0 244=none/\Bz P0 244=true/\dO P0 244=[240,124,242,9,3,193,3,3]/\eU P0 244=[(0,1,240),(1,1,124),(2,1,242),(3,1,9),(4,1,3),(5,1,193),(6,1,3),(7,1,3)]/\U8 P0 244=some [Value.slice none 0 0,Value.slice none 0 0,Value.slice none 0 0,Value.string {data:={toList:=[]}},Value.int IntKind.i64 0,Value.slice none 0 0,Value.int IntKind.i64 0,Value.int IntKind.i64 0]/\P0.cellsOf 246=1/\A5 P0 246=none/\Bz P0 246=true/\dO P0 246=[3]/\eU P0 246=[(0,1,3)]/\U8 P0 246=some [Value.int IntKind.i64 0]/\(P0.info? 246).isSome=true/\P0.cellsOf 248=1/\bF P0 248=some 360/\Iu P0 248=false/\dO P0 248=[248]/\P0.cellsOf 250=2/\P0.bytesOf 250=32/\kB P0 250=true/\A5 P0 250=none:=Zh
@[simp] theorem jF8_30 :jG P0 250=some [AV.sc (Value.int IntKind.i64 0),AV.sl false 6 []]/\Bz P0 250=true/\dO P0 250=[3,248]/\oX P0 250=true/\eU P0 250=[(0,1,3),(1,1,248)]/\U8 P0 250=some [Value.int IntKind.i64 0,Value.slice none 0 0]/\(P0.info? 250).isSome=true/\P0.cellsOf 330=1/\A5 P0 330=none/\Bz P0 330=true/\dO P0 330=[3]/\eU P0 330=[(0,1,3)]/\U8 P0 330=some [Value.int IntKind.i64 0]/\(P0.info? 330).isSome=true/\P0.cellsOf 332=3/\A5 P0 332=none/\Bz P0 332=true/\dO P0 332=[50,3,3]/\eU P0 332=[(0,1,50),(1,1,3),(2,1,3)]/\U8 P0 332=some [Value.slice none 0 0,Value.int IntKind.i64 0,Value.int IntKind.i64 0]/\P0.cellsOf 333=1/\Iu P0 333=false/\dO P0 333=[333]/\U8 P0 333=some [Value.map none]:=Zh
@[simp] theorem jF8_31 :(P0.info? 333).isSome=true/\P0.cellsOf 338=2/\Iu P0 338=true/\A5 P0 338=none/\Bz P0 338=true/\dO P0 338=[333,333]/\eU P0 338=[(0,1,333),(1,1,333)]/\U8 P0 338=some [Value.map none,Value.map none]/\(P0.info? 338).isSome=true/\P0.cellsOf 341=3/\A5 P0 341=none/\Bz P0 341=true/\dO P0 341=[3,9,3]/\eU P0 341=[(0,1,3),(1,1,9),(2,1,3)]/\U8 P0 341=some [Value.int IntKind.i64 0,Value.string {data:={toList:=[]}},Value.int IntKind.i64 0]/\P0.cellsOf 343=2/\Iu P0 343=true/\A5 P0 343=none/\jG P0 343=some [AV.sc (Value.int IntKind.i64 0),AV.sc (Value.int IntKind.i64 0)]/\Bz P0 343=true/\dO P0 343=[3,3]/\oX P0 343=true/\eU P0 343=[(0,1,3),(1,1,3)]/\U8 P0 343=some [Value.int IntKind.i64 0,Value.int IntKind.i64 0]:=Zh
@[simp] theorem jF8_32 :(P0.info? 343).isSome=true/\P0.cellsOf 345=1/\Iu P0 345=false/\dO P0 345=[345]/\Iu P0 350=false/\P0.cellsOf 352=2/\Iu P0 352=true/\A5 P0 352=none/\jG P0 352=some [AV.sc (Value.bool false),AV.sc (Value.int IntKind.i64 0)]/\Bz P0 352=true/\dO P0 352=[4,3]/\oX P0 352=true/\eU P0 352=[(0,1,4),(1,1,3)]/\U8 P0 352=some [Value.bool false,Value.int IntKind.i64 0]/\(P0.info? 352).isSome=true/\P0.cellsOf 354=2/\Iu P0 354=true/\A5 P0 354=none/\Bz P0 354=true/\dO P0 354=[350,350]/\eU P0 354=[(0,1,350),(1,1,350)]/\U8 P0 354=some [Value.map none,Value.map none]/\(P0.info? 354).isSome=true/\P0.cellsOf 358=1:=Zh
@[simp] theorem jF8_33 :bF P0 358=some 470/\Iu P0 358=false/\dO P0 358=[358]/\P0.cellsOf 360=6/\P0.bytesOf 360=96/\kB P0 360=true/\A5 P0 360=none/\jG P0 360=some [AV.sc (Value.int IntKind.i64 0),AV.sc (Value.bool false),AV.sc (Value.int IntKind.i64 0),AV.sl false 6 [],AV.sl false 6 [],AV.sl false 6 []]/\Bz P0 360=true/\dO P0 360=[3,4,3,358,248,248]/\oX P0 360=true/\eU P0 360=[(0,1,3),(1,1,4),(2,1,3),(3,1,358),(4,1,248),(5,1,248)]/\U8 P0 360=some [Value.int IntKind.i64 0,Value.bool false,Value.int IntKind.i64 0,Value.slice none 0 0,Value.slice none 0 0,Value.slice none 0 0]/\(P0.info? 360).isSome=true/\P0.cellsOf 456=1/\Iu P0 456=false/\dO P0 456=[456]/\U8 P0 456=some [Value.nilFunc]/\(P0.info? 456).isSome=true/\P0.cellsOf 457=1/\Iu P0 457=false/\dO P0 457=[457]/\U8 P0 457=some [Value.nilFunc]/\(P0.info? 457).isSome=true:=Zh
@[simp] theorem jF8_34 :Iu P0 458=false/\P0.cellsOf 459=1/\Iu P0 459=false/\kB P0 459=true/\dO P0 459=[459]/\(P0.info? 459).isSome=true/\A5 P0 460=some (10,459)/\P0.cellsOf 462=11/\A5 P0 462=none/\Bz P0 462=true/\dO P0 462=[458,459,459,459,459,459,459,459,459,459,459]/\eU P0 462=[(0,1,458),(1,10,460)]/\U8 P0 462=some [Value.map none,Value.nilFunc,Value.nilFunc,Value.nilFunc,Value.nilFunc,Value.nilFunc,Value.nilFunc,Value.nilFunc,Value.nilFunc,Value.nilFunc,Value.nilFunc]/\P0.cellsOf 470=6/\P0.bytesOf 470=56/\kB P0 470=true/\A5 P0 470=none/\jG P0 470=some [AV.sc (Value.int IntKind.i64 0),AV.sc (Value.int IntKind.i64 0),AV.sc (Value.int IntKind.u32 0),AV.sc (Value.bool false),AV.sc (Value.int IntKind.i64 0),AV.sl false 6 []]/\Bz P0 470=true/\dO P0 470=[3,3,73,4,3,358]/\oX P0 470=true/\eU P0 470=[(0,1,3),(1,1,3),(2,1,73),(3,1,4),(4,1,3),(5,1,358)]/\U8 P0 470=some [Value.int IntKind.i64 0,Value.int IntKind.i64 0,Value.int IntKind.u32 0,Value.bool false,Value.int IntKind.i64 0,Value.slice none 0 0]/\(P0.info? 470).isSome=true:=Zh
@[simp] theorem jF8_35 :bF P0 558=none/\A5 P0 558=some (24,9)/\bF P0 625=none/\A5 P0 625=some (10,9)/\bF P0 26=some 155/\bF P0 27=some 122/\bF P0 30=some 275/\P0.cellsOf 122=4/\P0.cellsOf 155=6/\P0.cellsOf 275=7:=Zh
def hpL :List Nat:=[154,155,156,219,220,221,222,223,224,297,298,299,395,480,481,482,483,524,526,
 230,231,303,304,305,306,233,234,235,308,309,310,311,312,313,399,
 11,12,13,22,23,24,25,26,65,66,67,120,121,122,123,187,
 34,37,42,44,45,80,82,95,
 162,237,319,320,317,318,400,402,316,314,236,315]
def frzL :List Nat:=[156,221,222,224,299,395,480,481,482,483,524,526,
 11,12,23,25,26,67,120,121,122,123,187,236,315]
def Un :cD:={eq:=fun _=>false,hp:=fun f=>hpL.contains f,yl:=fun _=>false,inl:=fun f=>f==233,frz:=fun f=>frzL.contains f,ws:=70,cl:=true,bx:=fun t=>t==412}
@[simp] theorem E47_off :Un.off=0:=rfl
@[simp] theorem E47_bx (t:Nat):Un.bx t=(t==412):=rfl
@[simp] theorem E47_eq (t:Nat):Un.eq t=false:=rfl
@[simp] theorem E47_cl :Un.cl=true:=rfl
@[simp] theorem E47_ws :Un.ws=70:=rfl
@[simp] theorem wrap_1 :IntKind.i64.wrap 1=1:=by decide+kernel
@[simp] theorem wrap_2 :IntKind.i64.wrap 2=2:=by decide+kernel
@[simp] theorem wrap_0 :IntKind.i64.wrap 0=0:=by decide+kernel
theorem Iw {k:Nat}(h:k<9223372036854775807):IntKind.i64.wrap ((k:Int)+1)=(k:Int)+1:=Bu Zo Zo
abbrev iv (n:Int):AV:= .sc (.int .i64 n)
abbrev uv (n:Int):AV:= .sc (.int .u32 n)
abbrev bv (b:Bool):AV:= .sc (.bool b)
abbrev tv (s:ByteArray):AV:= .sc (.string s)
def bX :aS:=⟨fun _ _=>none,fun _ _ _ _ _=>none⟩
noncomputable abbrev Lm (X:aS):aS:=eP P0 Un X
@[simp] theorem jHf_0 :Un.hp 4=false/\Un.hp 5=false/\Un.hp 6=false/\Un.hp 7=false/\Un.hp 8=false/\Un.hp 9=false/\Un.hp 10=false/\Un.hp 14=false/\Un.hp 15=false/\Un.hp 16=false/\Un.hp 20=false/\Un.hp 21=false/\Un.hp 23=true/\Un.hp 26=true/\Un.hp 27=false/\Un.hp 28=false/\Un.hp 29=false/\Un.hp 30=false/\Un.hp 31=false/\Un.hp 32=false/\Un.hp 33=false/\Un.hp 58=false/\Un.hp 59=false/\Un.hp 60=false:=Zj
@[simp] theorem jHf_1 :Un.hp 61=false/\Un.hp 62=false/\Un.hp 63=false/\Un.hp 64=false/\Un.hp 67=true/\Un.hp 68=false/\Un.hp 69=false/\Un.hp 70=false/\Un.hp 71=false/\Un.hp 72=false/\Un.hp 73=false/\Un.hp 74=false/\Un.hp 75=false/\Un.hp 76=false/\Un.hp 77=false/\Un.hp 78=false/\Un.hp 79=false/\Un.hp 121=true/\Un.hp 124=false/\Un.hp 125=false/\Un.hp 126=false/\Un.hp 127=false/\Un.hp 155=true/\Un.hp 157=false:=Zj
@[simp] theorem jHf_2 :Un.hp 158=false/\Un.hp 159=false/\Un.hp 188=false/\Un.hp 189=false/\Un.hp 190=false/\Un.hp 217=false/\Un.hp 221=true/\Un.hp 224=true/\Un.hp 225=false/\Un.hp 226=false/\Un.hp 227=false/\Un.hp 228=false/\Un.hp 229=false/\Un.hp 232=false/\Un.hp 234=true/\Un.hp 235=true/\Un.hp 284=false/\Un.hp 293=false/\Un.hp 294=false/\Un.hp 295=false/\Un.hp 296=false/\Un.hp 300=false/\Un.hp 301=false/\Un.hp 302=false:=Zj
@[simp] theorem jHf_3 :Un.hp 307=false/\Un.hp 308=true/\Un.hp 309=true/\Un.hp 310=true/\Un.hp 311=true/\Un.hp 312=true/\Un.hp 313=true/\Un.hp 389=false/\Un.hp 390=false/\Un.hp 391=false/\Un.hp 392=false/\Un.hp 393=false/\Un.hp 394=false/\Un.hp 396=false/\Un.hp 397=false/\Un.hp 398=false/\Un.hp 399=true/\Un.hp 481=true/\Un.hp 525=false/\Un.hp 552=false/\Tryz.f3.results.toList=[.tmp 2]/\Tryz.f4.results.toList=[.tmp 0]/\Tryz.f5.results.toList=[.cell 2 32,.tmp 3,.tmp 4]/\Tryz.f6.results.toList=[.cell 4 37]:=Zj
@[simp] theorem jHf_4 :Tryz.f7.results.toList=[.cell 2 42,.tmp 3,.tmp 4]/\Tryz.f8.results.toList=[.tmp 2]/\Tryz.f9.results.toList=[.cell 0 32]/\Tryz.f11.results.toList=[.tmp 2,.tmp 3,.tmp 4]/\Tryz.f12.results.toList=[.cell 2 42]/\Tryz.f13.results.toList=[.tmp 4]/\Tryz.f14.results.toList=[.tmp 2]/\Tryz.f15.results.toList=[.tmp 2]/\Tryz.f16.results.toList=[.tmp 2]/\Tryz.f17.results.toList=[.tmp 0]/\Tryz.f18.results.toList=[.tmp 6]/\Tryz.f20.results.toList=[.tmp 4]/\Tryz.f21.results.toList=[.cell 4 75,.tmp 5]/\Tryz.f22.results.toList=[.tmp 4]/\Tryz.f23.results.toList=[.tmp 2]/\Tryz.f24.results.toList=[]/\Tryz.f25.results.toList=[.cell 4 75]/\Tryz.f26.results.toList=[.cell 2 85]/\Tryz.f27.results.toList=[.tmp 2]/\Tryz.f28.results.toList=[.tmp 2]/\Tryz.f29.results.toList=[.tmp 4]/\Tryz.f30.results.toList=[.tmp 2]/\Tryz.f31.results.toList=[.tmp 2]/\Tryz.f32.results.toList=[.tmp 4]:=Zj
@[simp] theorem jHf_5 :Tryz.f33.results.toList=[.tmp 6]/\Tryz.f34.results.toList=[]/\Tryz.f37.results.toList=[]/\Tryz.f42.results.toList=[]/\Tryz.f44.results.toList=[]/\Tryz.f45.results.toList=[]/\Tryz.f54.results.toList=[.tmp 4]/\Tryz.f55.results.toList=[.tmp 4]/\Tryz.f56.results.toList=[.tmp 4,.tmp 5]/\Tryz.f57.results.toList=[.tmp 4]/\Tryz.f58.results.toList=[.tmp 6]/\Tryz.f59.results.toList=[.tmp 2]/\Tryz.f60.results.toList=[.tmp 4,.tmp 5,.tmp 6]/\Tryz.f61.results.toList=[.tmp 2]/\Tryz.f62.results.toList=[.tmp 4]/\Tryz.f63.results.toList=[.tmp 0]/\Tryz.f64.results.toList=[.tmp 0]/\Tryz.f65.results.toList=[.tmp 2]/\Tryz.f66.results.toList=[.tmp 4]/\Tryz.f67.results.toList=[.cell 2 105]/\Tryz.f68.results.toList=[.tmp 0]/\Tryz.f69.results.toList=[.tmp 2]/\Tryz.f70.results.toList=[.tmp 4]/\Tryz.f71.results.toList=[.tmp 2]:=Zj
@[simp] theorem jHf_6 :Tryz.f72.results.toList=[.tmp 2]/\Tryz.f73.results.toList=[.tmp 2]/\Tryz.f74.results.toList=[.tmp 2]/\Tryz.f75.results.toList=[.tmp 6,.tmp 7]/\Tryz.f76.results.toList=[.tmp 4]/\Tryz.f77.results.toList=[.tmp 4]/\Tryz.f78.results.toList=[.tmp 4]/\Tryz.f79.results.toList=[.tmp 4]/\Tryz.f80.results.toList=[]/\Tryz.f82.results.toList=[.tmp 4]/\Tryz.f87.results.toList=[]/\Tryz.f95.results.toList=[.tmp 4]/\Tryz.f96.results.toList=[.tmp 2]/\Tryz.f97.results.toList=[.cell 2 42,.tmp 3,.tmp 4]/\Tryz.f98.results.toList=[.tmp 2]/\Tryz.f100.results.toList=[.tmp 2]/\Tryz.f117.results.toList=[.tmp 2,.tmp 3]/\Tryz.f119.results.toList=[.tmp 4]/\Tryz.f120.results.toList=[.tmp 2]/\Tryz.f121.results.toList=[.cell 4 186]/\Tryz.f122.results.toList=[.tmp 2]/\Tryz.f123.results.toList=[.tmp 2]/\Tryz.f124.results.toList=[.tmp 4]/\Tryz.f125.results.toList=[.tmp 4]:=Zj
@[simp] theorem jHf_7 :Tryz.f126.results.toList=[.tmp 2]/\Tryz.f127.results.toList=[.tmp 4]/\Tryz.f129.results.toList=[.tmp 2]/\Tryz.f155.results.toList=[]/\Tryz.f156.results.toList=[.cell 2 42]/\Tryz.f157.results.toList=[.tmp 2]/\Tryz.f158.results.toList=[.tmp 2]/\Tryz.f159.results.toList=[.tmp 2]/\Tryz.f160.results.toList=[.tmp 2]/\Tryz.f162.results.toList=[.tmp 6,.tmp 7]/\Tryz.f163.results.toList=[.tmp 2]/\Tryz.f187.results.toList=[.cell 2 186]/\Tryz.f188.results.toList=[.tmp 2]/\Tryz.f189.results.toList=[.cell 6 186]/\Tryz.f190.results.toList=[.tmp 4]/\Tryz.f217.results.toList=[.tmp 2,.tmp 3,.tmp 4]/\Tryz.f219.results.toList=[]/\Tryz.f220.results.toList=[.tmp 4]/\Tryz.f221.results.toList=[.tmp 2]/\Tryz.f222.results.toList=[.cell 4 75]/\Tryz.f223.results.toList=[]/\Tryz.f224.results.toList=[.cell 2 85]/\Tryz.f225.results.toList=[.tmp 2]/\Tryz.f226.results.toList=[.tmp 2]:=Zj
@[simp] theorem jHf_8 :Tryz.f227.results.toList=[.tmp 4]/\Tryz.f228.results.toList=[.tmp 2,.tmp 3]/\Tryz.f229.results.toList=[.tmp 2,.tmp 3]/\Tryz.f230.results.toList=[]/\Tryz.f231.results.toList=[]/\Tryz.f232.results.toList=[.cell 4 343]/\Tryz.f234.results.toList=[.tmp 4]/\Tryz.f235.results.toList=[.tmp 6]/\Tryz.f236.results.toList=[.tmp 4]/\Tryz.f237.results.toList=[.tmp 6,.tmp 7]/\Tryz.f238.results.toList=[.tmp 4]/\Tryz.f284.results.toList=[.tmp 4]/\Tryz.f293.results.toList=[.tmp 4]/\Tryz.f294.results.toList=[.tmp 4]/\Tryz.f295.results.toList=[.tmp 2]/\Tryz.f296.results.toList=[.cell 2 75,.tmp 3]/\Tryz.f297.results.toList=[.tmp 2]/\Tryz.f298.results.toList=[.tmp 2]/\Tryz.f299.results.toList=[.tmp 2]/\Tryz.f300.results.toList=[.tmp 2]/\Tryz.f301.results.toList=[.tmp 2]/\Tryz.f302.results.toList=[.tmp 4]/\Tryz.f303.results.toList=[]/\Tryz.f304.results.toList=[]:=Zj
@[simp] theorem jHf_9 :Tryz.f305.results.toList=[]/\Tryz.f306.results.toList=[]/\Tryz.f307.results.toList=[.tmp 2]/\Tryz.f308.results.toList=[.tmp 4]/\Tryz.f309.results.toList=[.tmp 4]/\Tryz.f310.results.toList=[.tmp 4]/\Tryz.f311.results.toList=[.tmp 4]/\Tryz.f312.results.toList=[.tmp 4]/\Tryz.f313.results.toList=[.tmp 6]/\Tryz.f314.results.toList=[.cell 4 352]/\Tryz.f315.results.toList=[.tmp 4]/\Tryz.f316.results.toList=[.tmp 6]/\Tryz.f317.results.toList=[.tmp 6]/\Tryz.f318.results.toList=[]/\Tryz.f319.results.toList=[.tmp 6,.tmp 7]/\Tryz.f320.results.toList=[.tmp 8]/\Tryz.f389.results.toList=[.tmp 2]/\Tryz.f390.results.toList=[.cell 2 75,.tmp 3]/\Tryz.f391.results.toList=[.cell 2 75,.tmp 3]/\Tryz.f392.results.toList=[.tmp 2]/\Tryz.f393.results.toList=[.cell 2 75,.tmp 3]/\Tryz.f394.results.toList=[.tmp 2]/\Tryz.f395.results.toList=[.cell 2 105]/\Tryz.f396.results.toList=[.tmp 2]:=Zj
@[simp] theorem jHf_10 :Tryz.f397.results.toList=[.tmp 4]/\Tryz.f398.results.toList=[.tmp 2]/\Tryz.f399.results.toList=[.tmp 4]/\Tryz.f400.results.toList=[.tmp 2]/\Tryz.f401.results.toList=[.tmp 6,.tmp 7]/\Tryz.f402.results.toList=[]/\Tryz.f480.results.toList=[.tmp 2]/\Tryz.f481.results.toList=[.cell 4 186]/\Tryz.f482.results.toList=[.tmp 2]/\Tryz.f483.results.toList=[.cell 2 105]/\Tryz.f484.results.toList=[.tmp 6,.tmp 7]/\Tryz.f485.results.toList=[.tmp 6]/\Tryz.f486.results.toList=[.tmp 6]/\Tryz.f524.results.toList=[.cell 2 186]/\Tryz.f525.results.toList=[.cell 2 186,.tmp 3]/\Tryz.f526.results.toList=[.tmp 2]/\Tryz.f552.results.toList=[.cell 2 186]:=Zj
end
end Go.Proofs.YtggghdmdjpianaaGreatDoor
namespace Go.Ab
section
open Go
variable {E:cD}{hp:Hp}{k:Nat}{fr:Nat->AV}{call:aS}{P:Program}{ty:TypeId}
theorem Sh{all:Array Oper}{os:List Oper}{fs:List gZ}{Q:AS->Prop}{d d' j:Nat}{b:Bool}{op:Op}{pos:String}{aft:Array Edge}{us:List Value}(hd:(all[j]?).bind (·.dst)=some d')(hc:fr d'= .sc (.tuple ⟨us⟩))(r:Wd P E k call all os ⟨Uw fr (some d) (.sc undef),hp⟩ (⟨[],[]⟩::fs) Q):Wd P E k call all (⟨some d,op,ty,pos,aft,some (j,b)⟩::os) ⟨fr,hp⟩ fs Q:=by
 obtain⟨st',fs',h1,h2⟩:=r;exact⟨st',fs',by simp only[aG,eK,bD,hd,hc];exact h1,h2⟩
theorem Fh{dd:Option Nat}{x:Operand}{args:Array Operand}{ats:Array TypeId}{pos:String}{aft:Array Edge}{f:Nat}{zs cs:List AV}{R G:AV->Hp->Prop}{g:Option (Nat×Bool)}(hx:Uy fr x= .fn f cs)(Uz:Il P f=true)(Ii:f<1000000)(hh:E.hp f=true)(ha:args.toList.map (Uy fr)++cs=zs)
  (h:HB P E call k (E.off+dd.getD 0) f zs hp R (fun _ _=>False)) (hr: ∀v hp',R v hp'->G v hp'): ∃v hp',(bL P E k call fr ⟨dd,.call ⟨.value x,args,ats⟩,ty,pos,aft,g⟩).run hp=some (v,hp')/\G v hp':=by
 rcases h with⟨v,hp',h1,h2⟩|⟨_,_,_,_,h⟩
 ·exact⟨v,hp',(X6 hx Uz Ii hh ha).trans h1,hr _ _ h2⟩
 ·exact h.elim
end
end Go.Ab
namespace Go.Ab.Sy
section
variable {T:List Tok}{n f l:Nat}
def fB (T:List Tok)(n:Nat):Option (Ex×Nat):=fC T (5*(T.length - n)+2) n
def Wv (T:List Tok)(l:Nat)(x:Ex)(n:Nat):Option (Ex×Nat):=bZ T (5*(T.length - n)+2) l x n
def oS (T:List Tok)(l:List Ex)(n:Nat):Option (List Ex×Nat):=fY T (5*(T.length - n)+2) l n
def nO (T:List Tok)(l:Nat)(x:Ex)(n:Nat):Option (Ex×Nat):=dZ T (5*(T.length - n)+2) l x n
theorem Kwa(hf:5*(T.length - n)+2<=f):fC T f n=fB T n:=L1 hf (D5 _)
theorem Wu{x:Ex}(hl:1<=l)(hf:5*(T.length - n)+2<=f):bZ T f l x n=Wv T l x n:=D5a hl hf (D5 _)
theorem Ya{l:List Ex}(hf:5*(T.length - n)+2<=f):fY T f l n=oS T l n:=E9a hf (D5 _)
theorem A6 (T:List Tok)(n:Nat):fB T n=
  if cG T n=2 then(bW T 2 n).map fun p=>(.mk 1 0 p.1.num e0 [],p.2)
  else if Ig T n=cH then((I6 T Up (n+1)).bind fun m=>I6 T Uo m).map fun m=>(.mk 5 0 0 e0 [],m)
  else if Ig T n=Up then(Uu T 1 (n+1)).bind fun p=>(I6 T Uo p.2).map fun m=>(p.1,m)
  else if Ig T n=cM then(fB T (n+1)).map fun p=>(.mk 7 0 0 e0 [p.1],p.2)
  else(bW T 1 n).bind fun p=>
   if Ig T p.2=fO then(Uu T 1 (p.2+1)).bind fun q=>(I6 T bU q.2).map fun m=>(.mk 3 0 0 p.1.text [q.1],m)
   else if Ig T p.2=Up then(eG T (p.2+1)).map fun q=>(.mk 4 0 0 p.1.text q.1,q.2)
   else some (.mk 2 0 0 p.1.text [],p.2):=by
 show fC T (5*(T.length - n)+1+1) n=_;rw[fC];by_cases h1:cG T n=2
 ·rw[Ka h1,Ka h1]
 rw[Jx h1,Jx h1];by_cases h2:Ig T n=cH
 ·rw[Ka h2,Ka h2]
 rw[Jx h2,Jx h2];by_cases h3:Ig T n=Up
 ·have hn:n<T.length:=Bt (by rw[h3];decide)
  rw[Ka h3,Ka h3,Dv Zo Zo]
 rw[Jx h3,Jx h3];by_cases h4:Ig T n=cM
 ·have hn:n<T.length:=Bt (by rw[h4];decide)
  rw[Ka h4,Ka h4,Kwa Zo]
 rw[Jx h4,Jx h4];refine Az fun p hp=>?_
 have a:=At (t:=p.1) (m:=p.2) hp;by_cases h5:Ig T p.2=fO
 ·rw[Ka h5,Ka h5,Dv Zo Zo]
 rw[Jx h5,Jx h5];by_cases h6:Ig T p.2=Up
 ·have hn:p.2<T.length:=Bt (by rw[h6];decide)
  rw[Ka h6,Ka h6,Kza Zo]
 rw[Jx h6,Jx h6]
theorem Pd (T:List Tok)(hl:1<=l)(n:Nat):Uu T l n=(fB T n).bind fun p=>Wv T l p.1 p.2:=by
 show cS T (5*(T.length - n)+2+1) l n=_;rw[cS];refine Az fun p hp=>?_
 have a:=(Ch T _).1 _ p.1 p.2 hp;exact Wu hl Zo
theorem Gh (T:List Tok)(hl:1<=l)(x:Ex)(n:Nat):Wv T l x n=if cZ (Ig T n)<l then some (x,n) else(Uu T (cZ (Ig T n)+1) (n+1)).bind fun p=>Wv T l (vJ (Ig T n) x p.1) p.2:=by
 show bZ T (5*(T.length - n)+1+1) l x n=_;rw[bZ];by_cases h1:cZ (Ig T n)<l
 ·rw[Ka h1,Ka h1]
 have hn:=F9 hl h1;rw[Jx h1,Jx h1,Dv Zo Zo];refine Az fun p hp=>?_
 have a:=Cm (x:=p.1) (m:=p.2) hp;exact Wu hl Zo
theorem Cp (T:List Tok)(n:Nat):eG T n=if Ig T n=Uo then some ([],n+1) else(Uu T 1 n).bind fun p=>oS T [p.1] p.2:=by
 show gM T (5*(T.length - n)+3+1) n=_;rw[gM];by_cases h1:Ig T n=Uo
 ·rw[Ka h1,Ka h1]
 rw[Jx h1,Jx h1,Dv Zo Zo];refine Az fun p hp=>?_
 have a:=Cm (x:=p.1) (m:=p.2) hp;exact Ya Zo
theorem C6 (T:List Tok)(l:List Ex)(n:Nat):oS T l n=if Ig T n=Ug then(Uu T 1 (n+1)).bind fun p=>oS T (l++[p.1]) p.2 else(I6 T Uo n).map fun m=>(l,m):=by
 show fY T (5*(T.length - n)+1+1) l n=_;rw[fY];by_cases h1:Ig T n=Ug
 ·have hn:n<T.length:=Bt (by rw[h1];decide)
  rw[Ka h1,Ka h1,Dv Zo Zo];refine Az fun p hp=>?_
  have a:=Cm (x:=p.1) (m:=p.2) hp;exact Ya Zo
 rw[Jx h1,Jx h1]
theorem Ni(hl:1<=l): ∀r x n f g,T.length - n<=r->5*(T.length - n)+2<=f->5*(T.length - n)+2<=g->dZ T f l x n=dZ T g l x n:=by
 intro r
 induction r with
 |zero=>
  intro x n f g hr hf hg;obtain⟨f,rfl⟩: ∃k,f=k+1:=⟨f - 1,Zo⟩;obtain⟨g,rfl⟩: ∃k,g=k+1:=⟨g - 1,Zo⟩;have h1: ¬cZ (Ig T n)=l:=fun e=>by
   have:=F9 (T:=T) (n:=n) hl Zo;omega
  rw[dZ,dZ,Jx h1,Jx h1]
 |succ r ih=>
  intro x n f g hr hf hg;obtain⟨f,rfl⟩: ∃k,f=k+1:=⟨f - 1,Zo⟩;obtain⟨g,rfl⟩: ∃k,g=k+1:=⟨g - 1,Zo⟩;rw[dZ,dZ];by_cases h1:cZ (Ig T n)=l
  ·have:=F9 (T:=T) (n:=n) hl Zo
   rw[Ka h1,Ka h1,Dv Zo Zo,Dv Zo Zo];refine Az fun p hp=>?_
   have a:=Cm (x:=p.1) (m:=p.2) hp;exact ih _ _ _ _ Zo Zo Zo
  ·rw[Jx h1,Jx h1]
theorem L8 (T:List Tok)(hl:1<=l)(x:Ex)(n:Nat):nO T l x n=if cZ (Ig T n)=l then(Uu T (l+1) (n+1)).bind fun p=>nO T l (vJ (Ig T n) x p.1) p.2 else some (x,n):=by
 show dZ T (5*(T.length - n)+1+1) l x n=_;rw[dZ];by_cases h1:cZ (Ig T n)=l
 ·have hn:=F9 (T:=T) (n:=n) hl Zo
  rw[Ka h1,Ka h1,Dv Zo Zo];refine Az fun p hp=>?_
  have a:=Cm (x:=p.1) (m:=p.2) hp;exact Ni hl _ _ _ _ _ (D5 _) Zo Zo
 ·rw[Jx h1,Jx h1]
theorem Xq (T:List Tok)(hl:1<=l)(n:Nat):Uu T l n=(Uu T (l+1) n).bind fun p=>nO T l p.1 p.2:=by
 unfold Uu;rw[Aoa (T:=T) (l:=l) (n:=n) (g:=5*(T.length - n)+3) (h:=5*(T.length - n)+2) hl Zo Zo Zo];refine Az fun p hp=>?_
 have a:=Cm (T:=T) (l:=l+1) (n:=n) (x:=p.1) (m:=p.2) hp;exact Ni hl _ _ _ _ _ (D5 _) Zo Zo
theorem Ewa (T:List Tok)(n:Nat):Uu T 10 n=fB T n:=J3a (D5 _) (D5 _)
theorem A3 (T:List Tok)(n:Nat):fG T n=
  if Ig T n=fL then(fF T (n+1)).bind fun p=>(I6 T aJ p.2).map fun m=>(.mk 3 e0 [p.1] [] [],m)
  else if Ig T n=aA then
   if Ig T (n+1)=aJ then some (.mk 7 e0 [] [] [],n+2)
   else(Uu T 1 (n+1)).bind fun p=>(I6 T aJ p.2).map fun m=>(.mk 7 e0 [p.1] [] [],m)
  else if Ig T n=nV then(fF T (n+1)).bind fun p=>(gY T p.2).bind fun q=>
   if Ig T q.2=dI then(gY T (q.2+1)).map fun r=>(.mk 4 e0 [p.1] q.1 r.1,r.2)
   else some (.mk 4 e0 [p.1] q.1 [],q.2)
  else if Ig T n=bE then(fF T (n+1)).bind fun p=>(gY T p.2).map fun q=>(.mk 5 e0 [p.1] q.1 [],q.2)
  else jX T n:=by
 show iI T (5*(T.length - n)+1+1) n=_;rw[iI];by_cases h1:Ig T n=fL
 ·rw[Ka h1,Ka h1]
 rw[Jx h1,Jx h1];by_cases h2:Ig T n=aA
 ·rw[Ka h2,Ka h2]
 rw[Jx h2,Jx h2];by_cases h3:Ig T n=nV
 ·have hn:n<T.length:=Bt (by rw[h3];decide)
  rw[Ka h3,Ka h3];refine Az fun p hp=>?_
  have a:=Dk (x:=p.1) (m:=p.2) hp;rw[Pn Zo];refine Az fun q hq=>?_
  have b:=Kta (x:=q.1) (m:=q.2) hq;rw[Pn Zo]
 rw[Jx h3,Jx h3];by_cases h4:Ig T n=bE
 ·have hn:n<T.length:=Bt (by rw[h4];decide)
  rw[Ka h4,Ka h4];refine Az fun p hp=>?_
  have a:=Dk (x:=p.1) (m:=p.2) hp;rw[Pn Zo]
 rw[Jx h4,Jx h4]
theorem Jy (T:List Tok)(n:Nat):gY T n=(I6 T aH n).bind fun m=>cP T [] m:=by
 show gL T (5*(T.length - n)+3+1) n=_;rw[gL];refine Az fun m hm=>?_
 have a:=Am Zd hm;exact Qm Zo
theorem C8 (T:List Tok)(l:List St)(n:Nat):cP T l n=if Ig T n=eH then some (l,n+1) else(fG T n).bind fun p=>cP T (l++[p.1]) p.2:=by
 show eJ T (5*(T.length - n)+2+1) l n=_;rw[eJ];by_cases h1:Ig T n=eH
 ·rw[Ka h1,Ka h1]
 rw[Jx h1,Jx h1,F5a Zo];refine Az fun p hp=>?_
 have a:=Nu (x:=p.1) (m:=p.2) hp;exact Qm Zo
def kU (T:List Tok)(l:List Tx)(n:Nat):Option (List Tx×Nat):=Dd T (T.length - n+1) l n
theorem Hc (T:List Tok)(n:Nat):eA T n=(bW T 1 n).bind fun p=>kU T [p.1.text] p.2:=rfl
theorem Du (T:List Tok)(l:List Tx)(n:Nat):kU T l n=if Ig T n=Ug then(bW T 1 (n+1)).bind fun p=>kU T (l++[p.1.text]) p.2 else some (l,n):=by
 unfold kU;rw[Dd];by_cases h1:Ig T n=Ug
 ·rw[Ka h1,Ka h1]
  refine Az fun p hp=>?_
  have a:=At (t:=p.1) (m:=p.2) hp;exact Zy Zo Zo
 ·rw[Jx h1,Jx h1]
theorem Oy (T:List Tok): ∀f l n,T.length - n<f->C1 T f l n=C1 T (f+1) l n
 |0,l,n,h=>Zo
 |f+1,l,n,h=>by
  rw[C1,C1];by_cases h1:Ig T n=dP
  ·rw[Ka h1,Ka h1]
   refine Az fun p hp=>?_
   have a:=Eh (x:=p.1) (m:=p.2) hp;refine Az fun q hq=>?_
   have b:=Am Zd hq;exact Oy T f _ q Zo
  ·rw[Jx h1,Jx h1]
def kV (T:List Tok)(l:List Tx)(n:Nat):Option (List Tx×Nat):=C1 T (T.length - n+1) l n
theorem Ca (T:List Tok)(l:List Tx)(n:Nat):kV T l n=if Ig T n=dP then(eA T (n+1)).bind fun p=>(I6 T aJ p.2).bind fun m=>kV T (l++p.1) m else some (l,n):=by
 unfold kV;rw[C1];by_cases h1:Ig T n=dP
 ·rw[Ka h1,Ka h1]
  refine Az fun p hp=>?_
  have a:=Eh (x:=p.1) (m:=p.2) hp;refine Az fun q hq=>?_
  have b:=Am Zd hq;exact lD (b:=T.length - q+1) (F:=fun f=>C1 T f _ q) (fun f h=>Oy T f _ q Zo) _ _ Zo Zo
 ·rw[Jx h1,Jx h1]
theorem O6 (T:List Tok): ∀f v a n,T.length - n<f->lX T f v a n=lX T (f+1) v a n
 |0,v,a,n,h=>Zo
 |f+1,v,a,n,h=>by
  rw[lX,lX];by_cases h1:Ig T n=dP
  ·rw[Ka h1,Ka h1]
   refine Az fun p hp=>?_
   have a:=Eh (x:=p.1) (m:=p.2) hp;refine Az fun q hq=>?_
   have b:=Am Zd hq;exact O6 T f _ _ q Zo
  rw[Jx h1,Jx h1];by_cases h2:Ig T n=aT
  ·rw[Ka h2,Ka h2]
   refine Az fun p hp=>?_
   have a:=At (t:=p.1) (m:=p.2) hp;refine Az fun q hq=>?_
   have b:=Am Zd hq;refine Az fun r hr=>?_
   have c:=At (t:=r.1) (m:=r.2) hr;refine Az fun u hu=>?_
   have d:=Am Zd hu;refine Az fun w hw=>?_
   have e:=Am Zd hw;exact O6 T f _ _ w Zo
  rw[Jx h2,Jx h2]
def nE (T:List Tok)(v:List Tx)(a:List (Tx×Int))(n:Nat):Option ((List Tx×List (Tx×Int))×Nat):=lX T (T.length - n+1) v a n
theorem Lt{v:List Tx}{a:List (Tx×Int)}(hf:T.length - n<f):lX T f v a n=nE T v a n:=
 lD (b:=T.length - n+1) (F:=fun f=>lX T f v a n) (fun f h=>O6 T f v a n Zo) f _ Zo Zo
theorem Ck (T:List Tok)(v:List Tx)(a:List (Tx×Int))(n:Nat):nE T v a n=
  if Ig T n=dP then(eA T (n+1)).bind fun p=>(I6 T aJ p.2).bind fun m=>nE T (v++p.1) a m
  else if Ig T n=aT then(bW T 1 (n+1)).bind fun p=>(I6 T fO p.2).bind fun m=>(bW T 2 m).bind fun q=>(I6 T bU q.2).bind fun m=>(I6 T aJ m).bind fun m=>nE T v (a++[(p.1.text,IntKind.i64.wrap q.1.num)]) m
  else some ((v,a),n):=by
 conv=>lhs;unfold nE
 rw[lX];by_cases h1:Ig T n=dP
 ·rw[Ka h1,Ka h1]
  refine Az fun p hp=>?_
  have a:=Eh (x:=p.1) (m:=p.2) hp;refine Az fun q hq=>?_
  have b:=Am Zd hq;exact Lt Zo
 rw[Jx h1,Jx h1];by_cases h2:Ig T n=aT
 ·rw[Ka h2,Ka h2]
  refine Az fun p hp=>?_
  have a:=At (t:=p.1) (m:=p.2) hp;refine Az fun q hq=>?_
  have b:=Am Zd hq;refine Az fun r hr=>?_
  have c:=At (t:=r.1) (m:=r.2) hr;refine Az fun u hu=>?_
  have d:=Am Zd hu;refine Az fun w hw=>?_
  have e:=Am Zd hw;exact Lt Zo
 rw[Jx h2,Jx h2]
theorem Xg (T:List Tok): ∀f l n,T.length - n<f->kJ T f l n=kJ T (f+1) l n
 |0,l,n,h=>Zo
 |f+1,l,n,h=>by
  rw[kJ,kJ];refine Az fun m hm=>?_
  have a:=Am Zd hm;refine Az fun p hp=>?_
  have b:=Ts (x:=p.1) (m:=p.2) hp;by_cases h1:p.2<T.length
  ·rw[Ka h1,Ka h1]
   exact Xg T f _ p.2 Zo
  ·rw[Jx h1,Jx h1]
def gJ (T:List Tok)(l:List Fu)(n:Nat):Option (List Fu):=kJ T (T.length - n+1) l n
theorem Ru{l:List Fu}(hf:T.length - n<f):kJ T f l n=gJ T l n:=
 lD (b:=T.length - n+1) (F:=fun f=>kJ T f l n) (fun f h=>Xg T f l n Zo) f _ Zo Zo
theorem O9 (T:List Tok)(l:List Fu)(n:Nat):gJ T l n=(I6 T cR n).bind fun m=>(kK T m).bind fun p=>if p.2<T.length then gJ T (l++[p.1]) p.2 else some (l++[p.1]):=by
 conv=>lhs;unfold gJ
 rw[kJ];refine Az fun m hm=>?_
 have a:=Am Zd hm;refine Az fun p hp=>?_
 have b:=Ts (x:=p.1) (m:=p.2) hp;by_cases h1:p.2<T.length
 ·rw[Ka h1,Ka h1]
  exact Ru Zo
 ·rw[Jx h1,Jx h1]
theorem Jq (T:List Tok):iY T=(nE T [] [] 0).bind fun p=>(gJ T [] p.2).map fun l=>⟨p.1.1,p.1.2,l⟩:=by
 unfold iY;rw[Lt Zo];refine Az fun p hp=>?_
 rw[Ru Zo]
end
end Go.Ab.Sy
namespace Go.Proofs.YtggghdmdjpianaaGreatDoor
section
open Go Go.Ab Go.Ab.Sy
variable {R:AV->Hp->Prop}{s:ByteArray}{E:cD}{c:Code}{fn:Func}{hp a b:Hp}{args:List AV}{l:List ByteArray}{rvs:List ResultVar}{T:List Tok}{ts:List TypeId}{f k k1 d n i q gx gy:Nat}{X:aS}{P:Program}{PR:Value->Hp->Prop}
def qZ (a:Int):Value:= .iface 330 (.agg ⟨[.int .i64 a]⟩)
structure Rd (T:List Tok)(e:Int)(q gx gy n:Nat)(hp:Hp):Prop where
 box:hp ⟨1,q,0⟩= .box gx [.own ⟨1,q,1⟩ gy T.length,iv n,iv e] false
 arr:hp ⟨1,q,1⟩= .arr gy 4 75 (T.map Tok.row) false
 len:T.length<=1048576
 le:n<=T.length
def mZ (k q:Nat)(hp1 If:Hp):Prop:= ∀d i c,d<=k->(⟨d,i,c⟩:Nm)≠⟨1,q,0⟩->If ⟨d,i,c⟩=hp1 ⟨d,i,c⟩
abbrev Wr (k q:Nat)(hp1:Hp)(v:Value)(If:Hp):Prop:=(∃a,v=qZ a)/\mZ k q hp1 If
abbrev Wn (k q:Nat)(hp1:Hp)(S:Prop)(v:Value)(If:Hp):Prop:=Wr k q hp1 v If/\S
attribute [simp] jO dU rK kG
theorem Eaa(hk:k+1=k1)(hf:P.funcs[f]?=some fn)(hx:X.hpc k d f args hp=none)(hb:fn.body=some c)(Uz:Bb fn=true)(hl:args.length=fn.params.size+fn.nfree)
  (mK:fn.results.toList=rvs) (h:W P E k1 (eP P E X) c ⟨Uh args,hp⟩ (wB P k d rvs R PR)) (hi:E.inl f=false:=by first|rfl|simp) (hz:E.frz f=false:=by first|rfl|simp):
  (∃v hp',(eP P E X).hpc k d f args hp=some (v,hp')/\R v hp')\/ ∃n v hp',gU P E (eP P E X) (.fn k f args hp) n v hp'/\PR v hp':=by
 subst hk;exact Hua hf hx hb Uz hl mK h hi hz
theorem hB(hf:P.funcs[f]?=some fn)(hx:X.hpc k d f args hp=none)(h:W P E k1 (eP P E X) c ⟨Uh args,hp⟩ (wB P k d rvs R PR))(hk:k+1=k1:=by exact rfl)(hb:fn.body=some c:=by exact rfl)(Uz:Bb fn=true:=by exact Zf)(hl:args.length=fn.params.size+fn.nfree:=by exact rfl)(mK:fn.results.toList=rvs:=by(conv=>lhs;simp -implicitDefEqProofs)<;>exact rfl)(hi:E.inl f=false:=by first|rfl|simp)(hz:E.frz f=false:=by first|rfl|simp):(∃v hp',(eP P E X).hpc k d f args hp=some (v,hp')/\R v hp')\/ ∃n v hp',gU P E (eP P E X) (.fn k f args hp) n v hp'/\PR v hp':=Eaa hk hf hx hb Uz hl mK h hi hz
theorem Aea(hk:k+1=k1)(hf:P.funcs[f]?=some fn)(hx:X.hpc k d f args hp=none)(hb:fn.body=some c)(Uz:Bb fn=true)(hl:args.length=fn.params.size+fn.nfree)
  (mK:fn.results.toList=rvs) (ht:Iv P f=ts) (h:W P E k1 (eP P E X) c ⟨Uh args,hp⟩ (Yj P ts rvs R PR)) (hi:E.inl f=false:=by first|rfl|simp) (hz:E.frz f=true:=by first|rfl|simp):
  (∃v hp',(eP P E X).hpc k d f args hp=some (v,hp')/\R v hp')\/ ∃n v hp',gU P E (eP P E X) (.fn k f args hp) n v hp'/\PR v hp':=by
 subst hk;exact Eba hf hx hb Uz hl mK ht h hi hz
theorem hZ(hf:P.funcs[f]?=some fn)(hx:X.hpc k d f args hp=none)(h:W P E k1 (eP P E X) c ⟨Uh args,hp⟩ (Yj P ts rvs R PR))(hk:k+1=k1:=by exact rfl)(hb:fn.body=some c:=by exact rfl)(Uz:Bb fn=true:=by exact Zf)(hl:args.length=fn.params.size+fn.nfree:=by exact rfl)(mK:fn.results.toList=rvs:=by(conv=>lhs;simp -implicitDefEqProofs)<;>exact rfl)(ht:Iv P f=ts:=by(conv=>lhs;simp -implicitDefEqProofs)<;>exact rfl)(hi:E.inl f=false:=by first|rfl|simp)(hz:E.frz f=true:=by first|rfl|simp):(∃v hp',(eP P E X).hpc k d f args hp=some (v,hp')/\R v hp')\/ ∃n v hp',gU P E (eP P E X) (.fn k f args hp) n v hp'/\PR v hp':=Aea hk hf hx hb Uz hl mK ht h hi hz
@[simp] theorem Tok.row_mk (k:Int)(t:Tx)(n a:Int):Tok.row ⟨k,t,n,a⟩=[iz k,tz t.1,uz n,iz a]:=rfl
theorem L7(h: ¬n<T.length):T[n]?=none:=Ace Zo
@[simp] theorem lk_ne {j c c':Nat}(h:d≠k):((⟨d,i,c⟩:Nm)=⟨k,j,c'⟩)=False:=by simp[h]
theorem BM{e:Int}(D:Nat)(hD:1<=D)(d:Nat)(hp1:Hp)(hr:Rd T e q gx gy n hp1):HB P0 Un (Lm bX) D d 297 [.ptr ⟨1,q,0⟩ gx 0] hp1 (fun v If=>v=tv (Ig T n)/\Rd T e q gx gy n If/\mZ D q hp1 If) (fun _ _=>False):=by
 obtain⟨k,rfl⟩: ∃k,D=k+1:=⟨D - 1,Zo⟩;clear hD;refine hB (k1:=k+2) (PR:=fun _ _=>False) Tryz.func297 rfl ?_;obtain⟨h1,h2,Ij,aI⟩:=hr;by_cases hn:n<T.length
 ·have e1:(n:Int)<T.length:=Zo
  have e3:T[n]?=some T[n]:=Bs hn;generalize hq:T[n]=t at*;obtain⟨tk,tt,tn,ta⟩:=t;by_cases k3:tk=3
  ·subst k3
   repeat' first|refine ZN ?_|refine Z2 ?_ ?_|intro h h';try simp[*,-h] at h'
   all_goals refine⟨by simp[Ig,cG,e3, *];done,⟨Zm,Zm,Ij,aI⟩,fun d i c hd Ir=>by have Uc:d≠k+2:=Zo;simp[Uc,Ir]⟩
  ·by_cases k4:tk=4
   ·subst k4
    repeat' first|refine ZN ?_|refine Z2 ?_ ?_|intro h h';try simp[*,-h] at h'
    all_goals refine⟨by simp[Ig,cG,e3, *];done,⟨Zm,Zm,Ij,aI⟩,fun d i c hd Ir=>by have Uc:d≠k+2:=Zo;simp[Uc,Ir]⟩
   ·have q3:(tk==3)=false:=by simpa using k3
    have q4:(tk==4)=false:=by simpa using k4
    repeat' first|refine ZN ?_|refine Z2 ?_ ?_|intro h h';try simp[*,-h] at h'
    all_goals refine⟨by simp[Ig,cG,e3, *];done,⟨Zm,Zm,Ij,aI⟩,fun d i c hd Ir=>by have Uc:d≠k+2:=Zo;simp[Uc,Ir]⟩
 ·have e1: ¬(n:Int)<T.length:=Zo
  have e3:T[n]?=none:=L7 hn
  repeat' first|refine ZN ?_|refine Z2 ?_ ?_|intro h h';try simp[*,-h] at h'
  all_goals refine⟨by simp[Ig,cG,e3, *];done,⟨Zm,Zm,Ij,aI⟩,fun d i c hd Ir=>by have Uc:d≠k+2:=Zo;simp[Uc,Ir]⟩
theorem kind{e:Int}(D:Nat)(hD:1<=D)(d:Nat)(hp1:Hp)(hr:Rd T e q gx gy n hp1):HB P0 Un (Lm bX) D d 298 [.ptr ⟨1,q,0⟩ gx 0] hp1 (fun v If=>v=iv (cG T n)/\Rd T e q gx gy n If/\mZ D q hp1 If) (fun _ _=>False):=by
 obtain⟨k,rfl⟩: ∃k,D=k+1:=⟨D - 1,Zo⟩;clear hD;refine hB (k1:=k+2) (PR:=fun _ _=>False) Tryz.func298 rfl ?_;obtain⟨h1,h2,Ij,aI⟩:=hr;by_cases hn:n<T.length
 ·have e1:(n:Int)<T.length:=Zo
  have e3:T[n]?=some T[n]:=Bs hn;generalize hq:T[n]=t at*;obtain⟨tk,tt,tn,ta⟩:=t
  repeat' first|refine ZN ?_|refine Z2 ?_ ?_|intro h h';try simp[*,-h] at h'
  all_goals refine⟨by simp[Ig,cG,e3, *];done,⟨Zm,Zm,Ij,aI⟩,fun d i c hd Ir=>by have Uc:d≠k+2:=Zo;simp[Uc,Ir]⟩
 ·have e1: ¬(n:Int)<T.length:=Zo
  have e3:T[n]?=none:=L7 hn
  repeat' first|refine ZN ?_|refine Z2 ?_ ?_|intro h h';try simp[*,-h] at h'
  all_goals refine⟨by simp[Ig,cG,e3, *];done,⟨Zm,Zm,Ij,aI⟩,fun d i c hd Ir=>by have Uc:d≠k+2:=Zo;simp[Uc,Ir]⟩
theorem fail{e:Int}(D:Nat)(hD:1<=D)(d:Nat)(hp1:Hp)(hr:Rd T e q gx gy n hp1):HB P0 Un (Lm bX) D d 219 [.ptr ⟨1,q,0⟩ gx 0] hp1 (fun v If=>False) (Wr D q hp1):=by
 obtain⟨k,rfl⟩: ∃k,D=k+1:=⟨D - 1,Zo⟩;clear hD;refine hB (k1:=k+2) (PR:=Wr (k+1) q hp1) Tryz.func219 rfl ?_;obtain⟨h1,h2,Ij,aI⟩:=hr;by_cases hn:n<T.length
 ·have e1:(n:Int)<T.length:=Zo
  have e3:T[n]?=some T[n]:=Bs hn;generalize hq:T[n]=t at*;obtain⟨tk,tt,tn,ta⟩:=t
  repeat' (first|(apply W_srdt (c:=13) (idx:=[0,1,2,3,4,5,6,7,8,9,10,11,12]);kernel_rfl;kernel_rfl;simp only[T9,nT,Nh,X4,Rt,T7,X1];(repeat' (first|exact dL.nil|((with_reducible apply Ay);exact Zc)));exact rfl;exact Zc)|(refine Z1 ?_)|(refine Z2 ?_ ?_)|(intro h h';try simp[*,-h] at h'))
  all_goals exact⟨⟨_,rfl⟩,fun _ _ _ _ _=>rfl⟩
 ·have e1: ¬(n:Int)<T.length:=Zo
  have e3:T[n]?=none:=L7 hn
  repeat' first|refine ZN ?_|refine Z2 ?_ ?_|intro h h';try simp[*,-h] at h'
  all_goals exact⟨⟨_,rfl⟩,fun _ _ _ _ _=>rfl⟩
theorem mZ.trans {k':Nat}{c:Hp}(h1:mZ k q a b)(h2:mZ k' q b c)(h:k<=k'):mZ k q a c:=fun d i x hd Ir=>(h2 d i x Zo Ir).trans (h1 d i x hd Ir)
theorem mZ.own {D:Nat}(h:mZ D q a b)(hD:D≠1): ∀i c,b ⟨D,i,c⟩=a ⟨D,i,c⟩:=fun i c=>h _ i c (D5 _) (by simp[hD])
theorem mZ.all(h:mZ k1 q a b)(hk:k<=k1): ∀d i c,d<=k->(⟨d,i,c⟩:Nm)≠⟨1,q,0⟩->b ⟨d,i,c⟩=a ⟨d,i,c⟩:=fun d i c hd Ir=>h d i c Zo Ir
theorem Oc(h:Ig T n=s)(hs:s≠⟨#[]⟩):n<T.length:=Bt (by rw[h];exact hs)
theorem H4a{k:Int}(h:cG T n=k)(hs:k≠0):n<T.length:=by
 by_cases hn:n<T.length
 ·exact hn
 ·unfold cG at h
  rw[L7 hn] at h;exact(hs h.symm).elim
theorem Bda{k:Int}(h:cG T n=k)(hn:n<T.length):bW T k n=some (T[n],n+1):=by
 unfold cG at h;unfold bW;rw[Bs hn] at h⊢;exact Ka h
theorem Ss{k:Int}(h: ¬cG T n=k):bW T k n=none:=by
 unfold cG at h;unfold bW
 cases hq:T[n]? with
 |none=>rfl
 |some t=>
  rw[hq] at h;exact Jx h
theorem B2a(h:Ig T n=s):I6 T s n=some (n+1):=Ka h
theorem B1a(h: ¬Ig T n=s):I6 T s n=none:=Jx h
def jP (T:List Tok):List ByteArray->Nat->Option Nat
 |[],n=>some n
 |s::l,n=>(I6 T s n).bind (jP T l)
theorem Hja(hl:l[i]?=some s)(h:Ig T n=s):jP T (l.drop i) n=jP T (l.drop (i+1)) (n+1):=by
 obtain⟨hi,rfl⟩:=Oh.1 hl;rw[Ng hi,jP,B2a h];rfl
theorem Hia(hl:l[i]?=some s)(h: ¬Ig T n=s):jP T (l.drop i) n=none:=by
 obtain⟨hi,rfl⟩:=Oh.1 hl;rw[Ng hi,jP,B1a h];rfl
end
end Go.Proofs.YtggghdmdjpianaaGreatDoor
