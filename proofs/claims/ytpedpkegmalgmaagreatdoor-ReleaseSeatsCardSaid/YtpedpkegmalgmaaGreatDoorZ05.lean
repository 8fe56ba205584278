/- A part of the proof: F8, Be, Hf, Qp. -/
import Derived.KernelRfl
import Derived.Test.YtpedpkegmalgmaaGreatDoorProg
import Derived.Test.YtpedpkegmalgmaaGreatDoorZ00
import Derived.Test.YtpedpkegmalgmaaGreatDoorZ04
set_option linter.unusedSimpArgs false
set_option linter.unusedVariables false
set_option maxRecDepth 200000
set_option maxHeartbeats 8000000
namespace Go.Proofs.YtpedpkegmalgmaaGreatDoor
section
open Go Go.Ab
noncomputable abbrev P0 :Program:=Tryz.prog
@[simp] theorem rtys_6 :rtys Tryz.prog 6=[24,38]:=by kernel_rfl
@[simp] theorem bodyOk_6 :bodyOk Tryz.f6=true:=by kernel_rfl
@[simp] theorem rtys_12 :rtys Tryz.prog 12=[24,38]:=by kernel_rfl
@[simp] theorem bodyOk_12 :bodyOk Tryz.f12=true:=by kernel_rfl
@[simp] theorem rtys_13 :rtys Tryz.prog 13=[24]:=by kernel_rfl
@[simp] theorem bodyOk_13 :bodyOk Tryz.f13=true:=by kernel_rfl
@[simp] theorem rtys_28 :rtys Tryz.prog 28=[24]:=by kernel_rfl
@[simp] theorem bodyOk_28 :bodyOk Tryz.f28=true:=by kernel_rfl
@[simp] theorem rtys_32 :rtys Tryz.prog 32=[9,38]:=by kernel_rfl
@[simp] theorem bodyOk_32 :bodyOk Tryz.f32=true:=by kernel_rfl
@[simp] theorem rtys_33 :rtys Tryz.prog 33=[24]:=by kernel_rfl
@[simp] theorem bodyOk_33 :bodyOk Tryz.f33=true:=by kernel_rfl
@[simp] theorem jF8_0 :okFn Tryz.prog 5=true∧ptys Tryz.prog 5=[]∧rtys Tryz.prog 5=[4]∧flatF Tryz.prog 5=true∧okFn Tryz.prog 6=true∧ptys Tryz.prog 6=[36]∧flatF Tryz.prog 6=true∧okFn Tryz.prog 12=true∧ptys Tryz.prog 12=[31]∧flatF Tryz.prog 12=true∧okFn Tryz.prog 13=true∧ptys Tryz.prog 13=[59]∧flatF Tryz.prog 13=true∧okFn Tryz.prog 28=true∧ptys Tryz.prog 28=[9]∧flatF Tryz.prog 28=true∧okFn Tryz.prog 32=true∧ptys Tryz.prog 32=[31]∧flatF Tryz.prog 32=true∧okFn Tryz.prog 33=true∧ptys Tryz.prog 33=[24,24]∧flatF Tryz.prog 33=true∧okFn Tryz.prog 34=true∧ptys Tryz.prog 34=[9]:=Zh
@[simp] theorem rtys_34 :rtys Tryz.prog 34=[24]:=by kernel_rfl
@[simp] theorem bodyOk_34 :bodyOk Tryz.f34=true:=by kernel_rfl
@[simp] theorem rtys_35 :rtys Tryz.prog 35=[9]:=by kernel_rfl
@[simp] theorem bodyOk_35 :bodyOk Tryz.f35=true:=by kernel_rfl
@[simp] theorem rtys_37 :rtys Tryz.prog 37=[24]:=by kernel_rfl
@[simp] theorem bodyOk_37 :bodyOk Tryz.f37=true:=by kernel_rfl
@[simp] theorem rtys_41 :rtys Tryz.prog 41=[4]:=by kernel_rfl
@[simp] theorem bodyOk_41 :bodyOk Tryz.f41=true:=by kernel_rfl
@[simp] theorem rtys_46 :rtys Tryz.prog 46=[85,38]:=by kernel_rfl
@[simp] theorem bodyOk_46 :bodyOk Tryz.f46=true:=by kernel_rfl
@[simp] theorem rtys_47 :rtys Tryz.prog 47=[100]:=by kernel_rfl
@[simp] theorem bodyOk_47 :bodyOk Tryz.f47=true:=by kernel_rfl
@[simp] theorem okFn_52 :okFn Tryz.prog 52=true:=by kernel_rfl
@[simp] theorem bodyOk_52 :bodyOk Tryz.f52=true:=by kernel_rfl
@[simp] theorem rtys_53 :rtys Tryz.prog 53=[24]:=by kernel_rfl
@[simp] theorem bodyOk_53 :bodyOk Tryz.f53=true:=by kernel_rfl
@[simp] theorem rtys_54 :rtys Tryz.prog 54=[100]:=by kernel_rfl
@[simp] theorem bodyOk_54 :bodyOk Tryz.f54=true:=by kernel_rfl
@[simp] theorem jF8_1 :flatF Tryz.prog 34=true∧okFn Tryz.prog 35=true∧ptys Tryz.prog 35=[85]∧flatF Tryz.prog 35=true∧okFn Tryz.prog 37=true∧ptys Tryz.prog 37=[24,24]∧flatF Tryz.prog 37=true∧okFn Tryz.prog 41=true∧ptys Tryz.prog 41=[31]∧flatF Tryz.prog 41=true∧okFn Tryz.prog 46=true∧ptys Tryz.prog 46=[9]∧flatF Tryz.prog 46=false∧okFn Tryz.prog 47=true∧ptys Tryz.prog 47=[100,24]∧flatF Tryz.prog 47=true∧okFn Tryz.prog 53=true∧ptys Tryz.prog 53=[100]∧flatF Tryz.prog 53=true∧okFn Tryz.prog 54=true∧ptys Tryz.prog 54=[100,23]∧flatF Tryz.prog 54=true∧okFn Tryz.prog 55=true∧ptys Tryz.prog 55=[9,3]:=Zh
@[simp] theorem rtys_55 :rtys Tryz.prog 55=[23]:=by kernel_rfl
@[simp] theorem bodyOk_55 :bodyOk Tryz.f55=true:=by kernel_rfl
@[simp] theorem rtys_62 :rtys Tryz.prog 62=[100]:=by kernel_rfl
@[simp] theorem bodyOk_62 :bodyOk Tryz.f62=true:=by kernel_rfl
@[simp] theorem rtys_68 :rtys Tryz.prog 68=[100]:=by kernel_rfl
@[simp] theorem bodyOk_68 :bodyOk Tryz.f68=true:=by kernel_rfl
@[simp] theorem rtys_75 :rtys Tryz.prog 75=[22]:=by kernel_rfl
@[simp] theorem bodyOk_75 :bodyOk Tryz.f75=true:=by kernel_rfl
@[simp] theorem rtys_82 :rtys Tryz.prog 82=[22]:=by kernel_rfl
@[simp] theorem bodyOk_82 :bodyOk Tryz.f82=true:=by kernel_rfl
@[simp] theorem rtys_91 :rtys Tryz.prog 91=[22]:=by kernel_rfl
@[simp] theorem bodyOk_91 :bodyOk Tryz.f91=true:=by kernel_rfl
@[simp] theorem rtys_108 :rtys Tryz.prog 108=[165,3,38]:=by kernel_rfl
@[simp] theorem bodyOk_108 :bodyOk Tryz.f108=true:=by kernel_rfl
@[simp] theorem rtys_111 :rtys Tryz.prog 111=[169,38]:=by kernel_rfl
@[simp] theorem okFn_117 :okFn Tryz.prog 117=true:=by kernel_rfl
@[simp] theorem okFn_118 :okFn Tryz.prog 118=true:=by kernel_rfl
@[simp] theorem bodyOk_118 :bodyOk Tryz.f118=true:=by kernel_rfl
@[simp] theorem okFn_119 :okFn Tryz.prog 119=true:=by kernel_rfl
@[simp] theorem rtys_119 :rtys Tryz.prog 119=[165]:=by kernel_rfl
@[simp] theorem bodyOk_119 :bodyOk Tryz.f119=true:=by kernel_rfl
@[simp] theorem jF8_2 :flatF Tryz.prog 55=true∧okFn Tryz.prog 62=true∧ptys Tryz.prog 62=[100]∧flatF Tryz.prog 62=true∧okFn Tryz.prog 68=true∧ptys Tryz.prog 68=[100]∧flatF Tryz.prog 68=true∧okFn Tryz.prog 74=true∧ptys Tryz.prog 74=[]∧rtys Tryz.prog 74=[130]∧flatF Tryz.prog 74=true∧okFn Tryz.prog 75=true∧ptys Tryz.prog 75=[22,3]∧flatF Tryz.prog 75=true∧okFn Tryz.prog 82=true∧ptys Tryz.prog 82=[22,3]∧flatF Tryz.prog 82=true∧okFn Tryz.prog 91=true∧ptys Tryz.prog 91=[22,3]∧flatF Tryz.prog 91=true∧okFn Tryz.prog 120=true∧ptys Tryz.prog 120=[165]∧rtys Tryz.prog 120=[4]∧flatF Tryz.prog 120=true:=Zh
@[simp] theorem bodyOk_128 :bodyOk Tryz.f128=true:=by kernel_rfl
@[simp] theorem rtys_135 :rtys Tryz.prog 135=[213,3,38]:=by kernel_rfl
@[simp] theorem bodyOk_135 :bodyOk Tryz.f135=true:=by kernel_rfl
@[simp] theorem okFn_137 :okFn Tryz.prog 137=true:=by kernel_rfl
@[simp] theorem bodyOk_137 :bodyOk Tryz.f137=true:=by kernel_rfl
@[simp] theorem okFn_138 :okFn Tryz.prog 138=true:=by kernel_rfl
@[simp] theorem bodyOk_138 :bodyOk Tryz.f138=true:=by kernel_rfl
@[simp] theorem okFn_139 :okFn Tryz.prog 139=true:=by kernel_rfl
@[simp] theorem rtys_139 :rtys Tryz.prog 139=[42]:=by kernel_rfl
@[simp] theorem bodyOk_139 :bodyOk Tryz.f139=true:=by kernel_rfl
@[simp] theorem okFn_140 :okFn Tryz.prog 140=true:=by kernel_rfl
@[simp] theorem rtys_140 :rtys Tryz.prog 140=[223]:=by kernel_rfl
@[simp] theorem bodyOk_140 :bodyOk Tryz.f140=true:=by kernel_rfl
@[simp] theorem okFn_141 :okFn Tryz.prog 141=true:=by kernel_rfl
@[simp] theorem bodyOk_141 :bodyOk Tryz.f141=true:=by kernel_rfl
@[simp] theorem okFn_142 :okFn Tryz.prog 142=true:=by kernel_rfl
@[simp] theorem rtys_142 :rtys Tryz.prog 142=[230]:=by kernel_rfl
@[simp] theorem bodyOk_142 :bodyOk Tryz.f142=true:=by kernel_rfl
@[simp] theorem okFn_154 :okFn Tryz.prog 154=true:=by kernel_rfl
@[simp] theorem bodyOk_154 :bodyOk Tryz.f154=true:=by kernel_rfl
@[simp] theorem okFn_155 :okFn Tryz.prog 155=true:=by kernel_rfl
@[simp] theorem bodyOk_155 :bodyOk Tryz.f155=true:=by kernel_rfl
@[simp] theorem bodyOk_156 :bodyOk Tryz.f156=true:=by kernel_rfl
@[simp] theorem rtys_163 :rtys Tryz.prog 163=[4]:=by kernel_rfl
@[simp] theorem bodyOk_163 :bodyOk Tryz.f163=true:=by kernel_rfl
@[simp] theorem rtys_164 :rtys Tryz.prog 164=[9]:=by kernel_rfl
@[simp] theorem bodyOk_164 :bodyOk Tryz.f164=true:=by kernel_rfl
@[simp] theorem rtys_165 :rtys Tryz.prog 165=[4]:=by kernel_rfl
@[simp] theorem bodyOk_165 :bodyOk Tryz.f165=true:=by kernel_rfl
@[simp] theorem rtys_166 :rtys Tryz.prog 166=[223,38]:=by kernel_rfl
@[simp] theorem bodyOk_166 :bodyOk Tryz.f166=true:=by kernel_rfl
@[simp] theorem okFn_167 :okFn Tryz.prog 167=true:=by kernel_rfl
@[simp] theorem bodyOk_167 :bodyOk Tryz.f167=true:=by kernel_rfl
@[simp] theorem okFn_168 :okFn Tryz.prog 168=true:=by kernel_rfl
@[simp] theorem bodyOk_168 :bodyOk Tryz.f168=true:=by kernel_rfl
@[simp] theorem okFn_169 :okFn Tryz.prog 169=true:=by kernel_rfl
@[simp] theorem rtys_169 :rtys Tryz.prog 169=[228]:=by kernel_rfl
@[simp] theorem bodyOk_169 :bodyOk Tryz.f169=true:=by kernel_rfl
@[simp] theorem bodyOk_191 :bodyOk Tryz.f191=true:=by kernel_rfl
@[simp] theorem bodyOk_192 :bodyOk Tryz.f192=true:=by kernel_rfl
@[simp] theorem bodyOk_193 :bodyOk Tryz.f193=true:=by kernel_rfl
@[simp] theorem okFn_194 :okFn Tryz.prog 194=true:=by kernel_rfl
@[simp] theorem bodyOk_194 :bodyOk Tryz.f194=true:=by kernel_rfl
@[simp] theorem rtys_201 :rtys Tryz.prog 201=[4]:=by kernel_rfl
@[simp] theorem bodyOk_201 :bodyOk Tryz.f201=true:=by kernel_rfl
@[simp] theorem rtys_204 :rtys Tryz.prog 204=[4]:=by kernel_rfl
@[simp] theorem jF8_3 :okFn Tryz.prog 135=true∧ptys Tryz.prog 135=[9]∧flatF Tryz.prog 135=false∧okFn Tryz.prog 156=true∧okFn Tryz.prog 163=true∧ptys Tryz.prog 163=[9,9]∧flatF Tryz.prog 163=true∧okFn Tryz.prog 164=true∧ptys Tryz.prog 164=[9,290]∧flatF Tryz.prog 164=true∧okFn Tryz.prog 165=true∧ptys Tryz.prog 165=[5]∧flatF Tryz.prog 165=true∧okFn Tryz.prog 166=true∧ptys Tryz.prog 166=[9]∧flatF Tryz.prog 166=true∧okFn Tryz.prog 192=true∧okFn Tryz.prog 193=true∧okFn Tryz.prog 201=true∧ptys Tryz.prog 201=[281]∧flatF Tryz.prog 201=true∧okFn Tryz.prog 204=true∧ptys Tryz.prog 204=[9,9]∧flatF Tryz.prog 204=true:=Zh
@[simp] theorem bodyOk_204 :bodyOk Tryz.f204=true:=by kernel_rfl
@[simp] theorem rtys_205 :rtys Tryz.prog 205=[4]:=by kernel_rfl
@[simp] theorem bodyOk_205 :bodyOk Tryz.f205=true:=by kernel_rfl
@[simp] theorem rtys_206 :rtys Tryz.prog 206=[223,38]:=by kernel_rfl
@[simp] theorem bodyOk_206 :bodyOk Tryz.f206=true:=by kernel_rfl
@[simp] theorem rtys_207 :rtys Tryz.prog 207=[223,38]:=by kernel_rfl
@[simp] theorem bodyOk_207 :bodyOk Tryz.f207=true:=by kernel_rfl
@[simp] theorem rtys_208 :rtys Tryz.prog 208=[4]:=by kernel_rfl
@[simp] theorem bodyOk_208 :bodyOk Tryz.f208=true:=by kernel_rfl
@[simp] theorem rtys_209 :rtys Tryz.prog 209=[223,38]:=by kernel_rfl
@[simp] theorem bodyOk_209 :bodyOk Tryz.f209=true:=by kernel_rfl
@[simp] theorem rtys_210 :rtys Tryz.prog 210=[4]:=by kernel_rfl
@[simp] theorem bodyOk_210 :bodyOk Tryz.f210=true:=by kernel_rfl
@[simp] theorem okFn_211 :okFn Tryz.prog 211=true:=by kernel_rfl
@[simp] theorem rtys_211 :rtys Tryz.prog 211=[298]:=by kernel_rfl
@[simp] theorem bodyOk_211 :bodyOk Tryz.f211=true:=by kernel_rfl
@[simp] theorem rtys_212 :rtys Tryz.prog 212=[4]:=by kernel_rfl
@[simp] theorem bodyOk_212 :bodyOk Tryz.f212=true:=by kernel_rfl
@[simp] theorem rtys_247 :rtys Tryz.prog 247=[281,38]:=by kernel_rfl
@[simp] theorem jF8_4 :okFn Tryz.prog 205=true∧ptys Tryz.prog 205=[5]∧flatF Tryz.prog 205=true∧okFn Tryz.prog 206=true∧ptys Tryz.prog 206=[9]∧flatF Tryz.prog 206=true∧okFn Tryz.prog 207=true∧ptys Tryz.prog 207=[9]∧flatF Tryz.prog 207=true∧okFn Tryz.prog 208=true∧ptys Tryz.prog 208=[5]∧flatF Tryz.prog 208=true∧okFn Tryz.prog 209=true∧ptys Tryz.prog 209=[9]∧flatF Tryz.prog 209=true∧okFn Tryz.prog 210=true∧ptys Tryz.prog 210=[5]∧flatF Tryz.prog 210=true∧okFn Tryz.prog 212=true∧ptys Tryz.prog 212=[9]∧flatF Tryz.prog 212=true∧okFn Tryz.prog 247=true∧ptys Tryz.prog 247=[22]∧flatF Tryz.prog 247=true:=Zh
@[simp] theorem bodyOk_247 :bodyOk Tryz.f247=true:=by kernel_rfl
@[simp] theorem okFn_248 :okFn Tryz.prog 248=true:=by kernel_rfl
@[simp] theorem bodyOk_248 :bodyOk Tryz.f248=true:=by kernel_rfl
@[simp] theorem rtys_274 :rtys Tryz.prog 274=[4]:=by kernel_rfl
@[simp] theorem bodyOk_274 :bodyOk Tryz.f274=true:=by kernel_rfl
@[simp] theorem rtys_276 :rtys Tryz.prog 276=[4]:=by kernel_rfl
@[simp] theorem bodyOk_276 :bodyOk Tryz.f276=true:=by kernel_rfl
@[simp] theorem okFn_279 :okFn Tryz.prog 279=true:=by kernel_rfl
@[simp] theorem rtys_279 :rtys Tryz.prog 279=[296]:=by kernel_rfl
@[simp] theorem bodyOk_279 :bodyOk Tryz.f279=true:=by kernel_rfl
@[simp] theorem okFn_280 :okFn Tryz.prog 280=true:=by kernel_rfl
@[simp] theorem rtys_280 :rtys Tryz.prog 280=[361]:=by kernel_rfl
@[simp] theorem bodyOk_280 :bodyOk Tryz.f280=true:=by kernel_rfl
@[simp] theorem okFn_281 :okFn Tryz.prog 281=true:=by kernel_rfl
@[simp] theorem rtys_281 :rtys Tryz.prog 281=[228]:=by kernel_rfl
@[simp] theorem bodyOk_281 :bodyOk Tryz.f281=true:=by kernel_rfl
@[simp] theorem okFn_282 :okFn Tryz.prog 282=true:=by kernel_rfl
@[simp] theorem rtys_282 :rtys Tryz.prog 282=[298]:=by kernel_rfl
@[simp] theorem bodyOk_282 :bodyOk Tryz.f282=true:=by kernel_rfl
@[simp] theorem bodyOk_315 :bodyOk Tryz.f315=true:=by kernel_rfl
@[simp] theorem bodyOk_316 :bodyOk Tryz.f316=true:=by kernel_rfl
@[simp] theorem bodyOk_317 :bodyOk Tryz.f317=true:=by kernel_rfl
@[simp] theorem rtys_318 :rtys Tryz.prog 318=[22,38]:=by kernel_rfl
@[simp] theorem bodyOk_318 :bodyOk Tryz.f318=true:=by kernel_rfl
@[simp] theorem okFn_323 :okFn Tryz.prog 323=true:=by kernel_rfl
@[simp] theorem rtys_323 :rtys Tryz.prog 323=[361]:=by kernel_rfl
@[simp] theorem bodyOk_323 :bodyOk Tryz.f323=true:=by kernel_rfl
@[simp] theorem rtys_324 :rtys Tryz.prog 324=[361,3]:=by kernel_rfl
@[simp] theorem bodyOk_324 :bodyOk Tryz.f324=true:=by kernel_rfl
@[simp] theorem okFn_325 :okFn Tryz.prog 325=true:=by kernel_rfl
@[simp] theorem rtys_325 :rtys Tryz.prog 325=[296]:=by kernel_rfl
@[simp] theorem bodyOk_325 :bodyOk Tryz.f325=true:=by kernel_rfl
@[simp] theorem rtys_344 :rtys Tryz.prog 344=[85]:=by kernel_rfl
@[simp] theorem bodyOk_344 :bodyOk Tryz.f344=true:=by kernel_rfl
@[simp] theorem jF8_5 :okFn Tryz.prog 274=true∧ptys Tryz.prog 274=[3]∧flatF Tryz.prog 274=true∧okFn Tryz.prog 275=true∧ptys Tryz.prog 275=[3]∧rtys Tryz.prog 275=[428]∧flatF Tryz.prog 275=true∧okFn Tryz.prog 276=true∧ptys Tryz.prog 276=[3,3,4]∧flatF Tryz.prog 276=true∧okFn Tryz.prog 315=true∧okFn Tryz.prog 316=true∧okFn Tryz.prog 317=true∧okFn Tryz.prog 318=true∧ptys Tryz.prog 318=[3,22,22]∧flatF Tryz.prog 318=true∧okFn Tryz.prog 324=true∧ptys Tryz.prog 324=[9]∧flatF Tryz.prog 324=false∧okFn Tryz.prog 344=true∧ptys Tryz.prog 344=[85]∧flatF Tryz.prog 344=false∧okFn Tryz.prog 345=true∧ptys Tryz.prog 345=[3,22,22]:=Zh
@[simp] theorem rtys_345 :rtys Tryz.prog 345=[22,38]:=by kernel_rfl
@[simp] theorem bodyOk_345 :bodyOk Tryz.f345=true:=by kernel_rfl
@[simp] theorem rtys_346 :rtys Tryz.prog 346=[22]:=by kernel_rfl
@[simp] theorem bodyOk_346 :bodyOk Tryz.f346=true:=by kernel_rfl
@[simp] theorem rtys_347 :rtys Tryz.prog 347=[22]:=by kernel_rfl
@[simp] theorem bodyOk_347 :bodyOk Tryz.f347=true:=by kernel_rfl
@[simp] theorem rtys_350 :rtys Tryz.prog 350=[361]:=by kernel_rfl
@[simp] theorem bodyOk_350 :bodyOk Tryz.f350=true:=by kernel_rfl
@[simp] theorem cellsOf_3 :Tryz.prog.cellsOf 3=1:=by kernel_rfl
@[simp] theorem isAggB_4 :isAggB Tryz.prog 4=false:=by kernel_rfl
@[simp] theorem jF8_6 :flatF Tryz.prog 345=true∧okFn Tryz.prog 346=true∧ptys Tryz.prog 346=[3,22,22]∧flatF Tryz.prog 346=true∧okFn Tryz.prog 347=true∧ptys Tryz.prog 347=[3,22,22]∧flatF Tryz.prog 347=true∧okFn Tryz.prog 350=true∧ptys Tryz.prog 350=[3]∧flatF Tryz.prog 350=false∧Tryz.prog.bytesOf 3=8∧slel Tryz.prog 3=none∧isAggB Tryz.prog 3=false∧tOk Tryz.prog 3=true∧intK Tryz.prog 3=some IntKind.i64∧zrow Tryz.prog 3=some [AV.sc (Value.int IntKind.i64 0)]∧tcs Tryz.prog 3=[3]∧zok Tryz.prog 3=true∧zeros Tryz.prog 3=some [Value.int IntKind.i64 0]∧(Tryz.prog.info? 3).isSome=true∧Tryz.prog.cellsOf 4=1∧slel Tryz.prog 4=none∧zrow Tryz.prog 4=some [AV.sc (Value.bool false)]∧tcs Tryz.prog 4=[4]:=Zh
@[simp] theorem cellsOf_9 :Tryz.prog.cellsOf 9=1:=by kernel_rfl
@[simp] theorem cellsOf_22 :Tryz.prog.cellsOf 22=1:=by kernel_rfl
@[simp] theorem jF8_7 :zok Tryz.prog 4=true∧(Tryz.prog.info? 4).isSome=true∧Tryz.prog.cellsOf 5=1∧Tryz.prog.bytesOf 5=1∧isAggB Tryz.prog 5=false∧intK Tryz.prog 5=some IntKind.u8∧zrow Tryz.prog 5=some [AV.sc (Value.int IntKind.u8 0)]∧tcs Tryz.prog 5=[5]∧zok Tryz.prog 5=true∧Tryz.prog.bytesOf 9=16∧slel Tryz.prog 9=none∧isAggB Tryz.prog 9=false∧tOk Tryz.prog 9=true∧strB Tryz.prog 9=true∧zrow Tryz.prog 9=some [AV.sc (Value.string {data:={toList:=[]}})]∧tcs Tryz.prog 9=[9]∧zok Tryz.prog 9=true∧(Tryz.prog.info? 9).isSome=true∧Tryz.prog.bytesOf 22=4∧slel Tryz.prog 22=none∧isAggB Tryz.prog 22=false∧tOk Tryz.prog 22=true∧intK Tryz.prog 22=some IntKind.u32∧zrow Tryz.prog 22=some [AV.sc (Value.int IntKind.u32 0)]:=Zh
@[simp] theorem cellsOf_24 :Tryz.prog.cellsOf 24=4:=by kernel_rfl
@[simp] theorem jF8_8 :tcs Tryz.prog 22=[22]∧zok Tryz.prog 22=true∧(Tryz.prog.info? 22).isSome=true∧Tryz.prog.cellsOf 23=4∧isAggB Tryz.prog 23=true∧arrOf Tryz.prog 23=some (4,22)∧tcs Tryz.prog 23=[22,22,22,22]∧zeros Tryz.prog 23=some [Value.int IntKind.u32 0,Value.int IntKind.u32 0,Value.int IntKind.u32 0,Value.int IntKind.u32 0]∧(Tryz.prog.info? 23).isSome=true∧Tryz.prog.bytesOf 24=16∧isAggB Tryz.prog 24=true∧tOk Tryz.prog 24=true∧arrOf Tryz.prog 24=some (4,22)∧zrow Tryz.prog 24=some [AV.sc (Value.int IntKind.u32 0),AV.sc (Value.int IntKind.u32 0),AV.sc (Value.int IntKind.u32 0),AV.sc (Value.int IntKind.u32 0)]∧bldOk Tryz.prog 24=true∧tcs Tryz.prog 24=[22,22,22,22]∧zok Tryz.prog 24=true∧zeros Tryz.prog 24=some [Value.int IntKind.u32 0,Value.int IntKind.u32 0,Value.int IntKind.u32 0,Value.int IntKind.u32 0]∧(Tryz.prog.info? 24).isSome=true∧Tryz.prog.cellsOf 25=1∧slel Tryz.prog 25=some 3∧isAggB Tryz.prog 25=false∧zrow Tryz.prog 25=some [AV.sl false 1 []]∧tcs Tryz.prog 25=[25]:=Zh
@[simp] theorem cellsOf_27 :Tryz.prog.cellsOf 27=9:=by kernel_rfl
@[simp] theorem cellsOf_28 :Tryz.prog.cellsOf 28=18:=by kernel_rfl
@[simp] theorem jF8_9 :srcT Tryz.prog 25=true∧zok Tryz.prog 25=true∧zeros Tryz.prog 25=some [Value.slice none 0 0]∧(Tryz.prog.info? 25).isSome=true∧isAggB Tryz.prog 27=true∧tOk Tryz.prog 27=true∧tcs Tryz.prog 27=[3,25,9,3,22,22,22,22,9]∧flds Tryz.prog 27=[(0,1,3),(1,1,25),(2,1,9),(3,1,3),(4,4,24),(8,1,9)]∧zeros Tryz.prog 27=some [Value.int IntKind.i64 0,Value.slice none 0 0,Value.string {data:={toList:=[]}},Value.int IntKind.i64 0,Value.int IntKind.u32 0,Value.int IntKind.u32 0,Value.int IntKind.u32 0,Value.int IntKind.u32 0,Value.string {data:={toList:=[]}}]∧(Tryz.prog.info? 27).isSome=true∧arrOf Tryz.prog 28=some (2,27)∧Tryz.prog.cellsOf 29=1∧slel Tryz.prog 29=some 24∧isAggB Tryz.prog 29=false∧tcs Tryz.prog 29=[29]∧srcT Tryz.prog 29=true∧Tryz.prog.cellsOf 31=8∧isAggB Tryz.prog 31=true∧tcs Tryz.prog 31=[3,22,22,22,22,25,29,3]∧flds Tryz.prog 31=[(0,1,3),(1,4,24),(5,1,25),(6,1,29),(7,1,3)]∧Tryz.prog.cellsOf 32=1∧slel Tryz.prog 32=some 67∧isAggB Tryz.prog 32=false∧tcs Tryz.prog 32=[32]:=Zh
@[simp] theorem isAggB_38 :isAggB Tryz.prog 38=false:=by kernel_rfl
@[simp] theorem jF8_10 :Tryz.prog.cellsOf 36=41∧isAggB Tryz.prog 36=true∧tcs Tryz.prog 36=[22,22,22,22,22,22,22,22,3,25,9,3,22,22,22,22,9,3,25,9,3,22,22,22,22,9,3,22,22,22,22,25,29,3,32,3,22,22,22,22,32]∧flds Tryz.prog 36=[(0,4,24),(4,4,24),(8,18,28),(26,8,31),(34,1,32),(35,5,34),(40,1,32)]∧Tryz.prog.cellsOf 38=1∧tcs Tryz.prog 38=[38]∧zeros Tryz.prog 38=some [Value.int IntKind.i64 0]∧(Tryz.prog.info? 38).isSome=true∧Tryz.prog.cellsOf 42=1∧slel Tryz.prog 42=some 9∧isAggB Tryz.prog 42=false∧tcs Tryz.prog 42=[42]∧srcT Tryz.prog 42=true∧(Tryz.prog.info? 42).isSome=true∧Tryz.prog.cellsOf 44=1∧isAggB Tryz.prog 44=true∧arrOf Tryz.prog 44=none∧bldOk Tryz.prog 44=true∧tcs Tryz.prog 44=[42]∧flds Tryz.prog 44=[(0,1,42)]∧zeros Tryz.prog 44=some [Value.slice none 0 0]∧(Tryz.prog.info? 44).isSome=true∧Tryz.prog.cellsOf 46=2∧isAggB Tryz.prog 46=true:=Zh
@[simp] theorem jF8_11 :tcs Tryz.prog 46=[29,3]∧flds Tryz.prog 46=[(0,1,29),(1,1,3)]∧Tryz.prog.cellsOf 59=8∧isAggB Tryz.prog 59=true∧arrOf Tryz.prog 59=none∧bldOk Tryz.prog 59=true∧tcs Tryz.prog 59=[22,22,22,22,22,22,22,22]∧flds Tryz.prog 59=[(0,4,24),(4,4,24)]∧zeros Tryz.prog 59=some [Value.int IntKind.u32 0,Value.int IntKind.u32 0,Value.int IntKind.u32 0,Value.int IntKind.u32 0,Value.int IntKind.u32 0,Value.int IntKind.u32 0,Value.int IntKind.u32 0,Value.int IntKind.u32 0]∧Tryz.prog.cellsOf 85=1∧slel Tryz.prog 85=some 22∧isAggB Tryz.prog 85=false∧tcs Tryz.prog 85=[85]∧srcT Tryz.prog 85=true∧zeros Tryz.prog 85=some [Value.slice none 0 0]∧(Tryz.prog.info? 85).isSome=true∧intK Tryz.prog 92=some IntKind.u64∧intK Tryz.prog 93=some IntKind.u64∧Tryz.prog.cellsOf 100=8∧isAggB Tryz.prog 100=true∧arrOf Tryz.prog 100=some (8,22)∧bldOk Tryz.prog 100=true∧tcs Tryz.prog 100=[22,22,22,22,22,22,22,22]∧zeros Tryz.prog 100=some [Value.int IntKind.u32 0,Value.int IntKind.u32 0,Value.int IntKind.u32 0,Value.int IntKind.u32 0,Value.int IntKind.u32 0,Value.int IntKind.u32 0,Value.int IntKind.u32 0,Value.int IntKind.u32 0]:=Zh
@[simp] theorem jF8_12 :(Tryz.prog.info? 100).isSome=true∧Tryz.prog.cellsOf 110=1∧slel Tryz.prog 110=some 5∧isAggB Tryz.prog 110=false∧strB Tryz.prog 110=false∧tcs Tryz.prog 110=[110]∧srcT Tryz.prog 110=true∧(Tryz.prog.info? 110).isSome=true∧Tryz.prog.cellsOf 130=4∧isAggB Tryz.prog 130=true∧arrOf Tryz.prog 130=some (4,3)∧tcs Tryz.prog 130=[3,3,3,3]∧zeros Tryz.prog 130=some [Value.int IntKind.i64 0,Value.int IntKind.i64 0,Value.int IntKind.i64 0,Value.int IntKind.i64 0]∧(Tryz.prog.info? 130).isSome=true∧Tryz.prog.cellsOf 162=1∧slel Tryz.prog 162=some 227∧isAggB Tryz.prog 162=false∧tcs Tryz.prog 162=[162]∧srcT Tryz.prog 162=true∧(Tryz.prog.info? 162).isSome=true∧Tryz.prog.cellsOf 163=1∧slel Tryz.prog 163=some 230∧isAggB Tryz.prog 163=false∧tcs Tryz.prog 163=[163]:=Zh
@[simp] theorem isAggB_169 :isAggB Tryz.prog 169=true:=by kernel_rfl
@[simp] theorem tcs_169 :tcs Tryz.prog 169=[85,3]:=by kernel_rfl
@[simp] theorem jF8_13 :srcT Tryz.prog 163=true∧(Tryz.prog.info? 163).isSome=true∧Tryz.prog.cellsOf 165=3∧isAggB Tryz.prog 165=true∧tcs Tryz.prog 165=[42,162,163]∧flds Tryz.prog 165=[(0,1,42),(1,1,162),(2,1,163)]∧zeros Tryz.prog 165=some [Value.slice none 0 0,Value.slice none 0 0,Value.slice none 0 0]∧(Tryz.prog.info? 165).isSome=true∧Tryz.prog.cellsOf 169=2∧flds Tryz.prog 169=[(0,1,85),(1,1,3)]∧arrOf Tryz.prog 199=some (16,22)∧Tryz.prog.cellsOf 201=22∧isAggB Tryz.prog 201=true∧tcs Tryz.prog 201=[3,22,22,22,22,22,22,22,22,22,22,22,22,22,22,22,22,85,3,9,3,3]∧flds Tryz.prog 201=[(0,1,3),(1,16,199),(17,1,85),(18,1,3),(19,1,9),(20,1,3),(21,1,3)]∧zeros Tryz.prog 201=some [Value.int IntKind.i64 0,Value.int IntKind.u32 0,Value.int IntKind.u32 0,Value.int IntKind.u32 0,Value.int IntKind.u32 0,Value.int IntKind.u32 0,Value.int IntKind.u32 0,Value.int IntKind.u32 0,Value.int IntKind.u32 0,Value.int IntKind.u32 0,Value.int IntKind.u32 0,Value.int IntKind.u32 0,Value.int IntKind.u32 0,Value.int IntKind.u32 0,Value.int IntKind.u32 0,Value.int IntKind.u32 0,Value.int IntKind.u32 0,Value.slice none 0 0,Value.int IntKind.i64 0,Value.string {data:={toList:=[]}},Value.int IntKind.i64 0,Value.int IntKind.i64 0]∧(Tryz.prog.info? 201).isSome=true∧Tryz.prog.cellsOf 213=1∧slel Tryz.prog 213=some 223∧isAggB Tryz.prog 213=false∧tcs Tryz.prog 213=[213]∧srcT Tryz.prog 213=true∧Tryz.prog.cellsOf 217=1∧arrOf Tryz.prog 217=none:=Zh
@[simp] theorem jF8_14 :bldOk Tryz.prog 217=true∧tcs Tryz.prog 217=[3]∧flds Tryz.prog 217=[(0,1,3)]∧zeros Tryz.prog 217=some [Value.int IntKind.i64 0]∧(Tryz.prog.info? 217).isSome=true∧Tryz.prog.cellsOf 219=3∧arrOf Tryz.prog 219=none∧bldOk Tryz.prog 219=true∧tcs Tryz.prog 219=[213,3,3]∧flds Tryz.prog 219=[(0,1,213),(1,1,3),(2,1,3)]∧zeros Tryz.prog 219=some [Value.slice none 0 0,Value.int IntKind.i64 0,Value.int IntKind.i64 0]∧Tryz.prog.cellsOf 223=4∧Tryz.prog.bytesOf 223=40∧isAggB Tryz.prog 223=true∧tOk Tryz.prog 223=true∧arrOf Tryz.prog 223=none∧zrow Tryz.prog 223=some [AV.sc (Value.int IntKind.i64 0),AV.sc (Value.string {data:={toList:=[]}}),AV.sc (Value.int IntKind.u32 0),AV.sc (Value.int IntKind.i64 0)]∧bldOk Tryz.prog 223=true∧tcs Tryz.prog 223=[3,9,22,3]∧zok Tryz.prog 223=true∧flds Tryz.prog 223=[(0,1,3),(1,1,9),(2,1,22),(3,1,3)]∧zeros Tryz.prog 223=some [Value.int IntKind.i64 0,Value.string {data:={toList:=[]}},Value.int IntKind.u32 0,Value.int IntKind.i64 0]∧(Tryz.prog.info? 223).isSome=true∧Tryz.prog.cellsOf 227=2:=Zh
@[simp] theorem jF8_15 :Tryz.prog.bytesOf 227=24∧arrOf Tryz.prog 227=none∧zrow Tryz.prog 227=some [AV.sc (Value.string {data:={toList:=[]}}),AV.sc (Value.int IntKind.i64 0)]∧bldOk Tryz.prog 227=true∧tcs Tryz.prog 227=[9,3]∧zok Tryz.prog 227=true∧flds Tryz.prog 227=[(0,1,9),(1,1,3)]∧zeros Tryz.prog 227=some [Value.string {data:={toList:=[]}},Value.int IntKind.i64 0]∧Tryz.prog.cellsOf 228=1∧slel Tryz.prog 228=some 298∧isAggB Tryz.prog 228=false∧tcs Tryz.prog 228=[228]∧srcT Tryz.prog 228=true∧(Tryz.prog.info? 228).isSome=true∧Tryz.prog.cellsOf 230=5∧Tryz.prog.bytesOf 230=96∧isAggB Tryz.prog 230=true∧zrow Tryz.prog 230=some [AV.sc (Value.string {data:={toList:=[]}}),AV.sl false 1 [],AV.sl false 1 [],AV.sc (Value.bool false),AV.sl false 5 []]∧tcs Tryz.prog 230=[9,42,42,4,228]∧zok Tryz.prog 230=true∧flds Tryz.prog 230=[(0,1,9),(1,1,42),(2,1,42),(3,1,4),(4,1,228)]∧zeros Tryz.prog 230=some [Value.string {data:={toList:=[]}},Value.slice none 0 0,Value.slice none 0 0,Value.bool false,Value.slice none 0 0]∧(Tryz.prog.info? 230).isSome=true∧Tryz.prog.cellsOf 253=1:=Zh
@[simp] theorem jF8_16 :isAggB Tryz.prog 253=false∧tcs Tryz.prog 253=[253]∧Tryz.prog.cellsOf 281=4∧isAggB Tryz.prog 281=true∧arrOf Tryz.prog 281=none∧bldOk Tryz.prog 281=true∧tcs Tryz.prog 281=[3,3,3,3]∧flds Tryz.prog 281=[(0,1,3),(1,1,3),(2,1,3),(3,1,3)]∧zeros Tryz.prog 281=some [Value.int IntKind.i64 0,Value.int IntKind.i64 0,Value.int IntKind.i64 0,Value.int IntKind.i64 0]∧(Tryz.prog.info? 281).isSome=true∧Tryz.prog.cellsOf 290=1∧isAggB Tryz.prog 290=false∧tcs Tryz.prog 290=[290]∧Tryz.prog.cellsOf 296=1∧slel Tryz.prog 296=some 361∧isAggB Tryz.prog 296=false∧tcs Tryz.prog 296=[296]∧srcT Tryz.prog 296=true∧(Tryz.prog.info? 296).isSome=true∧Tryz.prog.cellsOf 298=5∧Tryz.prog.bytesOf 298=96∧isAggB Tryz.prog 298=true∧arrOf Tryz.prog 298=none∧zrow Tryz.prog 298=some [AV.sc (Value.int IntKind.i64 0),AV.sc (Value.string {data:={toList:=[]}}),AV.sl false 5 [],AV.sl false 5 [],AV.sl false 5 []]:=Zh
@[simp] theorem jF8_17 :bldOk Tryz.prog 298=true∧tcs Tryz.prog 298=[3,9,296,228,228]∧zok Tryz.prog 298=true∧flds Tryz.prog 298=[(0,1,3),(1,1,9),(2,1,296),(3,1,228),(4,1,228)]∧zeros Tryz.prog 298=some [Value.int IntKind.i64 0,Value.string {data:={toList:=[]}},Value.slice none 0 0,Value.slice none 0 0,Value.slice none 0 0]∧(Tryz.prog.info? 298).isSome=true∧Tryz.prog.cellsOf 340=26∧arrOf Tryz.prog 340=none∧bldOk Tryz.prog 340=true∧tcs Tryz.prog 340=[85,9,3,22,22,22,22,22,22,22,22,22,22,22,22,22,22,22,22,85,3,9,3,3,4,110]∧flds Tryz.prog 340=[(0,1,85),(1,1,9),(2,22,201),(24,1,4),(25,1,110)]∧zeros Tryz.prog 340=some [Value.slice none 0 0,Value.string {data:={toList:=[]}},Value.int IntKind.i64 0,Value.int IntKind.u32 0,Value.int IntKind.u32 0,Value.int IntKind.u32 0,Value.int IntKind.u32 0,Value.int IntKind.u32 0,Value.int IntKind.u32 0,Value.int IntKind.u32 0,Value.int IntKind.u32 0,Value.int IntKind.u32 0,Value.int IntKind.u32 0,Value.int IntKind.u32 0,Value.int IntKind.u32 0,Value.int IntKind.u32 0,Value.int IntKind.u32 0,Value.int IntKind.u32 0,Value.int IntKind.u32 0,Value.slice none 0 0,Value.int IntKind.i64 0,Value.string {data:={toList:=[]}},Value.int IntKind.i64 0,Value.int IntKind.i64 0,Value.bool false,Value.slice none 0 0]∧slel Tryz.prog 357=none∧arrOf Tryz.prog 357=some (24,9)∧Tryz.prog.cellsOf 361=5∧Tryz.prog.bytesOf 361=64∧isAggB Tryz.prog 361=true∧arrOf Tryz.prog 361=none∧zrow Tryz.prog 361=some [AV.sc (Value.int IntKind.i64 0),AV.sc (Value.int IntKind.i64 0),AV.sc (Value.int IntKind.u32 0),AV.sc (Value.string {data:={toList:=[]}}),AV.sl false 5 []]∧bldOk Tryz.prog 361=true∧tcs Tryz.prog 361=[3,3,22,9,296]∧zok Tryz.prog 361=true∧flds Tryz.prog 361=[(0,1,3),(1,1,3),(2,1,22),(3,1,9),(4,1,296)]∧zeros Tryz.prog 361=some [Value.int IntKind.i64 0,Value.int IntKind.i64 0,Value.int IntKind.u32 0,Value.string {data:={toList:=[]}},Value.slice none 0 0]:=Zh
@[simp] theorem jF8_18 :(Tryz.prog.info? 361).isSome=true∧Tryz.prog.cellsOf 428=4∧isAggB Tryz.prog 428=true∧tcs Tryz.prog 428=[9,4,4,3]∧flds Tryz.prog 428=[(0,1,9),(1,1,4),(2,1,4),(3,1,3)]∧zeros Tryz.prog 428=some [Value.string {data:={toList:=[]}},Value.bool false,Value.bool false,Value.int IntKind.i64 0]∧(Tryz.prog.info? 428).isSome=true∧slel Tryz.prog 435=none∧arrOf Tryz.prog 435=some (10,9)∧Tryz.prog.cellsOf 34=5∧isAggB Tryz.prog 34=true∧arrOf Tryz.prog 34=none∧bldOk Tryz.prog 34=true∧tcs Tryz.prog 34=[3,22,22,22,22]∧flds Tryz.prog 34=[(0,1,3),(1,4,24)]∧zeros Tryz.prog 34=some [Value.int IntKind.i64 0,Value.int IntKind.u32 0,Value.int IntKind.u32 0,Value.int IntKind.u32 0,Value.int IntKind.u32 0]∧(Tryz.prog.info? 34).isSome=true∧Tryz.prog.cellsOf 67=7∧isAggB Tryz.prog 67=true∧tOk Tryz.prog 67=true∧tcs Tryz.prog 67=[22,22,22,22,3,63,29]∧flds Tryz.prog 67=[(0,4,24),(4,3,65)]∧zeros Tryz.prog 67=some [Value.int IntKind.u32 0,Value.int IntKind.u32 0,Value.int IntKind.u32 0,Value.int IntKind.u32 0,Value.int IntKind.i64 0,Value.slice none 0 0,Value.slice none 0 0]∧(Tryz.prog.info? 67).isSome=true:=Zh
@[simp] theorem jF8_19 :Tryz.prog.cellsOf 63=1∧slel Tryz.prog 63=some 24∧isAggB Tryz.prog 63=false∧tcs Tryz.prog 63=[63]∧Tryz.prog.cellsOf 65=3∧isAggB Tryz.prog 65=true∧tcs Tryz.prog 65=[3,63,29]∧flds Tryz.prog 65=[(0,1,3),(1,1,63),(2,1,29)]:=Zh
def hpL :List Nat:=[117,118,119,137,138,139,140,141,142,167,168,169,211,279,280,281,282,323,325,
 217,218,283,284,285,286,220,221,222,288,289,290,291,292,293,326,
 202,203,277,278,320,321,322,348,349,249,250,251,
 160,199,200,255,256,259,265,268,270,273,254,257,258,260,261,262,263,264,266,267,269,271,272]
def frzL :List Nat:=[119,139,140,142,169,211,279,280,281,282,323,325]
def E47 :Cfg:={eq:=fun _=>false,hp:=fun f=>hpL.contains f,yl:=fun _=>false,inl:=fun f=>f==220,frz:=fun f=>frzL.contains f,ws:=70,cl:=true,bx:=fun t=>t==270}
@[simp] theorem E47_off :E47.off=0:=rfl
@[simp] theorem E47_bx (t:Nat):E47.bx t=(t==270):=rfl
@[simp] theorem E47_eq (t:Nat):E47.eq t=false:=rfl
@[simp] theorem E47_cl :E47.cl=true:=rfl
@[simp] theorem E47_ws :E47.ws=70:=rfl
@[simp] theorem wrap_1 :IntKind.i64.wrap 1=1:=by decide+kernel
@[simp] theorem wrap_2 :IntKind.i64.wrap 2=2:=by decide+kernel
@[simp] theorem wrap_0 :IntKind.i64.wrap 0=0:=by decide+kernel
theorem wrapN {k:Nat}(h:k<9223372036854775807):IntKind.i64.wrap ((k:Int)+1)=(k:Int)+1:=wrap64 (by omega) (by omega)
abbrev iv (n:Int):AV:= .sc (.int .i64 n)
abbrev uv (n:Int):AV:= .sc (.int .u32 n)
abbrev bv (b:Bool):AV:= .sc (.bool b)
abbrev tv (s:ByteArray):AV:= .sc (.string s)
def X46 :Orc:=⟨fun _ _=>none,fun _ _ _ _ _=>none⟩
noncomputable abbrev Lm (X:Orc):Orc:=lim Tryz.prog E47 X
theorem rvs_6 :Tryz.f6.results.toList=[.cell 2 24,.tmp 3]:=rfl
theorem rvs_12 :Tryz.f12.results.toList=[.cell 2 24,.tmp 3]:=rfl
theorem rvs_13 :Tryz.f13.results.toList=[.cell 2 24]:=rfl
theorem rvs_32 :Tryz.f32.results.toList=[.tmp 2,.tmp 3]:=rfl
theorem rvs_41 :Tryz.f41.results.toList=[.tmp 2]:=rfl
theorem rvs_52 :Tryz.f52.results.toList=[]:=rfl
theorem rvs_108 :Tryz.f108.results.toList=[.cell 2 165,.tmp 3,.tmp 4]:=rfl
theorem rvs_118 :Tryz.f118.results.toList=[]:=rfl
theorem rvs_119 :Tryz.f119.results.toList=[.cell 2 165]:=rfl
theorem rvs_135 :Tryz.f135.results.toList=[.tmp 2,.tmp 3,.tmp 4]:=rfl
theorem rvs_137 :Tryz.f137.results.toList=[]:=rfl
theorem rvs_138 :Tryz.f138.results.toList=[.tmp 4]:=rfl
theorem rvs_139 :Tryz.f139.results.toList=[.tmp 2]:=rfl
theorem rvs_140 :Tryz.f140.results.toList=[.cell 4 223]:=rfl
theorem rvs_141 :Tryz.f141.results.toList=[]:=rfl
theorem rvs_142 :Tryz.f142.results.toList=[.cell 2 230]:=rfl
theorem rvs_163 :Tryz.f163.results.toList=[.tmp 4]:=rfl
theorem rvs_164 :Tryz.f164.results.toList=[.tmp 4]:=rfl
theorem rvs_165 :Tryz.f165.results.toList=[.tmp 2]:=rfl
theorem rvs_166 :Tryz.f166.results.toList=[.cell 2 223,.tmp 3]:=rfl
theorem rvs_167 :Tryz.f167.results.toList=[.tmp 2]:=rfl
theorem rvs_168 :Tryz.f168.results.toList=[.tmp 2]:=rfl
theorem rvs_169 :Tryz.f169.results.toList=[.tmp 2]:=rfl
theorem rvs_204 :Tryz.f204.results.toList=[.tmp 4]:=rfl
theorem rvs_205 :Tryz.f205.results.toList=[.tmp 2]:=rfl
theorem rvs_206 :Tryz.f206.results.toList=[.cell 2 223,.tmp 3]:=rfl
theorem rvs_207 :Tryz.f207.results.toList=[.cell 2 223,.tmp 3]:=rfl
theorem rvs_208 :Tryz.f208.results.toList=[.tmp 2]:=rfl
theorem rvs_209 :Tryz.f209.results.toList=[.cell 2 223,.tmp 3]:=rfl
theorem rvs_210 :Tryz.f210.results.toList=[.tmp 2]:=rfl
theorem rvs_211 :Tryz.f211.results.toList=[.cell 2 298]:=rfl
theorem rvs_212 :Tryz.f212.results.toList=[.tmp 2]:=rfl
theorem rvs_279 :Tryz.f279.results.toList=[.tmp 2]:=rfl
theorem rvs_280 :Tryz.f280.results.toList=[.cell 4 361]:=rfl
theorem rvs_281 :Tryz.f281.results.toList=[.tmp 2]:=rfl
theorem rvs_282 :Tryz.f282.results.toList=[.cell 2 298]:=rfl
theorem rvs_323 :Tryz.f323.results.toList=[.cell 2 361]:=rfl
theorem rvs_324 :Tryz.f324.results.toList=[.cell 2 361,.tmp 3]:=rfl
theorem rvs_325 :Tryz.f325.results.toList=[.tmp 2]:=rfl
theorem rvs_350 :Tryz.f350.results.toList=[.cell 2 361]:=rfl
@[simp] theorem jHf_0 :E47.hp 35=false∧E47.hp 46=false∧E47.hp 47=false∧E47.hp 53=false∧E47.hp 54=false∧E47.hp 55=false∧E47.hp 62=false∧E47.hp 68=false∧E47.hp 74=false∧E47.hp 75=false∧E47.hp 82=false∧E47.hp 91=false∧E47.hp 118=true∧E47.hp 120=false∧E47.hp 135=false∧E47.hp 139=true∧E47.hp 142=true∧E47.hp 163=false∧E47.hp 164=false∧E47.hp 165=false∧E47.hp 166=false∧E47.hp 204=false∧E47.hp 205=false∧E47.hp 206=false:=Zj
@[simp] theorem jHf_1 :E47.hp 207=false∧E47.hp 208=false∧E47.hp 209=false∧E47.hp 210=false∧E47.hp 212=false∧E47.hp 280=true∧E47.hp 324=false∧E47.hp 350=false:=Zj
end
end Go.Proofs.YtpedpkegmalgmaaGreatDoor
namespace Go.Proofs.YtpedpkegmalgmaaGreatDoor.Q
section
open Go Go.Ab
def upto {α:Type}(f:Nat→α)(k:Nat):List α:=(List.range k).map f
theorem upto_succ {α:Type}(f:Nat→α)(k:Nat):upto f (k+1)=upto f k++[f k]:=by simp[upto,List.range_succ]
theorem upto_length {α:Type}(f:Nat→α)(k:Nat):(upto f k).length=k:=by simp[upto]
def byteAt (s:ByteArray)(i:Nat):Int:=(s.data.toList.getD i 0).toNat
def wordAt (s:ByteArray)(i:Nat):Int:=byteAt s i+256*byteAt s (i+1)+65536*byteAt s (i+2)+16777216*byteAt s (i+3)
theorem or_add {x y:Nat}(i:Nat)(h:x<2^i):x|||y*2^i=x+y*2^i:=by
 rw[Nat.or_comm,←Nat.shiftLeft_eq,←Nat.shiftLeft_add_eq_or_of_lt h,Nat.shiftLeft_eq,Nat.add_comm]
theorem bits_or {x y:Nat}(hx:x<4294967296)(hy:y<4294967296):bits .or .u32 (x:Int) (y:Int)=((x|||y:Nat):Int):=by
 have h:(BitVec.ofInt 32 (x:Int)|||BitVec.ofInt 32 (y:Int)).toNat=x|||y:=by
  rw[BitVec.toNat_or,BitVec.ofInt_natCast,BitVec.ofInt_natCast,BitVec.toNat_ofNat,BitVec.toNat_ofNat,Nat.mod_eq_of_lt hx,Nat.mod_eq_of_lt hy]
 show IntKind.u32.wrap ((BitVec.ofInt 32 (x:Int)|||BitVec.ofInt 32 (y:Int)).toNat:Int)=_
 rw[h,IntKind.wrap_u32]
 have:x|||y<2^32:=Nat.or_lt_two_pow (by omega) (by omega)
 omega
theorem wrapN {k:Nat}(h:k<9223372036854775807):IntKind.i64.wrap ((k:Int)+1)=(k:Int)+1:=wrap64 (by omega) (by omega)
def U (n:Int):Prop:=0≤n∧n<4294967296
def b4 (w:Int):List Int:=[w%256,w/256%256,w/65536%256,w/16777216%256]
def bys (l:List Int):List Int:=l.flatMap b4
abbrev rowB (l:List Int):List (List AV):=l.map fun x=>[.sc (.int .u8 x)]
def toBytes (l:List Int):List UInt8:=l.map fun x=>UInt8.ofNat x.toNat
def txtW (l:List Int):ByteArray:=⟨⟨toBytes (bys l)⟩⟩
@[simp] theorem fd8 (w:Int):w.fdiv (2^min 8 IntKind.u32.bits)=w/256:=by rw[show(2:Int)^min 8 IntKind.u32.bits=256 from by decide+kernel];exact Int.fdiv_eq_ediv_of_nonneg _ (by omega)
@[simp] theorem fd16 (w:Int):w.fdiv (2^min 16 IntKind.u32.bits)=w/65536:=by rw[show(2:Int)^min 16 IntKind.u32.bits=65536 from by decide+kernel];exact Int.fdiv_eq_ediv_of_nonneg _ (by omega)
@[simp] theorem fd24 (w:Int):w.fdiv (2^min 24 IntKind.u32.bits)=w/16777216:=by rw[show(2:Int)^min 24 IntKind.u32.bits=16777216 from by decide+kernel];exact Int.fdiv_eq_ediv_of_nonneg _ (by omega)
theorem bytes_rowB : ∀l:List Int,bytesOfRows (rowB l)=some (toBytes l)
 |[]=>rfl
 |x::l=>by
  have:=bytes_rowB l
  unfold rowB at this⊢
  simp only[List.map_cons,bytesOfRows,this,Option.map_some,toBytes]
theorem bys_len : ∀l:List Int,(bys l).length=4*l.length
 |[]=>rfl
 |x::l=>by
  have:=bys_len l
  unfold bys at this⊢
  simp only[List.flatMap_cons,List.length_append,this,List.length_cons,b4,List.length_nil];omega
theorem bys_snoc {l:List Int}{k:Nat}{w:Int}(h:l[k]?=some w):bys (l.take k)++b4 w=bys (l.take (k+1)):=by
 rw[List.take_add_one,h]
 unfold bys
 rw[List.flatMap_append]
 simp
abbrev rowW (l:List Int):List (List AV):=l.map fun x=>[uv x]
theorem d26 (l:List Int)(hl:l.length≤1048576)(hU: ∀x∈l,U x):(lim Tryz.prog E47 X46).dat 35 [.sl false 1 (rowW l)]=some [.sc (.string (txtW l))]:=by
 refine fnW Tryz.func35 rfl rfl bodyOk_35 rfl rtys_35 rfl ?_
 have hm:IntKind.i64.wrap (4*(l.length:Int))=4*(l.length:Int):=wrap64 (by omega) (by omega)
 have m0:(0:Int)≤4*(l.length:Int):=by omega
 have m1:4*(l.length:Int)≤9223372036854775807:=by omega
 have m2:4*(l.length:Int)≤140737488355328:=by omega
 repeat' (first|(refine ZN ?_)|(refine Z2 ?_ ?_)|(intro h h';try simp[*,-h] at h'))
 refine W_loopS (n:=l.length) (fun s0 m s=> ∃k g:Nat,m=l.length - k∧k≤l.length∧s.fr 12=iv k∧s.fr 3= .own ⟨0,9,0⟩ g (4*k)∧s.fr 10=s0.fr 10∧s.fr 11=s0.fr 11∧s.hp ⟨0,9,0⟩= .arr g 1 5 (rowB (bys (l.take k))) false) ⟨0,1,by simp,by omega,by simp,by simp,by simp,by simp,by simp[bys]⟩ ?_
 rintro m ⟨fr,hp⟩ ⟨k,g,rfl,hk,hs12,hs3,hs10,hs11,hh9⟩
 simp at hs12 hs3 hs10 hs11 hh9
 by_cases hlt:k<l.length
 ·have hg:=List.getElem?_eq_getElem hlt
  have hw:=wrapN (k:=k) (by omega)
  have e0:IntKind.u8.wrap l[k]=l[k]%256:=IntKind.wrap_u8 _
  have e1:IntKind.u8.wrap (l[k]/256)=l[k]/256%256:=IntKind.wrap_u8 _
  have e2:IntKind.u8.wrap (l[k]/65536)=l[k]/65536%256:=IntKind.wrap_u8 _
  have e3:IntKind.u8.wrap (l[k]/16777216)=l[k]/16777216%256:=IntKind.wrap_u8 _
  have hbl:(bys (l.take k)).length=4*k:=by rw[bys_len,List.length_take];omega
  have hap:rowB (bys (l.take k))++[[.sc (.int .u8 (l[k]%256))],[.sc (.int .u8 (l[k]/256%256))],[.sc (.int .u8 (l[k]/65536%256))],[.sc (.int .u8 (l[k]/16777216%256))]]=rowB (bys (l.take (k+1))):=by
   rw[←bys_snoc hg];simp[b4]
  have b1:4*k≤140737488355324:=by omega
  have b2:4*k≤9223372036854775803:=by omega
  repeat' (first|(refine ZN ?_)|(refine Z2 ?_ ?_)|(intro h h';try simp[*,-h] at h'))
  exact⟨_,by omega,k+1,g+1,rfl,hlt,by simp,by simp[Nat.mul_add],by simp[*],by simp[*],by simp[*]⟩
 ·obtain rfl:k=l.length:=by omega
  have hta:l.take l.length=l:=List.take_of_length_le (Nat.le_refl _)
  have hbl:(bys l).length=4*l.length:=bys_len l
  have htk:(rowB (bys l)).take (4*l.length)=rowB (bys l):=List.take_of_length_le (by simp[hbl])
  have hbr:=bytes_rowB (bys l)
  rw[hta] at hh9
  repeat' (first|(refine ZN ?_)|(refine Z2 ?_ ?_)|(intro h h';try simp[*,-h] at h'))
  rfl
theorem byte_data {s:ByteArray}{i:Nat}(h:i<s.size): ∃B:UInt8,s.data[i]?=some B∧(B.toNat:Int)=byteAt s i:=by
 have hlt:i<s.data.size:=h
 refine⟨s.data[i],Array.getElem?_eq_getElem hlt,?_⟩
 unfold byteAt
 rw[List.getD_eq_getElem?_getD,List.getElem?_eq_getElem (by simpa using hlt)]
 simp
def wordL (L:List UInt8)(i:Nat):Int:=((L.getD i 0).toNat:Int)+256*(L.getD (i+1) 0).toNat+65536*(L.getD (i+2) 0).toNat+16777216*(L.getD (i+3) 0).toNat
theorem wordAt_L (s:ByteArray)(i:Nat):wordAt s i=wordL s.data.toList i:=rfl
theorem wordL_app (A L:List UInt8)(i:Nat):wordL (A++L) (A.length+i)=wordL L i:=by
 have e: ∀j,(A++L).getD (A.length+j) 0=L.getD j 0:=fun j=>by
  simp[List.getD_eq_getElem?_getD,List.getElem?_append_right]
 unfold wordL
 rw[e i,Nat.add_assoc,e,Nat.add_assoc,e,Nat.add_assoc,e]
theorem toBytes_len (l:List Int):(toBytes l).length=l.length:=by simp[toBytes]
theorem toBytes_app (a b:List Int):toBytes (a++b)=toBytes a++toBytes b:=by simp[toBytes]
theorem bys_cons (w:Int)(l:List Int):bys (w::l)=b4 w++bys l:=rfl
theorem byte_toNat (w:Int):((UInt8.ofNat (w%256).toNat).toNat:Int)=w%256:=by
 have:(w%256).toNat<256:=by omega
 simp;omega
theorem wordL_b4 {w:Int}(h:U w)(L:List UInt8):wordL (toBytes (b4 w)++L) 0=w:=by
 unfold wordL toBytes b4 at*
 simp only[List.map_cons,List.map_nil,List.cons_append,List.nil_append,Nat.zero_add,List.getD_cons_zero,List.getD_cons_succ,byte_toNat]
 unfold U at h
 omega
theorem wordL_bys (l:List Int)(h: ∀x∈l,U x)(T:List UInt8): ∀k (hk:k<l.length),wordL (toBytes (bys l)++T) (4*k)=l[k]:=by
 induction l with
 |nil=>intro k hk;simp at hk
 |cons w l ih=>
  intro k hk
  rw[bys_cons,toBytes_app,List.append_assoc]
  cases k with
  |zero=>exact wordL_b4 (h w (List.mem_cons_self ..)) _
  |succ k=>
   have e:4*(k+1)=(toBytes (b4 w)).length+4*k:=by rw[toBytes_len];simp[b4];omega
   rw[e,wordL_app]
   exact ih (fun x hx=>h x (List.mem_cons_of_mem _ hx)) k (by simpa using hk)
theorem ba_ext {a b:ByteArray}(h:a.data.toList=b.data.toList):a=b:=by
 apply ByteArray.ext;exact Array.toList_inj.1 h
theorem ba_size (a:ByteArray):a.size=a.data.toList.length:=rfl
end
end Go.Proofs.YtpedpkegmalgmaaGreatDoor.Q
