/- A part of the proof: F8, Be, Hf, Qp, Qa, Qb, Qc, Qx. -/
import Derived.KernelRfl
import Derived.Test.YtpedpkegmalgmaaGreatDoorProg
import Derived.Test.YtpedpkegmalgmaaGreatDoorV00
import Derived.Test.YtpedpkegmalgmaaGreatDoorV04
import Derived.Lib.Hide
set_option linter.unusedSimpArgs false
set_option linter.unusedVariables false
set_option maxRecDepth 200000
set_option maxHeartbeats 8000000
namespace Go.Proofs.YtpedpkegmalgmaaGreatDoor
section
open Go Go.Ab
noncomputable abbrev P0 :Program:=Tryz.prog
@[simp] theorem okFn_3 :okFn Tryz.prog 3=true:=by kernel_rfl
@[simp] theorem rtys_3 :rtys Tryz.prog 3=[4]:=by kernel_rfl
@[simp] theorem bodyOk_3 :bodyOk Tryz.f3=true:=by kernel_rfl
@[simp] theorem rtys_6 :rtys Tryz.prog 6=[24,38]:=by kernel_rfl
@[simp] theorem bodyOk_6 :bodyOk Tryz.f6=true:=by kernel_rfl
@[simp] theorem rtys_7 :rtys Tryz.prog 7=[24,38]:=by kernel_rfl
@[simp] theorem bodyOk_7 :bodyOk Tryz.f7=true:=by kernel_rfl
@[simp] theorem rtys_12 :rtys Tryz.prog 12=[24,38]:=by kernel_rfl
@[simp] theorem bodyOk_12 :bodyOk Tryz.f12=true:=by kernel_rfl
@[simp] theorem rtys_13 :rtys Tryz.prog 13=[24]:=by kernel_rfl
@[simp] theorem bodyOk_13 :bodyOk Tryz.f13=true:=by kernel_rfl
@[simp] theorem rtys_14 :rtys Tryz.prog 14=[24,38]:=by kernel_rfl
@[simp] theorem bodyOk_14 :bodyOk Tryz.f14=true:=by kernel_rfl
@[simp] theorem rtys_15 :rtys Tryz.prog 15=[24]:=by kernel_rfl
@[simp] theorem bodyOk_15 :bodyOk Tryz.f15=true:=by kernel_rfl
@[simp] theorem jF8_0 :okFn Tryz.prog 5=true∧ptys Tryz.prog 5=[]∧rtys Tryz.prog 5=[4]∧flatF Tryz.prog 5=true∧okFn Tryz.prog 6=true∧ptys Tryz.prog 6=[36]∧flatF Tryz.prog 6=true∧okFn Tryz.prog 7=true∧ptys Tryz.prog 7=[36]∧flatF Tryz.prog 7=true∧okFn Tryz.prog 12=true∧ptys Tryz.prog 12=[31]∧flatF Tryz.prog 12=true∧okFn Tryz.prog 13=true∧ptys Tryz.prog 13=[59]∧flatF Tryz.prog 13=true∧okFn Tryz.prog 14=true∧ptys Tryz.prog 14=[31]∧flatF Tryz.prog 14=true∧okFn Tryz.prog 15=true∧ptys Tryz.prog 15=[59]∧flatF Tryz.prog 15=true∧okFn Tryz.prog 28=true∧ptys Tryz.prog 28=[9]:=Zh
@[simp] theorem rtys_28 :rtys Tryz.prog 28=[24]:=by kernel_rfl
@[simp] theorem bodyOk_28 :bodyOk Tryz.f28=true:=by kernel_rfl
@[simp] theorem rtys_32 :rtys Tryz.prog 32=[9,38]:=by kernel_rfl
@[simp] theorem bodyOk_32 :bodyOk Tryz.f32=true:=by kernel_rfl
@[simp] theorem rtys_33 :rtys Tryz.prog 33=[24]:=by kernel_rfl
@[simp] theorem bodyOk_33 :bodyOk Tryz.f33=true:=by kernel_rfl
@[simp] theorem rtys_34 :rtys Tryz.prog 34=[24]:=by kernel_rfl
@[simp] theorem bodyOk_34 :bodyOk Tryz.f34=true:=by kernel_rfl
@[simp] theorem rtys_35 :rtys Tryz.prog 35=[9]:=by kernel_rfl
@[simp] theorem bodyOk_35 :bodyOk Tryz.f35=true:=by kernel_rfl
@[simp] theorem rtys_36 :rtys Tryz.prog 36=[9,38]:=by kernel_rfl
@[simp] theorem bodyOk_36 :bodyOk Tryz.f36=true:=by kernel_rfl
@[simp] theorem rtys_37 :rtys Tryz.prog 37=[24]:=by kernel_rfl
@[simp] theorem bodyOk_37 :bodyOk Tryz.f37=true:=by kernel_rfl
@[simp] theorem rtys_38 :rtys Tryz.prog 38=[9]:=by kernel_rfl
@[simp] theorem bodyOk_38 :bodyOk Tryz.f38=true:=by kernel_rfl
@[simp] theorem jF8_1 :flatF Tryz.prog 28=true∧okFn Tryz.prog 32=true∧ptys Tryz.prog 32=[31]∧flatF Tryz.prog 32=true∧okFn Tryz.prog 33=true∧ptys Tryz.prog 33=[24,24]∧flatF Tryz.prog 33=true∧okFn Tryz.prog 34=true∧ptys Tryz.prog 34=[9]∧flatF Tryz.prog 34=true∧okFn Tryz.prog 35=true∧ptys Tryz.prog 35=[85]∧flatF Tryz.prog 35=true∧okFn Tryz.prog 36=true∧ptys Tryz.prog 36=[31]∧flatF Tryz.prog 36=true∧okFn Tryz.prog 37=true∧ptys Tryz.prog 37=[24,24]∧flatF Tryz.prog 37=true∧okFn Tryz.prog 38=true∧ptys Tryz.prog 38=[59]∧flatF Tryz.prog 38=true∧okFn Tryz.prog 41=true∧ptys Tryz.prog 41=[31]:=Zh
@[simp] theorem rtys_41 :rtys Tryz.prog 41=[4]:=by kernel_rfl
@[simp] theorem bodyOk_41 :bodyOk Tryz.f41=true:=by kernel_rfl
@[simp] theorem rtys_46 :rtys Tryz.prog 46=[85,38]:=by kernel_rfl
@[simp] theorem bodyOk_46 :bodyOk Tryz.f46=true:=by kernel_rfl
@[simp] theorem rtys_47 :rtys Tryz.prog 47=[100]:=by kernel_rfl
@[simp] theorem bodyOk_47 :bodyOk Tryz.f47=true:=by kernel_rfl
@[simp] theorem okFn_52 :okFn Tryz.prog 52=true:=by kernel_rfl
@[simp] theorem bodyOk_52 :bodyOk Tryz.f52=true:=by kernel_rfl
@[simp] theorem rtys_53 :rtys Tryz.prog 53=[24]:=by kernel_rfl
@[simp] theorem bodyOk_53 :bodyOk Tryz.f53=true:=by kernel_rfl
@[simp] theorem rtys_54 :rtys Tryz.prog 54=[100]:=by kernel_rfl
@[simp] theorem bodyOk_54 :bodyOk Tryz.f54=true:=by kernel_rfl
@[simp] theorem rtys_55 :rtys Tryz.prog 55=[23]:=by kernel_rfl
@[simp] theorem bodyOk_55 :bodyOk Tryz.f55=true:=by kernel_rfl
@[simp] theorem rtys_56 :rtys Tryz.prog 56=[4]:=by kernel_rfl
@[simp] theorem bodyOk_56 :bodyOk Tryz.f56=true:=by kernel_rfl
@[simp] theorem rtys_57 :rtys Tryz.prog 57=[9]:=by kernel_rfl
@[simp] theorem bodyOk_57 :bodyOk Tryz.f57=true:=by kernel_rfl
@[simp] theorem jF8_2 :flatF Tryz.prog 41=true∧okFn Tryz.prog 46=true∧ptys Tryz.prog 46=[9]∧flatF Tryz.prog 46=false∧okFn Tryz.prog 47=true∧ptys Tryz.prog 47=[100,24]∧flatF Tryz.prog 47=true∧okFn Tryz.prog 53=true∧ptys Tryz.prog 53=[100]∧flatF Tryz.prog 53=true∧okFn Tryz.prog 54=true∧ptys Tryz.prog 54=[100,23]∧flatF Tryz.prog 54=true∧okFn Tryz.prog 55=true∧ptys Tryz.prog 55=[9,3]∧flatF Tryz.prog 55=true∧okFn Tryz.prog 56=true∧ptys Tryz.prog 56=[31]∧flatF Tryz.prog 56=true∧okFn Tryz.prog 57=true∧ptys Tryz.prog 57=[85]∧flatF Tryz.prog 57=true∧okFn Tryz.prog 58=true∧ptys Tryz.prog 58=[31]:=Zh
@[simp] theorem rtys_58 :rtys Tryz.prog 58=[85]:=by kernel_rfl
@[simp] theorem bodyOk_58 :bodyOk Tryz.f58=true:=by kernel_rfl
@[simp] theorem rtys_62 :rtys Tryz.prog 62=[100]:=by kernel_rfl
@[simp] theorem bodyOk_62 :bodyOk Tryz.f62=true:=by kernel_rfl
@[simp] theorem rtys_68 :rtys Tryz.prog 68=[100]:=by kernel_rfl
@[simp] theorem bodyOk_68 :bodyOk Tryz.f68=true:=by kernel_rfl
@[simp] theorem rtys_75 :rtys Tryz.prog 75=[22]:=by kernel_rfl
@[simp] theorem bodyOk_75 :bodyOk Tryz.f75=true:=by kernel_rfl
@[simp] theorem rtys_82 :rtys Tryz.prog 82=[22]:=by kernel_rfl
@[simp] theorem bodyOk_82 :bodyOk Tryz.f82=true:=by kernel_rfl
@[simp] theorem rtys_91 :rtys Tryz.prog 91=[22]:=by kernel_rfl
@[simp] theorem bodyOk_91 :bodyOk Tryz.f91=true:=by kernel_rfl
@[simp] theorem rtys_108 :rtys Tryz.prog 108=[165,3,38]:=by kernel_rfl
@[simp] theorem bodyOk_108 :bodyOk Tryz.f108=true:=by kernel_rfl
@[simp] theorem rtys_111 :rtys Tryz.prog 111=[169,38]:=by kernel_rfl
@[simp] theorem okFn_117 :okFn Tryz.prog 117=true:=by kernel_rfl
@[simp] theorem okFn_118 :okFn Tryz.prog 118=true:=by kernel_rfl
@[simp] theorem bodyOk_118 :bodyOk Tryz.f118=true:=by kernel_rfl
@[simp] theorem okFn_119 :okFn Tryz.prog 119=true:=by kernel_rfl
@[simp] theorem rtys_119 :rtys Tryz.prog 119=[165]:=by kernel_rfl
@[simp] theorem bodyOk_119 :bodyOk Tryz.f119=true:=by kernel_rfl
@[simp] theorem jF8_3 :flatF Tryz.prog 58=false∧okFn Tryz.prog 62=true∧ptys Tryz.prog 62=[100]∧flatF Tryz.prog 62=true∧okFn Tryz.prog 68=true∧ptys Tryz.prog 68=[100]∧flatF Tryz.prog 68=true∧okFn Tryz.prog 74=true∧ptys Tryz.prog 74=[]∧rtys Tryz.prog 74=[130]∧flatF Tryz.prog 74=true∧okFn Tryz.prog 75=true∧ptys Tryz.prog 75=[22,3]∧flatF Tryz.prog 75=true∧okFn Tryz.prog 82=true∧ptys Tryz.prog 82=[22,3]∧flatF Tryz.prog 82=true∧okFn Tryz.prog 91=true∧ptys Tryz.prog 91=[22,3]∧flatF Tryz.prog 91=true∧okFn Tryz.prog 120=true∧ptys Tryz.prog 120=[165]∧rtys Tryz.prog 120=[4]∧flatF Tryz.prog 120=true:=Zh
@[simp] theorem bodyOk_128 :bodyOk Tryz.f128=true:=by kernel_rfl
@[simp] theorem rtys_135 :rtys Tryz.prog 135=[213,3,38]:=by kernel_rfl
@[simp] theorem bodyOk_135 :bodyOk Tryz.f135=true:=by kernel_rfl
@[simp] theorem okFn_137 :okFn Tryz.prog 137=true:=by kernel_rfl
@[simp] theorem bodyOk_137 :bodyOk Tryz.f137=true:=by kernel_rfl
@[simp] theorem okFn_138 :okFn Tryz.prog 138=true:=by kernel_rfl
@[simp] theorem bodyOk_138 :bodyOk Tryz.f138=true:=by kernel_rfl
@[simp] theorem okFn_139 :okFn Tryz.prog 139=true:=by kernel_rfl
@[simp] theorem rtys_139 :rtys Tryz.prog 139=[42]:=by kernel_rfl
@[simp] theorem bodyOk_139 :bodyOk Tryz.f139=true:=by kernel_rfl
@[simp] theorem okFn_140 :okFn Tryz.prog 140=true:=by kernel_rfl
@[simp] theorem rtys_140 :rtys Tryz.prog 140=[223]:=by kernel_rfl
@[simp] theorem bodyOk_140 :bodyOk Tryz.f140=true:=by kernel_rfl
@[simp] theorem okFn_141 :okFn Tryz.prog 141=true:=by kernel_rfl
@[simp] theorem bodyOk_141 :bodyOk Tryz.f141=true:=by kernel_rfl
@[simp] theorem okFn_142 :okFn Tryz.prog 142=true:=by kernel_rfl
@[simp] theorem rtys_142 :rtys Tryz.prog 142=[230]:=by kernel_rfl
@[simp] theorem bodyOk_142 :bodyOk Tryz.f142=true:=by kernel_rfl
@[simp] theorem okFn_154 :okFn Tryz.prog 154=true:=by kernel_rfl
@[simp] theorem bodyOk_154 :bodyOk Tryz.f154=true:=by kernel_rfl
@[simp] theorem okFn_155 :okFn Tryz.prog 155=true:=by kernel_rfl
@[simp] theorem bodyOk_155 :bodyOk Tryz.f155=true:=by kernel_rfl
@[simp] theorem bodyOk_156 :bodyOk Tryz.f156=true:=by kernel_rfl
@[simp] theorem rtys_163 :rtys Tryz.prog 163=[4]:=by kernel_rfl
@[simp] theorem bodyOk_163 :bodyOk Tryz.f163=true:=by kernel_rfl
@[simp] theorem rtys_164 :rtys Tryz.prog 164=[9]:=by kernel_rfl
@[simp] theorem bodyOk_164 :bodyOk Tryz.f164=true:=by kernel_rfl
@[simp] theorem rtys_165 :rtys Tryz.prog 165=[4]:=by kernel_rfl
@[simp] theorem bodyOk_165 :bodyOk Tryz.f165=true:=by kernel_rfl
@[simp] theorem rtys_166 :rtys Tryz.prog 166=[223,38]:=by kernel_rfl
@[simp] theorem bodyOk_166 :bodyOk Tryz.f166=true:=by kernel_rfl
@[simp] theorem okFn_167 :okFn Tryz.prog 167=true:=by kernel_rfl
@[simp] theorem bodyOk_167 :bodyOk Tryz.f167=true:=by kernel_rfl
@[simp] theorem okFn_168 :okFn Tryz.prog 168=true:=by kernel_rfl
@[simp] theorem bodyOk_168 :bodyOk Tryz.f168=true:=by kernel_rfl
@[simp] theorem okFn_169 :okFn Tryz.prog 169=true:=by kernel_rfl
@[simp] theorem rtys_169 :rtys Tryz.prog 169=[228]:=by kernel_rfl
@[simp] theorem bodyOk_169 :bodyOk Tryz.f169=true:=by kernel_rfl
@[simp] theorem bodyOk_191 :bodyOk Tryz.f191=true:=by kernel_rfl
@[simp] theorem bodyOk_192 :bodyOk Tryz.f192=true:=by kernel_rfl
@[simp] theorem bodyOk_193 :bodyOk Tryz.f193=true:=by kernel_rfl
@[simp] theorem okFn_194 :okFn Tryz.prog 194=true:=by kernel_rfl
@[simp] theorem bodyOk_194 :bodyOk Tryz.f194=true:=by kernel_rfl
@[simp] theorem rtys_201 :rtys Tryz.prog 201=[4]:=by kernel_rfl
@[simp] theorem bodyOk_201 :bodyOk Tryz.f201=true:=by kernel_rfl
@[simp] theorem rtys_204 :rtys Tryz.prog 204=[4]:=by kernel_rfl
@[simp] theorem jF8_4 :okFn Tryz.prog 135=true∧ptys Tryz.prog 135=[9]∧flatF Tryz.prog 135=false∧okFn Tryz.prog 156=true∧okFn Tryz.prog 163=true∧ptys Tryz.prog 163=[9,9]∧flatF Tryz.prog 163=true∧okFn Tryz.prog 164=true∧ptys Tryz.prog 164=[9,290]∧flatF Tryz.prog 164=true∧okFn Tryz.prog 165=true∧ptys Tryz.prog 165=[5]∧flatF Tryz.prog 165=true∧okFn Tryz.prog 166=true∧ptys Tryz.prog 166=[9]∧flatF Tryz.prog 166=true∧okFn Tryz.prog 192=true∧okFn Tryz.prog 193=true∧okFn Tryz.prog 201=true∧ptys Tryz.prog 201=[281]∧flatF Tryz.prog 201=true∧okFn Tryz.prog 204=true∧ptys Tryz.prog 204=[9,9]∧flatF Tryz.prog 204=true:=Zh
@[simp] theorem bodyOk_204 :bodyOk Tryz.f204=true:=by kernel_rfl
@[simp] theorem rtys_205 :rtys Tryz.prog 205=[4]:=by kernel_rfl
@[simp] theorem bodyOk_205 :bodyOk Tryz.f205=true:=by kernel_rfl
@[simp] theorem rtys_206 :rtys Tryz.prog 206=[223,38]:=by kernel_rfl
@[simp] theorem bodyOk_206 :bodyOk Tryz.f206=true:=by kernel_rfl
@[simp] theorem rtys_207 :rtys Tryz.prog 207=[223,38]:=by kernel_rfl
@[simp] theorem bodyOk_207 :bodyOk Tryz.f207=true:=by kernel_rfl
@[simp] theorem rtys_208 :rtys Tryz.prog 208=[4]:=by kernel_rfl
@[simp] theorem bodyOk_208 :bodyOk Tryz.f208=true:=by kernel_rfl
@[simp] theorem rtys_209 :rtys Tryz.prog 209=[223,38]:=by kernel_rfl
@[simp] theorem bodyOk_209 :bodyOk Tryz.f209=true:=by kernel_rfl
@[simp] theorem rtys_210 :rtys Tryz.prog 210=[4]:=by kernel_rfl
@[simp] theorem bodyOk_210 :bodyOk Tryz.f210=true:=by kernel_rfl
@[simp] theorem okFn_211 :okFn Tryz.prog 211=true:=by kernel_rfl
@[simp] theorem rtys_211 :rtys Tryz.prog 211=[298]:=by kernel_rfl
@[simp] theorem bodyOk_211 :bodyOk Tryz.f211=true:=by kernel_rfl
@[simp] theorem rtys_212 :rtys Tryz.prog 212=[4]:=by kernel_rfl
@[simp] theorem bodyOk_212 :bodyOk Tryz.f212=true:=by kernel_rfl
@[simp] theorem rtys_247 :rtys Tryz.prog 247=[281,38]:=by kernel_rfl
@[simp] theorem jF8_5 :okFn Tryz.prog 205=true∧ptys Tryz.prog 205=[5]∧flatF Tryz.prog 205=true∧okFn Tryz.prog 206=true∧ptys Tryz.prog 206=[9]∧flatF Tryz.prog 206=true∧okFn Tryz.prog 207=true∧ptys Tryz.prog 207=[9]∧flatF Tryz.prog 207=true∧okFn Tryz.prog 208=true∧ptys Tryz.prog 208=[5]∧flatF Tryz.prog 208=true∧okFn Tryz.prog 209=true∧ptys Tryz.prog 209=[9]∧flatF Tryz.prog 209=true∧okFn Tryz.prog 210=true∧ptys Tryz.prog 210=[5]∧flatF Tryz.prog 210=true∧okFn Tryz.prog 212=true∧ptys Tryz.prog 212=[9]∧flatF Tryz.prog 212=true∧okFn Tryz.prog 247=true∧ptys Tryz.prog 247=[22]∧flatF Tryz.prog 247=true:=Zh
@[simp] theorem bodyOk_247 :bodyOk Tryz.f247=true:=by kernel_rfl
@[simp] theorem okFn_248 :okFn Tryz.prog 248=true:=by kernel_rfl
@[simp] theorem bodyOk_248 :bodyOk Tryz.f248=true:=by kernel_rfl
@[simp] theorem rtys_274 :rtys Tryz.prog 274=[4]:=by kernel_rfl
@[simp] theorem bodyOk_274 :bodyOk Tryz.f274=true:=by kernel_rfl
@[simp] theorem rtys_276 :rtys Tryz.prog 276=[4]:=by kernel_rfl
@[simp] theorem bodyOk_276 :bodyOk Tryz.f276=true:=by kernel_rfl
@[simp] theorem okFn_279 :okFn Tryz.prog 279=true:=by kernel_rfl
@[simp] theorem rtys_279 :rtys Tryz.prog 279=[296]:=by kernel_rfl
@[simp] theorem bodyOk_279 :bodyOk Tryz.f279=true:=by kernel_rfl
@[simp] theorem okFn_280 :okFn Tryz.prog 280=true:=by kernel_rfl
@[simp] theorem rtys_280 :rtys Tryz.prog 280=[361]:=by kernel_rfl
@[simp] theorem bodyOk_280 :bodyOk Tryz.f280=true:=by kernel_rfl
@[simp] theorem okFn_281 :okFn Tryz.prog 281=true:=by kernel_rfl
@[simp] theorem rtys_281 :rtys Tryz.prog 281=[228]:=by kernel_rfl
@[simp] theorem bodyOk_281 :bodyOk Tryz.f281=true:=by kernel_rfl
@[simp] theorem okFn_282 :okFn Tryz.prog 282=true:=by kernel_rfl
@[simp] theorem rtys_282 :rtys Tryz.prog 282=[298]:=by kernel_rfl
@[simp] theorem bodyOk_282 :bodyOk Tryz.f282=true:=by kernel_rfl
@[simp] theorem bodyOk_315 :bodyOk Tryz.f315=true:=by kernel_rfl
@[simp] theorem bodyOk_316 :bodyOk Tryz.f316=true:=by kernel_rfl
@[simp] theorem bodyOk_317 :bodyOk Tryz.f317=true:=by kernel_rfl
@[simp] theorem rtys_318 :rtys Tryz.prog 318=[22,38]:=by kernel_rfl
@[simp] theorem bodyOk_318 :bodyOk Tryz.f318=true:=by kernel_rfl
@[simp] theorem okFn_323 :okFn Tryz.prog 323=true:=by kernel_rfl
@[simp] theorem rtys_323 :rtys Tryz.prog 323=[361]:=by kernel_rfl
@[simp] theorem bodyOk_323 :bodyOk Tryz.f323=true:=by kernel_rfl
@[simp] theorem rtys_324 :rtys Tryz.prog 324=[361,3]:=by kernel_rfl
@[simp] theorem bodyOk_324 :bodyOk Tryz.f324=true:=by kernel_rfl
@[simp] theorem okFn_325 :okFn Tryz.prog 325=true:=by kernel_rfl
@[simp] theorem rtys_325 :rtys Tryz.prog 325=[296]:=by kernel_rfl
@[simp] theorem bodyOk_325 :bodyOk Tryz.f325=true:=by kernel_rfl
@[simp] theorem rtys_344 :rtys Tryz.prog 344=[85]:=by kernel_rfl
@[simp] theorem bodyOk_344 :bodyOk Tryz.f344=true:=by kernel_rfl
@[simp] theorem jF8_6 :okFn Tryz.prog 274=true∧ptys Tryz.prog 274=[3]∧flatF Tryz.prog 274=true∧okFn Tryz.prog 275=true∧ptys Tryz.prog 275=[3]∧rtys Tryz.prog 275=[428]∧flatF Tryz.prog 275=true∧okFn Tryz.prog 276=true∧ptys Tryz.prog 276=[3,3,4]∧flatF Tryz.prog 276=true∧okFn Tryz.prog 315=true∧okFn Tryz.prog 316=true∧okFn Tryz.prog 317=true∧okFn Tryz.prog 318=true∧ptys Tryz.prog 318=[3,22,22]∧flatF Tryz.prog 318=true∧okFn Tryz.prog 324=true∧ptys Tryz.prog 324=[9]∧flatF Tryz.prog 324=false∧okFn Tryz.prog 344=true∧ptys Tryz.prog 344=[85]∧flatF Tryz.prog 344=false∧okFn Tryz.prog 345=true∧ptys Tryz.prog 345=[3,22,22]:=Zh
@[simp] theorem rtys_345 :rtys Tryz.prog 345=[22,38]:=by kernel_rfl
@[simp] theorem bodyOk_345 :bodyOk Tryz.f345=true:=by kernel_rfl
@[simp] theorem rtys_346 :rtys Tryz.prog 346=[22]:=by kernel_rfl
@[simp] theorem bodyOk_346 :bodyOk Tryz.f346=true:=by kernel_rfl
@[simp] theorem rtys_347 :rtys Tryz.prog 347=[22]:=by kernel_rfl
@[simp] theorem bodyOk_347 :bodyOk Tryz.f347=true:=by kernel_rfl
@[simp] theorem rtys_350 :rtys Tryz.prog 350=[361]:=by kernel_rfl
@[simp] theorem bodyOk_350 :bodyOk Tryz.f350=true:=by kernel_rfl
@[simp] theorem cellsOf_3 :Tryz.prog.cellsOf 3=1:=by kernel_rfl
@[simp] theorem isAggB_4 :isAggB Tryz.prog 4=false:=by kernel_rfl
@[simp] theorem jF8_7 :flatF Tryz.prog 345=true∧okFn Tryz.prog 346=true∧ptys Tryz.prog 346=[3,22,22]∧flatF Tryz.prog 346=true∧okFn Tryz.prog 347=true∧ptys Tryz.prog 347=[3,22,22]∧flatF Tryz.prog 347=true∧okFn Tryz.prog 350=true∧ptys Tryz.prog 350=[3]∧flatF Tryz.prog 350=false∧Tryz.prog.bytesOf 3=8∧slel Tryz.prog 3=none∧isAggB Tryz.prog 3=false∧tOk Tryz.prog 3=true∧intK Tryz.prog 3=some IntKind.i64∧zrow Tryz.prog 3=some [AV.sc (Value.int IntKind.i64 0)]∧tcs Tryz.prog 3=[3]∧zok Tryz.prog 3=true∧zeros Tryz.prog 3=some [Value.int IntKind.i64 0]∧(Tryz.prog.info? 3).isSome=true∧Tryz.prog.cellsOf 4=1∧slel Tryz.prog 4=none∧zrow Tryz.prog 4=some [AV.sc (Value.bool false)]∧tcs Tryz.prog 4=[4]:=Zh
@[simp] theorem cellsOf_22 :Tryz.prog.cellsOf 22=1:=by kernel_rfl
@[simp] theorem jF8_8 :zok Tryz.prog 4=true∧(Tryz.prog.info? 4).isSome=true∧Tryz.prog.cellsOf 5=1∧Tryz.prog.bytesOf 5=1∧isAggB Tryz.prog 5=false∧intK Tryz.prog 5=some IntKind.u8∧zrow Tryz.prog 5=some [AV.sc (Value.int IntKind.u8 0)]∧tcs Tryz.prog 5=[5]∧zok Tryz.prog 5=true∧Tryz.prog.cellsOf 9=1∧Tryz.prog.bytesOf 9=16∧slel Tryz.prog 9=none∧isAggB Tryz.prog 9=false∧tOk Tryz.prog 9=true∧strB Tryz.prog 9=true∧zrow Tryz.prog 9=some [AV.sc (Value.string {data:={toList:=[]}})]∧tcs Tryz.prog 9=[9]∧zok Tryz.prog 9=true∧(Tryz.prog.info? 9).isSome=true∧Tryz.prog.bytesOf 22=4∧slel Tryz.prog 22=none∧isAggB Tryz.prog 22=false∧tOk Tryz.prog 22=true∧intK Tryz.prog 22=some IntKind.u32:=Zh
@[simp] theorem cellsOf_24 :Tryz.prog.cellsOf 24=4:=by kernel_rfl
@[simp] theorem jF8_9 :zrow Tryz.prog 22=some [AV.sc (Value.int IntKind.u32 0)]∧tcs Tryz.prog 22=[22]∧zok Tryz.prog 22=true∧(Tryz.prog.info? 22).isSome=true∧Tryz.prog.cellsOf 23=4∧isAggB Tryz.prog 23=true∧arrOf Tryz.prog 23=some (4,22)∧tcs Tryz.prog 23=[22,22,22,22]∧zeros Tryz.prog 23=some [Value.int IntKind.u32 0,Value.int IntKind.u32 0,Value.int IntKind.u32 0,Value.int IntKind.u32 0]∧(Tryz.prog.info? 23).isSome=true∧isAggB Tryz.prog 24=true∧tOk Tryz.prog 24=true∧arrOf Tryz.prog 24=some (4,22)∧bldOk Tryz.prog 24=true∧tcs Tryz.prog 24=[22,22,22,22]∧zeros Tryz.prog 24=some [Value.int IntKind.u32 0,Value.int IntKind.u32 0,Value.int IntKind.u32 0,Value.int IntKind.u32 0]∧(Tryz.prog.info? 24).isSome=true∧Tryz.prog.cellsOf 25=1∧slel Tryz.prog 25=some 3∧isAggB Tryz.prog 25=false∧zrow Tryz.prog 25=some [AV.sl false 1 []]∧tcs Tryz.prog 25=[25]∧srcT Tryz.prog 25=true∧zok Tryz.prog 25=true:=Zh
@[simp] theorem cellsOf_27 :Tryz.prog.cellsOf 27=9:=by kernel_rfl
@[simp] theorem cellsOf_28 :Tryz.prog.cellsOf 28=18:=by kernel_rfl
@[simp] theorem isAggB_38 :isAggB Tryz.prog 38=false:=by kernel_rfl
@[simp] theorem jF8_10 :slel Tryz.prog 29=some 24∧isAggB Tryz.prog 29=false∧Tryz.prog.cellsOf 31=8∧isAggB Tryz.prog 31=true∧tcs Tryz.prog 31=[3,22,22,22,22,25,29,3]∧flds Tryz.prog 31=[(0,1,3),(1,4,24),(5,1,25),(6,1,29),(7,1,3)]∧Tryz.prog.cellsOf 32=1∧slel Tryz.prog 32=some 67∧isAggB Tryz.prog 32=false∧tcs Tryz.prog 32=[32]∧Tryz.prog.cellsOf 36=41∧isAggB Tryz.prog 36=true∧tcs Tryz.prog 36=[22,22,22,22,22,22,22,22,3,25,9,3,22,22,22,22,9,3,25,9,3,22,22,22,22,9,3,22,22,22,22,25,29,3,32,3,22,22,22,22,32]∧flds Tryz.prog 36=[(0,4,24),(4,4,24),(8,18,28),(26,8,31),(34,1,32),(35,5,34),(40,1,32)]∧Tryz.prog.cellsOf 38=1∧tcs Tryz.prog 38=[38]∧zeros Tryz.prog 38=some [Value.int IntKind.i64 0]∧(Tryz.prog.info? 38).isSome=true∧Tryz.prog.cellsOf 42=1∧slel Tryz.prog 42=some 9∧isAggB Tryz.prog 42=false∧tcs Tryz.prog 42=[42]∧srcT Tryz.prog 42=true∧(Tryz.prog.info? 42).isSome=true:=Zh
@[simp] theorem jF8_11 :Tryz.prog.cellsOf 46=2∧tcs Tryz.prog 46=[29,3]∧flds Tryz.prog 46=[(0,1,29),(1,1,3)]∧Tryz.prog.cellsOf 59=8∧isAggB Tryz.prog 59=true∧arrOf Tryz.prog 59=none∧bldOk Tryz.prog 59=true∧tcs Tryz.prog 59=[22,22,22,22,22,22,22,22]∧flds Tryz.prog 59=[(0,4,24),(4,4,24)]∧zeros Tryz.prog 59=some [Value.int IntKind.u32 0,Value.int IntKind.u32 0,Value.int IntKind.u32 0,Value.int IntKind.u32 0,Value.int IntKind.u32 0,Value.int IntKind.u32 0,Value.int IntKind.u32 0,Value.int IntKind.u32 0]∧Tryz.prog.cellsOf 85=1∧slel Tryz.prog 85=some 22∧isAggB Tryz.prog 85=false∧tcs Tryz.prog 85=[85]∧srcT Tryz.prog 85=true∧zeros Tryz.prog 85=some [Value.slice none 0 0]∧(Tryz.prog.info? 85).isSome=true∧intK Tryz.prog 92=some IntKind.u64∧intK Tryz.prog 93=some IntKind.u64∧Tryz.prog.cellsOf 100=8∧isAggB Tryz.prog 100=true∧arrOf Tryz.prog 100=some (8,22)∧bldOk Tryz.prog 100=true∧tcs Tryz.prog 100=[22,22,22,22,22,22,22,22]:=Zh
@[simp] theorem jF8_12 :zeros Tryz.prog 100=some [Value.int IntKind.u32 0,Value.int IntKind.u32 0,Value.int IntKind.u32 0,Value.int IntKind.u32 0,Value.int IntKind.u32 0,Value.int IntKind.u32 0,Value.int IntKind.u32 0,Value.int IntKind.u32 0]∧(Tryz.prog.info? 100).isSome=true∧Tryz.prog.cellsOf 110=1∧slel Tryz.prog 110=some 5∧isAggB Tryz.prog 110=false∧strB Tryz.prog 110=false∧tcs Tryz.prog 110=[110]∧srcT Tryz.prog 110=true∧(Tryz.prog.info? 110).isSome=true∧Tryz.prog.cellsOf 130=4∧isAggB Tryz.prog 130=true∧arrOf Tryz.prog 130=some (4,3)∧tcs Tryz.prog 130=[3,3,3,3]∧zeros Tryz.prog 130=some [Value.int IntKind.i64 0,Value.int IntKind.i64 0,Value.int IntKind.i64 0,Value.int IntKind.i64 0]∧(Tryz.prog.info? 130).isSome=true∧Tryz.prog.cellsOf 162=1∧slel Tryz.prog 162=some 227∧isAggB Tryz.prog 162=false∧tcs Tryz.prog 162=[162]∧srcT Tryz.prog 162=true∧(Tryz.prog.info? 162).isSome=true∧Tryz.prog.cellsOf 163=1∧slel Tryz.prog 163=some 230∧isAggB Tryz.prog 163=false:=Zh
@[simp] theorem isAggB_169 :isAggB Tryz.prog 169=true:=by kernel_rfl
@[simp] theorem tcs_169 :tcs Tryz.prog 169=[85,3]:=by kernel_rfl
@[simp] theorem jF8_13 :tcs Tryz.prog 163=[163]∧srcT Tryz.prog 163=true∧(Tryz.prog.info? 163).isSome=true∧Tryz.prog.cellsOf 165=3∧isAggB Tryz.prog 165=true∧tcs Tryz.prog 165=[42,162,163]∧flds Tryz.prog 165=[(0,1,42),(1,1,162),(2,1,163)]∧zeros Tryz.prog 165=some [Value.slice none 0 0,Value.slice none 0 0,Value.slice none 0 0]∧(Tryz.prog.info? 165).isSome=true∧Tryz.prog.cellsOf 169=2∧flds Tryz.prog 169=[(0,1,85),(1,1,3)]∧arrOf Tryz.prog 199=some (16,22)∧Tryz.prog.cellsOf 201=22∧isAggB Tryz.prog 201=true∧tcs Tryz.prog 201=[3,22,22,22,22,22,22,22,22,22,22,22,22,22,22,22,22,85,3,9,3,3]∧flds Tryz.prog 201=[(0,1,3),(1,16,199),(17,1,85),(18,1,3),(19,1,9),(20,1,3),(21,1,3)]∧zeros Tryz.prog 201=some [Value.int IntKind.i64 0,Value.int IntKind.u32 0,Value.int IntKind.u32 0,Value.int IntKind.u32 0,Value.int IntKind.u32 0,Value.int IntKind.u32 0,Value.int IntKind.u32 0,Value.int IntKind.u32 0,Value.int IntKind.u32 0,Value.int IntKind.u32 0,Value.int IntKind.u32 0,Value.int IntKind.u32 0,Value.int IntKind.u32 0,Value.int IntKind.u32 0,Value.int IntKind.u32 0,Value.int IntKind.u32 0,Value.int IntKind.u32 0,Value.slice none 0 0,Value.int IntKind.i64 0,Value.string {data:={toList:=[]}},Value.int IntKind.i64 0,Value.int IntKind.i64 0]∧(Tryz.prog.info? 201).isSome=true∧Tryz.prog.cellsOf 213=1∧slel Tryz.prog 213=some 223∧isAggB Tryz.prog 213=false∧tcs Tryz.prog 213=[213]∧srcT Tryz.prog 213=true∧Tryz.prog.cellsOf 217=1:=Zh
@[simp] theorem jF8_14 :arrOf Tryz.prog 217=none∧bldOk Tryz.prog 217=true∧tcs Tryz.prog 217=[3]∧flds Tryz.prog 217=[(0,1,3)]∧zeros Tryz.prog 217=some [Value.int IntKind.i64 0]∧(Tryz.prog.info? 217).isSome=true∧Tryz.prog.cellsOf 219=3∧arrOf Tryz.prog 219=none∧bldOk Tryz.prog 219=true∧tcs Tryz.prog 219=[213,3,3]∧flds Tryz.prog 219=[(0,1,213),(1,1,3),(2,1,3)]∧zeros Tryz.prog 219=some [Value.slice none 0 0,Value.int IntKind.i64 0,Value.int IntKind.i64 0]∧Tryz.prog.cellsOf 223=4∧Tryz.prog.bytesOf 223=40∧isAggB Tryz.prog 223=true∧tOk Tryz.prog 223=true∧arrOf Tryz.prog 223=none∧zrow Tryz.prog 223=some [AV.sc (Value.int IntKind.i64 0),AV.sc (Value.string {data:={toList:=[]}}),AV.sc (Value.int IntKind.u32 0),AV.sc (Value.int IntKind.i64 0)]∧bldOk Tryz.prog 223=true∧tcs Tryz.prog 223=[3,9,22,3]∧zok Tryz.prog 223=true∧flds Tryz.prog 223=[(0,1,3),(1,1,9),(2,1,22),(3,1,3)]∧zeros Tryz.prog 223=some [Value.int IntKind.i64 0,Value.string {data:={toList:=[]}},Value.int IntKind.u32 0,Value.int IntKind.i64 0]∧(Tryz.prog.info? 223).isSome=true:=Zh
@[simp] theorem jF8_15 :Tryz.prog.cellsOf 227=2∧Tryz.prog.bytesOf 227=24∧arrOf Tryz.prog 227=none∧zrow Tryz.prog 227=some [AV.sc (Value.string {data:={toList:=[]}}),AV.sc (Value.int IntKind.i64 0)]∧bldOk Tryz.prog 227=true∧tcs Tryz.prog 227=[9,3]∧zok Tryz.prog 227=true∧flds Tryz.prog 227=[(0,1,9),(1,1,3)]∧zeros Tryz.prog 227=some [Value.string {data:={toList:=[]}},Value.int IntKind.i64 0]∧Tryz.prog.cellsOf 228=1∧slel Tryz.prog 228=some 298∧isAggB Tryz.prog 228=false∧tcs Tryz.prog 228=[228]∧srcT Tryz.prog 228=true∧(Tryz.prog.info? 228).isSome=true∧Tryz.prog.cellsOf 230=5∧Tryz.prog.bytesOf 230=96∧isAggB Tryz.prog 230=true∧zrow Tryz.prog 230=some [AV.sc (Value.string {data:={toList:=[]}}),AV.sl false 1 [],AV.sl false 1 [],AV.sc (Value.bool false),AV.sl false 5 []]∧tcs Tryz.prog 230=[9,42,42,4,228]∧zok Tryz.prog 230=true∧flds Tryz.prog 230=[(0,1,9),(1,1,42),(2,1,42),(3,1,4),(4,1,228)]∧zeros Tryz.prog 230=some [Value.string {data:={toList:=[]}},Value.slice none 0 0,Value.slice none 0 0,Value.bool false,Value.slice none 0 0]∧(Tryz.prog.info? 230).isSome=true:=Zh
@[simp] theorem jF8_16 :Tryz.prog.cellsOf 253=1∧isAggB Tryz.prog 253=false∧tcs Tryz.prog 253=[253]∧Tryz.prog.cellsOf 281=4∧isAggB Tryz.prog 281=true∧arrOf Tryz.prog 281=none∧bldOk Tryz.prog 281=true∧tcs Tryz.prog 281=[3,3,3,3]∧flds Tryz.prog 281=[(0,1,3),(1,1,3),(2,1,3),(3,1,3)]∧zeros Tryz.prog 281=some [Value.int IntKind.i64 0,Value.int IntKind.i64 0,Value.int IntKind.i64 0,Value.int IntKind.i64 0]∧(Tryz.prog.info? 281).isSome=true∧Tryz.prog.cellsOf 290=1∧isAggB Tryz.prog 290=false∧tcs Tryz.prog 290=[290]∧Tryz.prog.cellsOf 296=1∧slel Tryz.prog 296=some 361∧isAggB Tryz.prog 296=false∧tcs Tryz.prog 296=[296]∧srcT Tryz.prog 296=true∧(Tryz.prog.info? 296).isSome=true∧Tryz.prog.cellsOf 298=5∧Tryz.prog.bytesOf 298=96∧isAggB Tryz.prog 298=true∧arrOf Tryz.prog 298=none:=Zh
@[simp] theorem jF8_17 :zrow Tryz.prog 298=some [AV.sc (Value.int IntKind.i64 0),AV.sc (Value.string {data:={toList:=[]}}),AV.sl false 5 [],AV.sl false 5 [],AV.sl false 5 []]∧bldOk Tryz.prog 298=true∧tcs Tryz.prog 298=[3,9,296,228,228]∧zok Tryz.prog 298=true∧flds Tryz.prog 298=[(0,1,3),(1,1,9),(2,1,296),(3,1,228),(4,1,228)]∧zeros Tryz.prog 298=some [Value.int IntKind.i64 0,Value.string {data:={toList:=[]}},Value.slice none 0 0,Value.slice none 0 0,Value.slice none 0 0]∧(Tryz.prog.info? 298).isSome=true∧Tryz.prog.cellsOf 340=26∧arrOf Tryz.prog 340=none∧bldOk Tryz.prog 340=true∧tcs Tryz.prog 340=[85,9,3,22,22,22,22,22,22,22,22,22,22,22,22,22,22,22,22,85,3,9,3,3,4,110]∧flds Tryz.prog 340=[(0,1,85),(1,1,9),(2,22,201),(24,1,4),(25,1,110)]∧zeros Tryz.prog 340=some [Value.slice none 0 0,Value.string {data:={toList:=[]}},Value.int IntKind.i64 0,Value.int IntKind.u32 0,Value.int IntKind.u32 0,Value.int IntKind.u32 0,Value.int IntKind.u32 0,Value.int IntKind.u32 0,Value.int IntKind.u32 0,Value.int IntKind.u32 0,Value.int IntKind.u32 0,Value.int IntKind.u32 0,Value.int IntKind.u32 0,Value.int IntKind.u32 0,Value.int IntKind.u32 0,Value.int IntKind.u32 0,Value.int IntKind.u32 0,Value.int IntKind.u32 0,Value.int IntKind.u32 0,Value.slice none 0 0,Value.int IntKind.i64 0,Value.string {data:={toList:=[]}},Value.int IntKind.i64 0,Value.int IntKind.i64 0,Value.bool false,Value.slice none 0 0]∧slel Tryz.prog 357=none∧arrOf Tryz.prog 357=some (24,9)∧Tryz.prog.cellsOf 361=5∧Tryz.prog.bytesOf 361=64∧isAggB Tryz.prog 361=true∧arrOf Tryz.prog 361=none∧zrow Tryz.prog 361=some [AV.sc (Value.int IntKind.i64 0),AV.sc (Value.int IntKind.i64 0),AV.sc (Value.int IntKind.u32 0),AV.sc (Value.string {data:={toList:=[]}}),AV.sl false 5 []]∧bldOk Tryz.prog 361=true∧tcs Tryz.prog 361=[3,3,22,9,296]∧zok Tryz.prog 361=true∧flds Tryz.prog 361=[(0,1,3),(1,1,3),(2,1,22),(3,1,9),(4,1,296)]:=Zh
@[simp] theorem jF8_18 :zeros Tryz.prog 361=some [Value.int IntKind.i64 0,Value.int IntKind.i64 0,Value.int IntKind.u32 0,Value.string {data:={toList:=[]}},Value.slice none 0 0]∧(Tryz.prog.info? 361).isSome=true∧Tryz.prog.cellsOf 428=4∧isAggB Tryz.prog 428=true∧tcs Tryz.prog 428=[9,4,4,3]∧flds Tryz.prog 428=[(0,1,9),(1,1,4),(2,1,4),(3,1,3)]∧zeros Tryz.prog 428=some [Value.string {data:={toList:=[]}},Value.bool false,Value.bool false,Value.int IntKind.i64 0]∧(Tryz.prog.info? 428).isSome=true∧slel Tryz.prog 435=none∧arrOf Tryz.prog 435=some (10,9)∧Tryz.prog.cellsOf 67=7∧isAggB Tryz.prog 67=true∧tOk Tryz.prog 67=true∧tcs Tryz.prog 67=[22,22,22,22,3,63,29]∧flds Tryz.prog 67=[(0,4,24),(4,3,65)]∧zeros Tryz.prog 67=some [Value.int IntKind.u32 0,Value.int IntKind.u32 0,Value.int IntKind.u32 0,Value.int IntKind.u32 0,Value.int IntKind.i64 0,Value.slice none 0 0,Value.slice none 0 0]∧(Tryz.prog.info? 67).isSome=true∧slel Tryz.prog 63=some 24∧Tryz.prog.cellsOf 65=3∧isAggB Tryz.prog 65=true∧tcs Tryz.prog 65=[3,63,29]:=Zh
def hpL :List Nat:=[117,118,119,137,138,139,140,141,142,167,168,169,211,279,280,281,282,323,325,
 217,218,283,284,285,286,220,221,222,288,289,290,291,292,293,326,
 202,203,277,278,320,321,322,348,349,249,250,251,
 160,199,200,255,256,259,265,268,270,273,254,257,258,260,261,262,263,264,266,267,269,271,272]
def frzL :List Nat:=[119,139,140,142,169,211,279,280,281,282,323,325]
def E47 :Cfg:={eq:=fun _=>false,hp:=fun f=>hpL.contains f,yl:=fun _=>false,inl:=fun f=>f==220,frz:=fun f=>frzL.contains f,ws:=70,cl:=true,bx:=fun t=>t==270}
@[simp] theorem E47_off :E47.off=0:=rfl
@[simp] theorem E47_bx (t:Nat):E47.bx t=(t==270):=rfl
@[simp] theorem E47_eq (t:Nat):E47.eq t=false:=rfl
@[simp] theorem E47_cl :E47.cl=true:=rfl
@[simp] theorem E47_ws :E47.ws=70:=rfl
@[simp] theorem wrap_1 :IntKind.i64.wrap 1=1:=by decide+kernel
@[simp] theorem wrap_2 :IntKind.i64.wrap 2=2:=by decide+kernel
@[simp] theorem wrap_0 :IntKind.i64.wrap 0=0:=by decide+kernel
theorem wrapN {k:Nat}(h:k<9223372036854775807):IntKind.i64.wrap ((k:Int)+1)=(k:Int)+1:=wrap64 (by omega) (by omega)
abbrev iv (n:Int):AV:= .sc (.int .i64 n)
abbrev uv (n:Int):AV:= .sc (.int .u32 n)
abbrev bv (b:Bool):AV:= .sc (.bool b)
abbrev tv (s:ByteArray):AV:= .sc (.string s)
def X46 :Orc:=⟨fun _ _=>none,fun _ _ _ _ _=>none⟩
noncomputable abbrev Lm (X:Orc):Orc:=lim Tryz.prog E47 X
theorem rvs_3 :Tryz.f3.results.toList=[.tmp 2]:=rfl
theorem rvs_6 :Tryz.f6.results.toList=[.cell 2 24,.tmp 3]:=rfl
theorem rvs_7 :Tryz.f7.results.toList=[.cell 2 24,.tmp 3]:=rfl
theorem rvs_12 :Tryz.f12.results.toList=[.cell 2 24,.tmp 3]:=rfl
theorem rvs_13 :Tryz.f13.results.toList=[.cell 2 24]:=rfl
theorem rvs_14 :Tryz.f14.results.toList=[.cell 2 24,.tmp 3]:=rfl
theorem rvs_15 :Tryz.f15.results.toList=[.cell 2 24]:=rfl
theorem rvs_32 :Tryz.f32.results.toList=[.tmp 2,.tmp 3]:=rfl
theorem rvs_36 :Tryz.f36.results.toList=[.tmp 2,.tmp 3]:=rfl
theorem rvs_38 :Tryz.f38.results.toList=[.tmp 2]:=rfl
theorem rvs_41 :Tryz.f41.results.toList=[.tmp 2]:=rfl
theorem rvs_52 :Tryz.f52.results.toList=[]:=rfl
theorem rvs_56 :Tryz.f56.results.toList=[.tmp 2]:=rfl
theorem rvs_58 :Tryz.f58.results.toList=[.tmp 2]:=rfl
theorem rvs_108 :Tryz.f108.results.toList=[.cell 2 165,.tmp 3,.tmp 4]:=rfl
theorem rvs_118 :Tryz.f118.results.toList=[]:=rfl
theorem rvs_119 :Tryz.f119.results.toList=[.cell 2 165]:=rfl
theorem rvs_135 :Tryz.f135.results.toList=[.tmp 2,.tmp 3,.tmp 4]:=rfl
theorem rvs_137 :Tryz.f137.results.toList=[]:=rfl
theorem rvs_138 :Tryz.f138.results.toList=[.tmp 4]:=rfl
theorem rvs_139 :Tryz.f139.results.toList=[.tmp 2]:=rfl
theorem rvs_140 :Tryz.f140.results.toList=[.cell 4 223]:=rfl
theorem rvs_141 :Tryz.f141.results.toList=[]:=rfl
theorem rvs_142 :Tryz.f142.results.toList=[.cell 2 230]:=rfl
theorem rvs_163 :Tryz.f163.results.toList=[.tmp 4]:=rfl
theorem rvs_164 :Tryz.f164.results.toList=[.tmp 4]:=rfl
theorem rvs_165 :Tryz.f165.results.toList=[.tmp 2]:=rfl
theorem rvs_166 :Tryz.f166.results.toList=[.cell 2 223,.tmp 3]:=rfl
theorem rvs_167 :Tryz.f167.results.toList=[.tmp 2]:=rfl
theorem rvs_168 :Tryz.f168.results.toList=[.tmp 2]:=rfl
theorem rvs_169 :Tryz.f169.results.toList=[.tmp 2]:=rfl
theorem rvs_204 :Tryz.f204.results.toList=[.tmp 4]:=rfl
theorem rvs_205 :Tryz.f205.results.toList=[.tmp 2]:=rfl
theorem rvs_206 :Tryz.f206.results.toList=[.cell 2 223,.tmp 3]:=rfl
theorem rvs_207 :Tryz.f207.results.toList=[.cell 2 223,.tmp 3]:=rfl
theorem rvs_208 :Tryz.f208.results.toList=[.tmp 2]:=rfl
theorem rvs_209 :Tryz.f209.results.toList=[.cell 2 223,.tmp 3]:=rfl
theorem rvs_210 :Tryz.f210.results.toList=[.tmp 2]:=rfl
theorem rvs_211 :Tryz.f211.results.toList=[.cell 2 298]:=rfl
theorem rvs_212 :Tryz.f212.results.toList=[.tmp 2]:=rfl
theorem rvs_279 :Tryz.f279.results.toList=[.tmp 2]:=rfl
theorem rvs_280 :Tryz.f280.results.toList=[.cell 4 361]:=rfl
theorem rvs_281 :Tryz.f281.results.toList=[.tmp 2]:=rfl
theorem rvs_282 :Tryz.f282.results.toList=[.cell 2 298]:=rfl
theorem rvs_323 :Tryz.f323.results.toList=[.cell 2 361]:=rfl
theorem rvs_324 :Tryz.f324.results.toList=[.cell 2 361,.tmp 3]:=rfl
theorem rvs_325 :Tryz.f325.results.toList=[.tmp 2]:=rfl
theorem rvs_350 :Tryz.f350.results.toList=[.cell 2 361]:=rfl
@[simp] theorem jHf_0 :E47.hp 35=false∧E47.hp 46=false∧E47.hp 47=false∧E47.hp 53=false∧E47.hp 54=false∧E47.hp 55=false∧E47.hp 62=false∧E47.hp 68=false∧E47.hp 74=false∧E47.hp 75=false∧E47.hp 82=false∧E47.hp 91=false∧E47.hp 118=true∧E47.hp 120=false∧E47.hp 135=false∧E47.hp 139=true∧E47.hp 142=true∧E47.hp 163=false∧E47.hp 164=false∧E47.hp 165=false∧E47.hp 166=false∧E47.hp 204=false∧E47.hp 205=false∧E47.hp 206=false:=Zj
@[simp] theorem jHf_1 :E47.hp 207=false∧E47.hp 208=false∧E47.hp 209=false∧E47.hp 210=false∧E47.hp 212=false∧E47.hp 280=true∧E47.hp 324=false∧E47.hp 350=false:=Zj
end
end Go.Proofs.YtpedpkegmalgmaaGreatDoor
namespace Go.Proofs.YtpedpkegmalgmaaGreatDoor.Q
section
open Go Go.Ab
def upto {α:Type}(f:Nat→α)(k:Nat):List α:=(List.range k).map f
theorem upto_succ {α:Type}(f:Nat→α)(k:Nat):upto f (k+1)=upto f k++[f k]:=by simp[upto,List.range_succ]
theorem upto_length {α:Type}(f:Nat→α)(k:Nat):(upto f k).length=k:=by simp[upto]
def byteAt (s:ByteArray)(i:Nat):Int:=(s.data.toList.getD i 0).toNat
def wordAt (s:ByteArray)(i:Nat):Int:=byteAt s i+256*byteAt s (i+1)+65536*byteAt s (i+2)+16777216*byteAt s (i+3)
theorem or_add {x y:Nat}(i:Nat)(h:x<2^i):x|||y*2^i=x+y*2^i:=by
 rw[Nat.or_comm,←Nat.shiftLeft_eq,←Nat.shiftLeft_add_eq_or_of_lt h,Nat.shiftLeft_eq,Nat.add_comm]
theorem bits_or {x y:Nat}(hx:x<4294967296)(hy:y<4294967296):bits .or .u32 (x:Int) (y:Int)=((x|||y:Nat):Int):=by
 have h:(BitVec.ofInt 32 (x:Int)|||BitVec.ofInt 32 (y:Int)).toNat=x|||y:=by
  rw[BitVec.toNat_or,BitVec.ofInt_natCast,BitVec.ofInt_natCast,BitVec.toNat_ofNat,BitVec.toNat_ofNat,Nat.mod_eq_of_lt hx,Nat.mod_eq_of_lt hy]
 show IntKind.u32.wrap ((BitVec.ofInt 32 (x:Int)|||BitVec.ofInt 32 (y:Int)).toNat:Int)=_
 rw[h,IntKind.wrap_u32]
 have:x|||y<2^32:=Nat.or_lt_two_pow (by omega) (by omega)
 omega
theorem wrapN {k:Nat}(h:k<9223372036854775807):IntKind.i64.wrap ((k:Int)+1)=(k:Int)+1:=wrap64 (by omega) (by omega)
def U (n:Int):Prop:=0≤n∧n<4294967296
def b4 (w:Int):List Int:=[w%256,w/256%256,w/65536%256,w/16777216%256]
def bys (l:List Int):List Int:=l.flatMap b4
abbrev rowB (l:List Int):List (List AV):=l.map fun x=>[.sc (.int .u8 x)]
def toBytes (l:List Int):List UInt8:=l.map fun x=>UInt8.ofNat x.toNat
def txtW (l:List Int):ByteArray:=⟨⟨toBytes (bys l)⟩⟩
@[simp] theorem fd8 (w:Int):w.fdiv (2^min 8 IntKind.u32.bits)=w/256:=by rw[show(2:Int)^min 8 IntKind.u32.bits=256 from by decide+kernel];exact Int.fdiv_eq_ediv_of_nonneg _ (by omega)
@[simp] theorem fd16 (w:Int):w.fdiv (2^min 16 IntKind.u32.bits)=w/65536:=by rw[show(2:Int)^min 16 IntKind.u32.bits=65536 from by decide+kernel];exact Int.fdiv_eq_ediv_of_nonneg _ (by omega)
@[simp] theorem fd24 (w:Int):w.fdiv (2^min 24 IntKind.u32.bits)=w/16777216:=by rw[show(2:Int)^min 24 IntKind.u32.bits=16777216 from by decide+kernel];exact Int.fdiv_eq_ediv_of_nonneg _ (by omega)
theorem bytes_rowB : ∀l:List Int,bytesOfRows (rowB l)=some (toBytes l)
 |[]=>rfl
 |x::l=>by
  have:=bytes_rowB l
  unfold rowB at this⊢
  simp only[List.map_cons,bytesOfRows,this,Option.map_some,toBytes]
theorem bys_len : ∀l:List Int,(bys l).length=4*l.length
 |[]=>rfl
 |x::l=>by
  have:=bys_len l
  unfold bys at this⊢
  simp only[List.flatMap_cons,List.length_append,this,List.length_cons,b4,List.length_nil];omega
theorem bys_snoc {l:List Int}{k:Nat}{w:Int}(h:l[k]?=some w):bys (l.take k)++b4 w=bys (l.take (k+1)):=by
 rw[List.take_add_one,h]
 unfold bys
 rw[List.flatMap_append]
 simp
abbrev rowW (l:List Int):List (List AV):=l.map fun x=>[uv x]
theorem d26 (l:List Int)(hl:l.length≤1048576)(hU: ∀x∈l,U x):(lim Tryz.prog E47 X46).dat 35 [.sl false 1 (rowW l)]=some [.sc (.string (txtW l))]:=by
 refine fnW Tryz.func35 rfl rfl bodyOk_35 rfl rtys_35 rfl ?_
 have hm:IntKind.i64.wrap (4*(l.length:Int))=4*(l.length:Int):=wrap64 (by omega) (by omega)
 have m0:(0:Int)≤4*(l.length:Int):=by omega
 have m1:4*(l.length:Int)≤9223372036854775807:=by omega
 have m2:4*(l.length:Int)≤140737488355328:=by omega
 repeat' (first|(refine ZN ?_)|(refine Z2 ?_ ?_)|(intro h h';try simp[*,-h] at h'))
 refine W_loopS (n:=l.length) (fun s0 m s=> ∃k g:Nat,m=l.length - k∧k≤l.length∧s.fr 12=iv k∧s.fr 3= .own ⟨0,9,0⟩ g (4*k)∧s.fr 10=s0.fr 10∧s.fr 11=s0.fr 11∧s.hp ⟨0,9,0⟩= .arr g 1 5 (rowB (bys (l.take k))) false) ⟨0,1,by simp,by omega,by simp,by simp,by simp,by simp,by simp[bys]⟩ ?_
 rintro m ⟨fr,hp⟩ ⟨k,g,rfl,hk,hs12,hs3,hs10,hs11,hh9⟩
 simp at hs12 hs3 hs10 hs11 hh9
 by_cases hlt:k<l.length
 ·have hg:=List.getElem?_eq_getElem hlt
  have hw:=wrapN (k:=k) (by omega)
  have e0:IntKind.u8.wrap l[k]=l[k]%256:=IntKind.wrap_u8 _
  have e1:IntKind.u8.wrap (l[k]/256)=l[k]/256%256:=IntKind.wrap_u8 _
  have e2:IntKind.u8.wrap (l[k]/65536)=l[k]/65536%256:=IntKind.wrap_u8 _
  have e3:IntKind.u8.wrap (l[k]/16777216)=l[k]/16777216%256:=IntKind.wrap_u8 _
  have hbl:(bys (l.take k)).length=4*k:=by rw[bys_len,List.length_take];omega
  have hap:rowB (bys (l.take k))++[[.sc (.int .u8 (l[k]%256))],[.sc (.int .u8 (l[k]/256%256))],[.sc (.int .u8 (l[k]/65536%256))],[.sc (.int .u8 (l[k]/16777216%256))]]=rowB (bys (l.take (k+1))):=by
   rw[←bys_snoc hg];simp[b4]
  have b1:4*k≤140737488355324:=by omega
  have b2:4*k≤9223372036854775803:=by omega
  repeat' (first|(refine ZN ?_)|(refine Z2 ?_ ?_)|(intro h h';try simp[*,-h] at h'))
  exact⟨_,by omega,k+1,g+1,rfl,hlt,by simp,by simp[Nat.mul_add],by simp[*],by simp[*],by simp[*]⟩
 ·obtain rfl:k=l.length:=by omega
  have hta:l.take l.length=l:=List.take_of_length_le (Nat.le_refl _)
  have hbl:(bys l).length=4*l.length:=bys_len l
  have htk:(rowB (bys l)).take (4*l.length)=rowB (bys l):=List.take_of_length_le (by simp[hbl])
  have hbr:=bytes_rowB (bys l)
  rw[hta] at hh9
  repeat' (first|(refine ZN ?_)|(refine Z2 ?_ ?_)|(intro h h';try simp[*,-h] at h'))
  rfl
theorem byte_data {s:ByteArray}{i:Nat}(h:i<s.size): ∃B:UInt8,s.data[i]?=some B∧(B.toNat:Int)=byteAt s i:=by
 have hlt:i<s.data.size:=h
 refine⟨s.data[i],Array.getElem?_eq_getElem hlt,?_⟩
 unfold byteAt
 rw[List.getD_eq_getElem?_getD,List.getElem?_eq_getElem (by simpa using hlt)]
 simp
def wordL (L:List UInt8)(i:Nat):Int:=((L.getD i 0).toNat:Int)+256*(L.getD (i+1) 0).toNat+65536*(L.getD (i+2) 0).toNat+16777216*(L.getD (i+3) 0).toNat
theorem wordAt_L (s:ByteArray)(i:Nat):wordAt s i=wordL s.data.toList i:=rfl
theorem wordL_app (A L:List UInt8)(i:Nat):wordL (A++L) (A.length+i)=wordL L i:=by
 have e: ∀j,(A++L).getD (A.length+j) 0=L.getD j 0:=fun j=>by
  simp[List.getD_eq_getElem?_getD,List.getElem?_append_right]
 unfold wordL
 rw[e i,Nat.add_assoc,e,Nat.add_assoc,e,Nat.add_assoc,e]
theorem toBytes_len (l:List Int):(toBytes l).length=l.length:=by simp[toBytes]
theorem toBytes_app (a b:List Int):toBytes (a++b)=toBytes a++toBytes b:=by simp[toBytes]
theorem bys_cons (w:Int)(l:List Int):bys (w::l)=b4 w++bys l:=rfl
theorem byte_toNat (w:Int):((UInt8.ofNat (w%256).toNat).toNat:Int)=w%256:=by
 have:(w%256).toNat<256:=by omega
 simp;omega
theorem wordL_b4 {w:Int}(h:U w)(L:List UInt8):wordL (toBytes (b4 w)++L) 0=w:=by
 unfold wordL toBytes b4 at*
 simp only[List.map_cons,List.map_nil,List.cons_append,List.nil_append,Nat.zero_add,List.getD_cons_zero,List.getD_cons_succ,byte_toNat]
 unfold U at h
 omega
theorem wordL_bys (l:List Int)(h: ∀x∈l,U x)(T:List UInt8): ∀k (hk:k<l.length),wordL (toBytes (bys l)++T) (4*k)=l[k]:=by
 induction l with
 |nil=>intro k hk;simp at hk
 |cons w l ih=>
  intro k hk
  rw[bys_cons,toBytes_app,List.append_assoc]
  cases k with
  |zero=>exact wordL_b4 (h w (List.mem_cons_self ..)) _
  |succ k=>
   have e:4*(k+1)=(toBytes (b4 w)).length+4*k:=by rw[toBytes_len];simp[b4];omega
   rw[e,wordL_app]
   exact ih (fun x hx=>h x (List.mem_cons_of_mem _ hx)) k (by simpa using hk)
theorem ba_ext {a b:ByteArray}(h:a.data.toList=b.data.toList):a=b:=by
 apply ByteArray.ext;exact Array.toList_inj.1 h
theorem ba_size (a:ByteArray):a.size=a.data.toList.length:=rfl
end
section
open Go Go.Ab
attribute [-simp] Prog.bind getCs putCs
attribute [local simp ↓] run_bind
attribute [local simp ↓] runF_bind
attribute [local simp] run_getCsN runF_getCsN facetsC putCs_one run_putCsN
def xorW (a b:Int):Int:=IntKind.u32.wrap ((BitVec.ofInt IntKind.u32.bits a^^^BitVec.ofInt IntKind.u32.bits b).toNat)
def orW (a b:Int):Int:=IntKind.u32.wrap ((BitVec.ofInt IntKind.u32.bits a|||BitVec.ofInt IntKind.u32.bits b).toNat)
def andX (a b:Int):Int:=IntKind.u64.wrap ((BitVec.ofInt IntKind.u64.bits a&&&BitVec.ofInt IntKind.u64.bits b).toNat)
theorem evInt_xor (a b:Int):evInt .xor .u32 a b=some (.int .u32 (xorW a b)):=rfl
theorem evInt_or (a b:Int):evInt .or .u32 a b=some (.int .u32 (orW a b)):=rfl
theorem evInt_and64 (a b:Int):evInt .and .u64 a b=some (.int .u64 (andX a b)):=rfl
theorem orW_nat {x y:Nat}(hx:x<4294967296)(hy:y<4294967296):orW (x:Int) (y:Int)=((x|||y:Nat):Int):=bits_or hx hy
theorem wrap_U32 (x:Int):U (IntKind.u32.wrap x):=by rw[IntKind.wrap_u32];unfold U;omega
theorem xorW_U (a b:Int):U (xorW a b):=wrap_U32 _
def turnP (x:Int)(k:Nat):Int:=x*2^k%4294967296+x/2^(32 - k)
attribute [local simp ↓] evInt_xor evInt_or evInt_and64
theorem turnP_7 (x:Int):turnP x 7=x*128%4294967296+x/33554432:=rfl
theorem or_turn_7 {x:Int}(h:U x):orW (IntKind.u32.wrap (x*128)) (x/33554432)=turnP x 7:=by
 obtain⟨n,rfl⟩: ∃n:Nat,x=n:=⟨x.toNat,by unfold U at h;omega⟩
 have hn:n<4294967296:=by unfold U at h;omega
 have e:IntKind.u32.wrap ((n:Int)*128)=((n%33554432*128:Nat):Int):=by rw[IntKind.wrap_u32];omega
 have e2:(n:Int)/33554432=((n/33554432:Nat):Int):=by omega
 have o:=or_add (x:=n/33554432) (y:=n%33554432) 7 (by omega)
 rw[show(2:Nat)^7=128 from rfl] at o
 rw[e,e2,orW_nat (by omega) (by omega),Nat.or_comm,o,turnP_7]
 omega
@[simp] theorem fd25 (w:Int):w.fdiv (2^min 25 IntKind.u32.bits)=w/33554432:=by rw[show(2:Int)^min 25 IntKind.u32.bits=33554432 from by decide+kernel];exact Int.fdiv_eq_ediv_of_nonneg _ (by omega)
@[simp] theorem sh7 (w:Int):w*2^min 7 IntKind.u32.bits=w*128:=by rw[show(2:Int)^min 7 IntKind.u32.bits=128 from by decide+kernel]
theorem and_7 :andX 7 31=7:=by decide+kernel
theorem d88_7 (x:Int)(h:U x):(lim Tryz.prog E47 X46).dat 91 [uv x,iv 7]=some [uv (turnP x 7)]:=by
 refine fnW Tryz.func91 rfl rfl bodyOk_91 rfl rtys_91 rfl ?_
 have a1:IntKind.u64.wrap 7=7:=by decide+kernel
 have a2:IntKind.u64.wrap 25=25:=by decide+kernel
 have a3:=and_7
 have a4:=or_turn_7 h
 clear h
 repeat' (first|(refine ZN ?_)|(refine Z2 ?_ ?_)|(intro h h';try simp[*,-h] at h'))
 all_goals rfl
theorem turnP_9 (x:Int):turnP x 9=x*512%4294967296+x/8388608:=rfl
theorem or_turn_9 {x:Int}(h:U x):orW (IntKind.u32.wrap (x*512)) (x/8388608)=turnP x 9:=by
 obtain⟨n,rfl⟩: ∃n:Nat,x=n:=⟨x.toNat,by unfold U at h;omega⟩
 have hn:n<4294967296:=by unfold U at h;omega
 have e:IntKind.u32.wrap ((n:Int)*512)=((n%8388608*512:Nat):Int):=by rw[IntKind.wrap_u32];omega
 have e2:(n:Int)/8388608=((n/8388608:Nat):Int):=by omega
 have o:=or_add (x:=n/8388608) (y:=n%8388608) 9 (by omega)
 rw[show(2:Nat)^9=512 from rfl] at o
 rw[e,e2,orW_nat (by omega) (by omega),Nat.or_comm,o,turnP_9]
 omega
@[simp] theorem fd23 (w:Int):w.fdiv (2^min 23 IntKind.u32.bits)=w/8388608:=by rw[show(2:Int)^min 23 IntKind.u32.bits=8388608 from by decide+kernel];exact Int.fdiv_eq_ediv_of_nonneg _ (by omega)
@[simp] theorem sh9 (w:Int):w*2^min 9 IntKind.u32.bits=w*512:=by rw[show(2:Int)^min 9 IntKind.u32.bits=512 from by decide+kernel]
theorem and_9 :andX 9 31=9:=by decide+kernel
theorem d88_9 (x:Int)(h:U x):(lim Tryz.prog E47 X46).dat 91 [uv x,iv 9]=some [uv (turnP x 9)]:=by
 refine fnW Tryz.func91 rfl rfl bodyOk_91 rfl rtys_91 rfl ?_
 have a1:IntKind.u64.wrap 9=9:=by decide+kernel
 have a2:IntKind.u64.wrap 23=23:=by decide+kernel
 have a3:=and_9
 have a4:=or_turn_9 h
 clear h
 repeat' (first|(refine ZN ?_)|(refine Z2 ?_ ?_)|(intro h h';try simp[*,-h] at h'))
 all_goals rfl
theorem turnP_13 (x:Int):turnP x 13=x*8192%4294967296+x/524288:=rfl
theorem or_turn_13 {x:Int}(h:U x):orW (IntKind.u32.wrap (x*8192)) (x/524288)=turnP x 13:=by
 obtain⟨n,rfl⟩: ∃n:Nat,x=n:=⟨x.toNat,by unfold U at h;omega⟩
 have hn:n<4294967296:=by unfold U at h;omega
 have e:IntKind.u32.wrap ((n:Int)*8192)=((n%524288*8192:Nat):Int):=by rw[IntKind.wrap_u32];omega
 have e2:(n:Int)/524288=((n/524288:Nat):Int):=by omega
 have o:=or_add (x:=n/524288) (y:=n%524288) 13 (by omega)
 rw[show(2:Nat)^13=8192 from rfl] at o
 rw[e,e2,orW_nat (by omega) (by omega),Nat.or_comm,o,turnP_13]
 omega
@[simp] theorem fd19 (w:Int):w.fdiv (2^min 19 IntKind.u32.bits)=w/524288:=by rw[show(2:Int)^min 19 IntKind.u32.bits=524288 from by decide+kernel];exact Int.fdiv_eq_ediv_of_nonneg _ (by omega)
@[simp] theorem sh13 (w:Int):w*2^min 13 IntKind.u32.bits=w*8192:=by rw[show(2:Int)^min 13 IntKind.u32.bits=8192 from by decide+kernel]
theorem and_13 :andX 13 31=13:=by decide+kernel
theorem d88_13 (x:Int)(h:U x):(lim Tryz.prog E47 X46).dat 91 [uv x,iv 13]=some [uv (turnP x 13)]:=by
 refine fnW Tryz.func91 rfl rfl bodyOk_91 rfl rtys_91 rfl ?_
 have a1:IntKind.u64.wrap 13=13:=by decide+kernel
 have a2:IntKind.u64.wrap 19=19:=by decide+kernel
 have a3:=and_13
 have a4:=or_turn_13 h
 clear h
 repeat' (first|(refine ZN ?_)|(refine Z2 ?_ ?_)|(intro h h';try simp[*,-h] at h'))
 all_goals rfl
theorem turnP_18 (x:Int):turnP x 18=x*262144%4294967296+x/16384:=rfl
theorem or_turn_18 {x:Int}(h:U x):orW (IntKind.u32.wrap (x*262144)) (x/16384)=turnP x 18:=by
 obtain⟨n,rfl⟩: ∃n:Nat,x=n:=⟨x.toNat,by unfold U at h;omega⟩
 have hn:n<4294967296:=by unfold U at h;omega
 have e:IntKind.u32.wrap ((n:Int)*262144)=((n%16384*262144:Nat):Int):=by rw[IntKind.wrap_u32];omega
 have e2:(n:Int)/16384=((n/16384:Nat):Int):=by omega
 have o:=or_add (x:=n/16384) (y:=n%16384) 18 (by omega)
 rw[show(2:Nat)^18=262144 from rfl] at o
 rw[e,e2,orW_nat (by omega) (by omega),Nat.or_comm,o,turnP_18]
 omega
@[simp] theorem fd14 (w:Int):w.fdiv (2^min 14 IntKind.u32.bits)=w/16384:=by rw[show(2:Int)^min 14 IntKind.u32.bits=16384 from by decide+kernel];exact Int.fdiv_eq_ediv_of_nonneg _ (by omega)
@[simp] theorem sh18 (w:Int):w*2^min 18 IntKind.u32.bits=w*262144:=by rw[show(2:Int)^min 18 IntKind.u32.bits=262144 from by decide+kernel]
theorem and_18 :andX 18 31=18:=by decide+kernel
theorem d88_18 (x:Int)(h:U x):(lim Tryz.prog E47 X46).dat 91 [uv x,iv 18]=some [uv (turnP x 18)]:=by
 refine fnW Tryz.func91 rfl rfl bodyOk_91 rfl rtys_91 rfl ?_
 have a1:IntKind.u64.wrap 18=18:=by decide+kernel
 have a2:IntKind.u64.wrap 14=14:=by decide+kernel
 have a3:=and_18
 have a4:=or_turn_18 h
 clear h
 repeat' (first|(refine ZN ?_)|(refine Z2 ?_ ?_)|(intro h h';try simp[*,-h] at h'))
 all_goals rfl
theorem turnP_U {x:Int}(h:U x): ∀i,i≤18→U (turnP x i):=by
 intro i hi
 unfold U at*
 have:i=0∨i=1∨i=2∨i=3∨i=4∨i=5∨i=6∨i=7∨i=8∨i=9∨i=10∨i=11∨i=12∨i=13∨i=14∨i=15∨i=16∨i=17∨i=18:=by omega
 rcases this with rfl|rfl|rfl|rfl|rfl|rfl|rfl|rfl|rfl|rfl|rfl|rfl|rfl|rfl|rfl|rfl|rfl|rfl|rfl<;>simp only[turnP,Nat.reduceSub,Int.reducePow]<;>omega
theorem turnP_step {x:Int}(h:U x): ∀i,i<18→2*turnP x i%4294967296+turnP x i/2147483648=turnP x (i+1):=by
 intro i hi
 unfold U at*
 have:i=0∨i=1∨i=2∨i=3∨i=4∨i=5∨i=6∨i=7∨i=8∨i=9∨i=10∨i=11∨i=12∨i=13∨i=14∨i=15∨i=16∨i=17:=by omega
 rcases this with rfl|rfl|rfl|rfl|rfl|rfl|rfl|rfl|rfl|rfl|rfl|rfl|rfl|rfl|rfl|rfl|rfl|rfl
 ·simp only[turnP,Nat.reduceSub,Nat.reduceAdd,Int.reducePow]
  have e1:x*1%4294967296=x%4294967296*1:=by omega
  have e2:x*2%4294967296=x%2147483648*2:=by omega
  rw[e1,e2]
  obtain⟨q,t,r,hx,ht,hr⟩: ∃q t r:Int,x=4294967296*q+2147483648*t+r∧(t=0∨t=1)∧0≤r∧r<2147483648:=⟨x/4294967296,x/2147483648%2,x%2147483648,by omega,by omega,by omega,by omega⟩
  have hq:0≤q∧q<1:=by omega
  obtain⟨s,hs⟩: ∃s,s=r*1+q:=⟨_,rfl⟩
  have hs1:0≤s∧s<2147483648:=by omega
  have g0:(2147483648*0+r)*1+q=s:=by omega
  have g1:(2147483648*1+r)*1+q=2147483648+s:=by omega
  have g2:r*2+(2*q+0)=2*s:=by omega
  have g3:r*2+(2*q+1)=2*s+1:=by omega
  have f1:x%4294967296=2147483648*t+r:=by omega
  have f2:x/4294967296=q:=by omega
  have f3:x%2147483648=r:=by omega
  have f4:x/2147483648=2*q+t:=by omega
  rw[f1,f2,f3,f4]
  rcases ht with rfl|rfl
  ·rw[g0,g2];clear g0 g1 g2 g3 f1 f2 f3 f4 e1 e2 hs hx hr hq;omega
  ·rw[g1,g3];clear g0 g1 g2 g3 f1 f2 f3 f4 e1 e2 hs hx hr hq;omega
 ·simp only[turnP,Nat.reduceSub,Nat.reduceAdd,Int.reducePow]
  have e1:x*2%4294967296=x%2147483648*2:=by omega
  have e2:x*4%4294967296=x%1073741824*4:=by omega
  rw[e1,e2]
  obtain⟨q,t,r,hx,ht,hr⟩: ∃q t r:Int,x=2147483648*q+1073741824*t+r∧(t=0∨t=1)∧0≤r∧r<1073741824:=⟨x/2147483648,x/1073741824%2,x%1073741824,by omega,by omega,by omega,by omega⟩
  have hq:0≤q∧q<2:=by omega
  obtain⟨s,hs⟩: ∃s,s=r*2+q:=⟨_,rfl⟩
  have hs1:0≤s∧s<2147483648:=by omega
  have g0:(1073741824*0+r)*2+q=s:=by omega
  have g1:(1073741824*1+r)*2+q=2147483648+s:=by omega
  have g2:r*4+(2*q+0)=2*s:=by omega
  have g3:r*4+(2*q+1)=2*s+1:=by omega
  have f1:x%2147483648=1073741824*t+r:=by omega
  have f2:x/2147483648=q:=by omega
  have f3:x%1073741824=r:=by omega
  have f4:x/1073741824=2*q+t:=by omega
  rw[f1,f2,f3,f4]
  rcases ht with rfl|rfl
  ·rw[g0,g2];clear g0 g1 g2 g3 f1 f2 f3 f4 e1 e2 hs hx hr hq;omega
  ·rw[g1,g3];clear g0 g1 g2 g3 f1 f2 f3 f4 e1 e2 hs hx hr hq;omega
 ·simp only[turnP,Nat.reduceSub,Nat.reduceAdd,Int.reducePow]
  have e1:x*4%4294967296=x%1073741824*4:=by omega
  have e2:x*8%4294967296=x%536870912*8:=by omega
  rw[e1,e2]
  obtain⟨q,t,r,hx,ht,hr⟩: ∃q t r:Int,x=1073741824*q+536870912*t+r∧(t=0∨t=1)∧0≤r∧r<536870912:=⟨x/1073741824,x/536870912%2,x%536870912,by omega,by omega,by omega,by omega⟩
  have hq:0≤q∧q<4:=by omega
  obtain⟨s,hs⟩: ∃s,s=r*4+q:=⟨_,rfl⟩
  have hs1:0≤s∧s<2147483648:=by omega
  have g0:(536870912*0+r)*4+q=s:=by omega
  have g1:(536870912*1+r)*4+q=2147483648+s:=by omega
  have g2:r*8+(2*q+0)=2*s:=by omega
  have g3:r*8+(2*q+1)=2*s+1:=by omega
  have f1:x%1073741824=536870912*t+r:=by omega
  have f2:x/1073741824=q:=by omega
  have f3:x%536870912=r:=by omega
  have f4:x/536870912=2*q+t:=by omega
  rw[f1,f2,f3,f4]
  rcases ht with rfl|rfl
  ·rw[g0,g2];clear g0 g1 g2 g3 f1 f2 f3 f4 e1 e2 hs hx hr hq;omega
  ·rw[g1,g3];clear g0 g1 g2 g3 f1 f2 f3 f4 e1 e2 hs hx hr hq;omega
 ·simp only[turnP,Nat.reduceSub,Nat.reduceAdd,Int.reducePow]
  have e1:x*8%4294967296=x%536870912*8:=by omega
  have e2:x*16%4294967296=x%268435456*16:=by omega
  rw[e1,e2]
  obtain⟨q,t,r,hx,ht,hr⟩: ∃q t r:Int,x=536870912*q+268435456*t+r∧(t=0∨t=1)∧0≤r∧r<268435456:=⟨x/536870912,x/268435456%2,x%268435456,by omega,by omega,by omega,by omega⟩
  have hq:0≤q∧q<8:=by omega
  obtain⟨s,hs⟩: ∃s,s=r*8+q:=⟨_,rfl⟩
  have hs1:0≤s∧s<2147483648:=by omega
  have g0:(268435456*0+r)*8+q=s:=by omega
  have g1:(268435456*1+r)*8+q=2147483648+s:=by omega
  have g2:r*16+(2*q+0)=2*s:=by omega
  have g3:r*16+(2*q+1)=2*s+1:=by omega
  have f1:x%536870912=268435456*t+r:=by omega
  have f2:x/536870912=q:=by omega
  have f3:x%268435456=r:=by omega
  have f4:x/268435456=2*q+t:=by omega
  rw[f1,f2,f3,f4]
  rcases ht with rfl|rfl
  ·rw[g0,g2];clear g0 g1 g2 g3 f1 f2 f3 f4 e1 e2 hs hx hr hq;omega
  ·rw[g1,g3];clear g0 g1 g2 g3 f1 f2 f3 f4 e1 e2 hs hx hr hq;omega
 ·simp only[turnP,Nat.reduceSub,Nat.reduceAdd,Int.reducePow]
  have e1:x*16%4294967296=x%268435456*16:=by omega
  have e2:x*32%4294967296=x%134217728*32:=by omega
  rw[e1,e2]
  obtain⟨q,t,r,hx,ht,hr⟩: ∃q t r:Int,x=268435456*q+134217728*t+r∧(t=0∨t=1)∧0≤r∧r<134217728:=⟨x/268435456,x/134217728%2,x%134217728,by omega,by omega,by omega,by omega⟩
  have hq:0≤q∧q<16:=by omega
  obtain⟨s,hs⟩: ∃s,s=r*16+q:=⟨_,rfl⟩
  have hs1:0≤s∧s<2147483648:=by omega
  have g0:(134217728*0+r)*16+q=s:=by omega
  have g1:(134217728*1+r)*16+q=2147483648+s:=by omega
  have g2:r*32+(2*q+0)=2*s:=by omega
  have g3:r*32+(2*q+1)=2*s+1:=by omega
  have f1:x%268435456=134217728*t+r:=by omega
  have f2:x/268435456=q:=by omega
  have f3:x%134217728=r:=by omega
  have f4:x/134217728=2*q+t:=by omega
  rw[f1,f2,f3,f4]
  rcases ht with rfl|rfl
  ·rw[g0,g2];clear g0 g1 g2 g3 f1 f2 f3 f4 e1 e2 hs hx hr hq;omega
  ·rw[g1,g3];clear g0 g1 g2 g3 f1 f2 f3 f4 e1 e2 hs hx hr hq;omega
 ·simp only[turnP,Nat.reduceSub,Nat.reduceAdd,Int.reducePow]
  have e1:x*32%4294967296=x%134217728*32:=by omega
  have e2:x*64%4294967296=x%67108864*64:=by omega
  rw[e1,e2]
  obtain⟨q,t,r,hx,ht,hr⟩: ∃q t r:Int,x=134217728*q+67108864*t+r∧(t=0∨t=1)∧0≤r∧r<67108864:=⟨x/134217728,x/67108864%2,x%67108864,by omega,by omega,by omega,by omega⟩
  have hq:0≤q∧q<32:=by omega
  obtain⟨s,hs⟩: ∃s,s=r*32+q:=⟨_,rfl⟩
  have hs1:0≤s∧s<2147483648:=by omega
  have g0:(67108864*0+r)*32+q=s:=by omega
  have g1:(67108864*1+r)*32+q=2147483648+s:=by omega
  have g2:r*64+(2*q+0)=2*s:=by omega
  have g3:r*64+(2*q+1)=2*s+1:=by omega
  have f1:x%134217728=67108864*t+r:=by omega
  have f2:x/134217728=q:=by omega
  have f3:x%67108864=r:=by omega
  have f4:x/67108864=2*q+t:=by omega
  rw[f1,f2,f3,f4]
  rcases ht with rfl|rfl
  ·rw[g0,g2];clear g0 g1 g2 g3 f1 f2 f3 f4 e1 e2 hs hx hr hq;omega
  ·rw[g1,g3];clear g0 g1 g2 g3 f1 f2 f3 f4 e1 e2 hs hx hr hq;omega
 ·simp only[turnP,Nat.reduceSub,Nat.reduceAdd,Int.reducePow]
  have e1:x*64%4294967296=x%67108864*64:=by omega
  have e2:x*128%4294967296=x%33554432*128:=by omega
  rw[e1,e2]
  obtain⟨q,t,r,hx,ht,hr⟩: ∃q t r:Int,x=67108864*q+33554432*t+r∧(t=0∨t=1)∧0≤r∧r<33554432:=⟨x/67108864,x/33554432%2,x%33554432,by omega,by omega,by omega,by omega⟩
  have hq:0≤q∧q<64:=by omega
  obtain⟨s,hs⟩: ∃s,s=r*64+q:=⟨_,rfl⟩
  have hs1:0≤s∧s<2147483648:=by omega
  have g0:(33554432*0+r)*64+q=s:=by omega
  have g1:(33554432*1+r)*64+q=2147483648+s:=by omega
  have g2:r*128+(2*q+0)=2*s:=by omega
  have g3:r*128+(2*q+1)=2*s+1:=by omega
  have f1:x%67108864=33554432*t+r:=by omega
  have f2:x/67108864=q:=by omega
  have f3:x%33554432=r:=by omega
  have f4:x/33554432=2*q+t:=by omega
  rw[f1,f2,f3,f4]
  rcases ht with rfl|rfl
  ·rw[g0,g2];clear g0 g1 g2 g3 f1 f2 f3 f4 e1 e2 hs hx hr hq;omega
  ·rw[g1,g3];clear g0 g1 g2 g3 f1 f2 f3 f4 e1 e2 hs hx hr hq;omega
 ·simp only[turnP,Nat.reduceSub,Nat.reduceAdd,Int.reducePow]
  have e1:x*128%4294967296=x%33554432*128:=by omega
  have e2:x*256%4294967296=x%16777216*256:=by omega
  rw[e1,e2]
  obtain⟨q,t,r,hx,ht,hr⟩: ∃q t r:Int,x=33554432*q+16777216*t+r∧(t=0∨t=1)∧0≤r∧r<16777216:=⟨x/33554432,x/16777216%2,x%16777216,by omega,by omega,by omega,by omega⟩
  have hq:0≤q∧q<128:=by omega
  obtain⟨s,hs⟩: ∃s,s=r*128+q:=⟨_,rfl⟩
  have hs1:0≤s∧s<2147483648:=by omega
  have g0:(16777216*0+r)*128+q=s:=by omega
  have g1:(16777216*1+r)*128+q=2147483648+s:=by omega
  have g2:r*256+(2*q+0)=2*s:=by omega
  have g3:r*256+(2*q+1)=2*s+1:=by omega
  have f1:x%33554432=16777216*t+r:=by omega
  have f2:x/33554432=q:=by omega
  have f3:x%16777216=r:=by omega
  have f4:x/16777216=2*q+t:=by omega
  rw[f1,f2,f3,f4]
  rcases ht with rfl|rfl
  ·rw[g0,g2];clear g0 g1 g2 g3 f1 f2 f3 f4 e1 e2 hs hx hr hq;omega
  ·rw[g1,g3];clear g0 g1 g2 g3 f1 f2 f3 f4 e1 e2 hs hx hr hq;omega
 ·simp only[turnP,Nat.reduceSub,Nat.reduceAdd,Int.reducePow]
  have e1:x*256%4294967296=x%16777216*256:=by omega
  have e2:x*512%4294967296=x%8388608*512:=by omega
  rw[e1,e2]
  obtain⟨q,t,r,hx,ht,hr⟩: ∃q t r:Int,x=16777216*q+8388608*t+r∧(t=0∨t=1)∧0≤r∧r<8388608:=⟨x/16777216,x/8388608%2,x%8388608,by omega,by omega,by omega,by omega⟩
  have hq:0≤q∧q<256:=by omega
  obtain⟨s,hs⟩: ∃s,s=r*256+q:=⟨_,rfl⟩
  have hs1:0≤s∧s<2147483648:=by omega
  have g0:(8388608*0+r)*256+q=s:=by omega
  have g1:(8388608*1+r)*256+q=2147483648+s:=by omega
  have g2:r*512+(2*q+0)=2*s:=by omega
  have g3:r*512+(2*q+1)=2*s+1:=by omega
  have f1:x%16777216=8388608*t+r:=by omega
  have f2:x/16777216=q:=by omega
  have f3:x%8388608=r:=by omega
  have f4:x/8388608=2*q+t:=by omega
  rw[f1,f2,f3,f4]
  rcases ht with rfl|rfl
  ·rw[g0,g2];clear g0 g1 g2 g3 f1 f2 f3 f4 e1 e2 hs hx hr hq;omega
  ·rw[g1,g3];clear g0 g1 g2 g3 f1 f2 f3 f4 e1 e2 hs hx hr hq;omega
 ·simp only[turnP,Nat.reduceSub,Nat.reduceAdd,Int.reducePow]
  have e1:x*512%4294967296=x%8388608*512:=by omega
  have e2:x*1024%4294967296=x%4194304*1024:=by omega
  rw[e1,e2]
  obtain⟨q,t,r,hx,ht,hr⟩: ∃q t r:Int,x=8388608*q+4194304*t+r∧(t=0∨t=1)∧0≤r∧r<4194304:=⟨x/8388608,x/4194304%2,x%4194304,by omega,by omega,by omega,by omega⟩
  have hq:0≤q∧q<512:=by omega
  obtain⟨s,hs⟩: ∃s,s=r*512+q:=⟨_,rfl⟩
  have hs1:0≤s∧s<2147483648:=by omega
  have g0:(4194304*0+r)*512+q=s:=by omega
  have g1:(4194304*1+r)*512+q=2147483648+s:=by omega
  have g2:r*1024+(2*q+0)=2*s:=by omega
  have g3:r*1024+(2*q+1)=2*s+1:=by omega
  have f1:x%8388608=4194304*t+r:=by omega
  have f2:x/8388608=q:=by omega
  have f3:x%4194304=r:=by omega
  have f4:x/4194304=2*q+t:=by omega
  rw[f1,f2,f3,f4]
  rcases ht with rfl|rfl
  ·rw[g0,g2];clear g0 g1 g2 g3 f1 f2 f3 f4 e1 e2 hs hx hr hq;omega
  ·rw[g1,g3];clear g0 g1 g2 g3 f1 f2 f3 f4 e1 e2 hs hx hr hq;omega
 ·simp only[turnP,Nat.reduceSub,Nat.reduceAdd,Int.reducePow]
  have e1:x*1024%4294967296=x%4194304*1024:=by omega
  have e2:x*2048%4294967296=x%2097152*2048:=by omega
  rw[e1,e2]
  obtain⟨q,t,r,hx,ht,hr⟩: ∃q t r:Int,x=4194304*q+2097152*t+r∧(t=0∨t=1)∧0≤r∧r<2097152:=⟨x/4194304,x/2097152%2,x%2097152,by omega,by omega,by omega,by omega⟩
  have hq:0≤q∧q<1024:=by omega
  obtain⟨s,hs⟩: ∃s,s=r*1024+q:=⟨_,rfl⟩
  have hs1:0≤s∧s<2147483648:=by omega
  have g0:(2097152*0+r)*1024+q=s:=by omega
  have g1:(2097152*1+r)*1024+q=2147483648+s:=by omega
  have g2:r*2048+(2*q+0)=2*s:=by omega
  have g3:r*2048+(2*q+1)=2*s+1:=by omega
  have f1:x%4194304=2097152*t+r:=by omega
  have f2:x/4194304=q:=by omega
  have f3:x%2097152=r:=by omega
  have f4:x/2097152=2*q+t:=by omega
  rw[f1,f2,f3,f4]
  rcases ht with rfl|rfl
  ·rw[g0,g2];clear g0 g1 g2 g3 f1 f2 f3 f4 e1 e2 hs hx hr hq;omega
  ·rw[g1,g3];clear g0 g1 g2 g3 f1 f2 f3 f4 e1 e2 hs hx hr hq;omega
 ·simp only[turnP,Nat.reduceSub,Nat.reduceAdd,Int.reducePow]
  have e1:x*2048%4294967296=x%2097152*2048:=by omega
  have e2:x*4096%4294967296=x%1048576*4096:=by omega
  rw[e1,e2]
  obtain⟨q,t,r,hx,ht,hr⟩: ∃q t r:Int,x=2097152*q+1048576*t+r∧(t=0∨t=1)∧0≤r∧r<1048576:=⟨x/2097152,x/1048576%2,x%1048576,by omega,by omega,by omega,by omega⟩
  have hq:0≤q∧q<2048:=by omega
  obtain⟨s,hs⟩: ∃s,s=r*2048+q:=⟨_,rfl⟩
  have hs1:0≤s∧s<2147483648:=by omega
  have g0:(1048576*0+r)*2048+q=s:=by omega
  have g1:(1048576*1+r)*2048+q=2147483648+s:=by omega
  have g2:r*4096+(2*q+0)=2*s:=by omega
  have g3:r*4096+(2*q+1)=2*s+1:=by omega
  have f1:x%2097152=1048576*t+r:=by omega
  have f2:x/2097152=q:=by omega
  have f3:x%1048576=r:=by omega
  have f4:x/1048576=2*q+t:=by omega
  rw[f1,f2,f3,f4]
  rcases ht with rfl|rfl
  ·rw[g0,g2];clear g0 g1 g2 g3 f1 f2 f3 f4 e1 e2 hs hx hr hq;omega
  ·rw[g1,g3];clear g0 g1 g2 g3 f1 f2 f3 f4 e1 e2 hs hx hr hq;omega
 ·simp only[turnP,Nat.reduceSub,Nat.reduceAdd,Int.reducePow]
  have e1:x*4096%4294967296=x%1048576*4096:=by omega
  have e2:x*8192%4294967296=x%524288*8192:=by omega
  rw[e1,e2]
  obtain⟨q,t,r,hx,ht,hr⟩: ∃q t r:Int,x=1048576*q+524288*t+r∧(t=0∨t=1)∧0≤r∧r<524288:=⟨x/1048576,x/524288%2,x%524288,by omega,by omega,by omega,by omega⟩
  have hq:0≤q∧q<4096:=by omega
  obtain⟨s,hs⟩: ∃s,s=r*4096+q:=⟨_,rfl⟩
  have hs1:0≤s∧s<2147483648:=by omega
  have g0:(524288*0+r)*4096+q=s:=by omega
  have g1:(524288*1+r)*4096+q=2147483648+s:=by omega
  have g2:r*8192+(2*q+0)=2*s:=by omega
  have g3:r*8192+(2*q+1)=2*s+1:=by omega
  have f1:x%1048576=524288*t+r:=by omega
  have f2:x/1048576=q:=by omega
  have f3:x%524288=r:=by omega
  have f4:x/524288=2*q+t:=by omega
  rw[f1,f2,f3,f4]
  rcases ht with rfl|rfl
  ·rw[g0,g2];clear g0 g1 g2 g3 f1 f2 f3 f4 e1 e2 hs hx hr hq;omega
  ·rw[g1,g3];clear g0 g1 g2 g3 f1 f2 f3 f4 e1 e2 hs hx hr hq;omega
 ·simp only[turnP,Nat.reduceSub,Nat.reduceAdd,Int.reducePow]
  have e1:x*8192%4294967296=x%524288*8192:=by omega
  have e2:x*16384%4294967296=x%262144*16384:=by omega
  rw[e1,e2]
  obtain⟨q,t,r,hx,ht,hr⟩: ∃q t r:Int,x=524288*q+262144*t+r∧(t=0∨t=1)∧0≤r∧r<262144:=⟨x/524288,x/262144%2,x%262144,by omega,by omega,by omega,by omega⟩
  have hq:0≤q∧q<8192:=by omega
  obtain⟨s,hs⟩: ∃s,s=r*8192+q:=⟨_,rfl⟩
  have hs1:0≤s∧s<2147483648:=by omega
  have g0:(262144*0+r)*8192+q=s:=by omega
  have g1:(262144*1+r)*8192+q=2147483648+s:=by omega
  have g2:r*16384+(2*q+0)=2*s:=by omega
  have g3:r*16384+(2*q+1)=2*s+1:=by omega
  have f1:x%524288=262144*t+r:=by omega
  have f2:x/524288=q:=by omega
  have f3:x%262144=r:=by omega
  have f4:x/262144=2*q+t:=by omega
  rw[f1,f2,f3,f4]
  rcases ht with rfl|rfl
  ·rw[g0,g2];clear g0 g1 g2 g3 f1 f2 f3 f4 e1 e2 hs hx hr hq;omega
  ·rw[g1,g3];clear g0 g1 g2 g3 f1 f2 f3 f4 e1 e2 hs hx hr hq;omega
 ·simp only[turnP,Nat.reduceSub,Nat.reduceAdd,Int.reducePow]
  have e1:x*16384%4294967296=x%262144*16384:=by omega
  have e2:x*32768%4294967296=x%131072*32768:=by omega
  rw[e1,e2]
  obtain⟨q,t,r,hx,ht,hr⟩: ∃q t r:Int,x=262144*q+131072*t+r∧(t=0∨t=1)∧0≤r∧r<131072:=⟨x/262144,x/131072%2,x%131072,by omega,by omega,by omega,by omega⟩
  have hq:0≤q∧q<16384:=by omega
  obtain⟨s,hs⟩: ∃s,s=r*16384+q:=⟨_,rfl⟩
  have hs1:0≤s∧s<2147483648:=by omega
  have g0:(131072*0+r)*16384+q=s:=by omega
  have g1:(131072*1+r)*16384+q=2147483648+s:=by omega
  have g2:r*32768+(2*q+0)=2*s:=by omega
  have g3:r*32768+(2*q+1)=2*s+1:=by omega
  have f1:x%262144=131072*t+r:=by omega
  have f2:x/262144=q:=by omega
  have f3:x%131072=r:=by omega
  have f4:x/131072=2*q+t:=by omega
  rw[f1,f2,f3,f4]
  rcases ht with rfl|rfl
  ·rw[g0,g2];clear g0 g1 g2 g3 f1 f2 f3 f4 e1 e2 hs hx hr hq;omega
  ·rw[g1,g3];clear g0 g1 g2 g3 f1 f2 f3 f4 e1 e2 hs hx hr hq;omega
 ·simp only[turnP,Nat.reduceSub,Nat.reduceAdd,Int.reducePow]
  have e1:x*32768%4294967296=x%131072*32768:=by omega
  have e2:x*65536%4294967296=x%65536*65536:=by omega
  rw[e1,e2]
  obtain⟨q,t,r,hx,ht,hr⟩: ∃q t r:Int,x=131072*q+65536*t+r∧(t=0∨t=1)∧0≤r∧r<65536:=⟨x/131072,x/65536%2,x%65536,by omega,by omega,by omega,by omega⟩
  have hq:0≤q∧q<32768:=by omega
  obtain⟨s,hs⟩: ∃s,s=r*32768+q:=⟨_,rfl⟩
  have hs1:0≤s∧s<2147483648:=by omega
  have g0:(65536*0+r)*32768+q=s:=by omega
  have g1:(65536*1+r)*32768+q=2147483648+s:=by omega
  have g2:r*65536+(2*q+0)=2*s:=by omega
  have g3:r*65536+(2*q+1)=2*s+1:=by omega
  have f1:x%131072=65536*t+r:=by omega
  have f2:x/131072=q:=by omega
  have f3:x%65536=r:=by omega
  have f4:x/65536=2*q+t:=by omega
  rw[f1,f2,f3,f4]
  rcases ht with rfl|rfl
  ·rw[g0,g2];clear g0 g1 g2 g3 f1 f2 f3 f4 e1 e2 hs hx hr hq;omega
  ·rw[g1,g3];clear g0 g1 g2 g3 f1 f2 f3 f4 e1 e2 hs hx hr hq;omega
 ·simp only[turnP,Nat.reduceSub,Nat.reduceAdd,Int.reducePow]
  have e1:x*65536%4294967296=x%65536*65536:=by omega
  have e2:x*131072%4294967296=x%32768*131072:=by omega
  rw[e1,e2]
  obtain⟨q,t,r,hx,ht,hr⟩: ∃q t r:Int,x=65536*q+32768*t+r∧(t=0∨t=1)∧0≤r∧r<32768:=⟨x/65536,x/32768%2,x%32768,by omega,by omega,by omega,by omega⟩
  have hq:0≤q∧q<65536:=by omega
  obtain⟨s,hs⟩: ∃s,s=r*65536+q:=⟨_,rfl⟩
  have hs1:0≤s∧s<2147483648:=by omega
  have g0:(32768*0+r)*65536+q=s:=by omega
  have g1:(32768*1+r)*65536+q=2147483648+s:=by omega
  have g2:r*131072+(2*q+0)=2*s:=by omega
  have g3:r*131072+(2*q+1)=2*s+1:=by omega
  have f1:x%65536=32768*t+r:=by omega
  have f2:x/65536=q:=by omega
  have f3:x%32768=r:=by omega
  have f4:x/32768=2*q+t:=by omega
  rw[f1,f2,f3,f4]
  rcases ht with rfl|rfl
  ·rw[g0,g2];clear g0 g1 g2 g3 f1 f2 f3 f4 e1 e2 hs hx hr hq;omega
  ·rw[g1,g3];clear g0 g1 g2 g3 f1 f2 f3 f4 e1 e2 hs hx hr hq;omega
 ·simp only[turnP,Nat.reduceSub,Nat.reduceAdd,Int.reducePow]
  have e1:x*131072%4294967296=x%32768*131072:=by omega
  have e2:x*262144%4294967296=x%16384*262144:=by omega
  rw[e1,e2]
  obtain⟨q,t,r,hx,ht,hr⟩: ∃q t r:Int,x=32768*q+16384*t+r∧(t=0∨t=1)∧0≤r∧r<16384:=⟨x/32768,x/16384%2,x%16384,by omega,by omega,by omega,by omega⟩
  have hq:0≤q∧q<131072:=by omega
  obtain⟨s,hs⟩: ∃s,s=r*131072+q:=⟨_,rfl⟩
  have hs1:0≤s∧s<2147483648:=by omega
  have g0:(16384*0+r)*131072+q=s:=by omega
  have g1:(16384*1+r)*131072+q=2147483648+s:=by omega
  have g2:r*262144+(2*q+0)=2*s:=by omega
  have g3:r*262144+(2*q+1)=2*s+1:=by omega
  have f1:x%32768=16384*t+r:=by omega
  have f2:x/32768=q:=by omega
  have f3:x%16384=r:=by omega
  have f4:x/16384=2*q+t:=by omega
  rw[f1,f2,f3,f4]
  rcases ht with rfl|rfl
  ·rw[g0,g2];clear g0 g1 g2 g3 f1 f2 f3 f4 e1 e2 hs hx hr hq;omega
  ·rw[g1,g3];clear g0 g1 g2 g3 f1 f2 f3 f4 e1 e2 hs hx hr hq;omega
theorem turnP_zero {x:Int}(h:U x):turnP x 0=x:=by
 unfold U at h;simp only[turnP,Nat.reduceSub,Int.reducePow];omega
theorem d78_7 (x:Int)(h:U x):(lim Tryz.prog E47 X46).dat 82 [uv x,iv 7]=some [uv (turnP x 7)]:=by
 refine fnW Tryz.func82 rfl rfl bodyOk_82 rfl rtys_82 rfl ?_
 have h88:=d88_7 x h
 clear h
 repeat' (first|(refine ZN ?_)|(refine Z2 ?_ ?_)|(intro h h';try simp[*,-h] at h'))
 all_goals rfl
theorem d76_7 (x:Int)(h:U x):(lim Tryz.prog E47 X46).dat 75 [uv x,iv 7]=some [uv (turnP x 7)]:=by
 refine fnW Tryz.func75 rfl rfl bodyOk_75 rfl rtys_75 rfl ?_
 have hx0:IntKind.u64.wrap x=x:=by rw[IntKind.wrap_u64];unfold U at h;omega
 have hh:=Lib.hid h
 clear h
 repeat' (first|(refine ZN ?_)|(refine Z2 ?_ ?_)|(intro h h';try simp[*,-h] at h'))
 refine W_loopS (n:=7) (fun s0 m s=> ∃i:Nat,m=7 - i∧i≤7∧s.fr 7=iv i∧s.fr 6= .sc (.int .u64 (turnP x i))∧s.fr 5=s0.fr 5) ⟨0,by simp,by omega,by simp,by simp[turnP_zero hh.out,hx0],by simp⟩ ?_
 rintro m ⟨fr,hp⟩ ⟨i,rfl,hi,hs7,hs6,hs5⟩
 simp at hs7 hs6 hs5
 have hy:=turnP_U hh.out i (by omega)
 by_cases hlt:i<7
 ·have hw:=wrapN (k:=i) (by omega)
  have hlI:(i:Int)<7:=by omega
  have hst:=Lib.hid (turnP_step hh.out i (by omega))
  generalize turnP x i=y at*
  have m1:IntKind.u64.wrap (2*y)=2*y:=by rw[IntKind.wrap_u64];unfold U at hy;omega
  have m2:(2*y).tmod 4294967296=2*y%4294967296:=Int.tmod_eq_emod_of_nonneg (by unfold U at hy;omega)
  have m3:y.tdiv 2147483648=y/2147483648:=Int.tdiv_eq_ediv_of_nonneg hy.1
  have m4:IntKind.u64.wrap (y/2147483648)=y/2147483648:=by rw[IntKind.wrap_u64];unfold U at hy;omega
  have m5:IntKind.u64.wrap (2*y%4294967296+y/2147483648)=2*y%4294967296+y/2147483648:=by rw[IntKind.wrap_u64];unfold U at hy;omega
  clear hy
  repeat' (first|(refine ZN ?_)|(refine Z2 ?_ ?_)|(intro h h';try simp[*,-h] at h'))
  all_goals exact⟨_,by omega,i+1,rfl,hlt,by simp[*],by rw[←hst.out];simp[*],by simp[*]⟩
 ·obtain rfl:i=7:=by omega
  have m1:IntKind.u32.wrap (turnP x 7)=turnP x 7:=by rw[IntKind.wrap_u32];unfold U at hy;omega
  clear hy
  repeat' (first|(refine ZN ?_)|(refine Z2 ?_ ?_)|(intro h h';try simp[*,-h] at h'))
  all_goals rfl
theorem d78_9 (x:Int)(h:U x):(lim Tryz.prog E47 X46).dat 82 [uv x,iv 9]=some [uv (turnP x 9)]:=by
 refine fnW Tryz.func82 rfl rfl bodyOk_82 rfl rtys_82 rfl ?_
 have h88:=d88_9 x h
 clear h
 repeat' (first|(refine ZN ?_)|(refine Z2 ?_ ?_)|(intro h h';try simp[*,-h] at h'))
 all_goals rfl
theorem d76_9 (x:Int)(h:U x):(lim Tryz.prog E47 X46).dat 75 [uv x,iv 9]=some [uv (turnP x 9)]:=by
 refine fnW Tryz.func75 rfl rfl bodyOk_75 rfl rtys_75 rfl ?_
 have hx0:IntKind.u64.wrap x=x:=by rw[IntKind.wrap_u64];unfold U at h;omega
 have hh:=Lib.hid h
 clear h
 repeat' (first|(refine ZN ?_)|(refine Z2 ?_ ?_)|(intro h h';try simp[*,-h] at h'))
 refine W_loopS (n:=9) (fun s0 m s=> ∃i:Nat,m=9 - i∧i≤9∧s.fr 7=iv i∧s.fr 6= .sc (.int .u64 (turnP x i))∧s.fr 5=s0.fr 5) ⟨0,by simp,by omega,by simp,by simp[turnP_zero hh.out,hx0],by simp⟩ ?_
 rintro m ⟨fr,hp⟩ ⟨i,rfl,hi,hs7,hs6,hs5⟩
 simp at hs7 hs6 hs5
 have hy:=turnP_U hh.out i (by omega)
 by_cases hlt:i<9
 ·have hw:=wrapN (k:=i) (by omega)
  have hlI:(i:Int)<9:=by omega
  have hst:=Lib.hid (turnP_step hh.out i (by omega))
  generalize turnP x i=y at*
  have m1:IntKind.u64.wrap (2*y)=2*y:=by rw[IntKind.wrap_u64];unfold U at hy;omega
  have m2:(2*y).tmod 4294967296=2*y%4294967296:=Int.tmod_eq_emod_of_nonneg (by unfold U at hy;omega)
  have m3:y.tdiv 2147483648=y/2147483648:=Int.tdiv_eq_ediv_of_nonneg hy.1
  have m4:IntKind.u64.wrap (y/2147483648)=y/2147483648:=by rw[IntKind.wrap_u64];unfold U at hy;omega
  have m5:IntKind.u64.wrap (2*y%4294967296+y/2147483648)=2*y%4294967296+y/2147483648:=by rw[IntKind.wrap_u64];unfold U at hy;omega
  clear hy
  repeat' (first|(refine ZN ?_)|(refine Z2 ?_ ?_)|(intro h h';try simp[*,-h] at h'))
  all_goals exact⟨_,by omega,i+1,rfl,hlt,by simp[*],by rw[←hst.out];simp[*],by simp[*]⟩
 ·obtain rfl:i=9:=by omega
  have m1:IntKind.u32.wrap (turnP x 9)=turnP x 9:=by rw[IntKind.wrap_u32];unfold U at hy;omega
  clear hy
  repeat' (first|(refine ZN ?_)|(refine Z2 ?_ ?_)|(intro h h';try simp[*,-h] at h'))
  all_goals rfl
theorem d78_13 (x:Int)(h:U x):(lim Tryz.prog E47 X46).dat 82 [uv x,iv 13]=some [uv (turnP x 13)]:=by
 refine fnW Tryz.func82 rfl rfl bodyOk_82 rfl rtys_82 rfl ?_
 have h88:=d88_13 x h
 clear h
 repeat' (first|(refine ZN ?_)|(refine Z2 ?_ ?_)|(intro h h';try simp[*,-h] at h'))
 all_goals rfl
theorem d76_13 (x:Int)(h:U x):(lim Tryz.prog E47 X46).dat 75 [uv x,iv 13]=some [uv (turnP x 13)]:=by
 refine fnW Tryz.func75 rfl rfl bodyOk_75 rfl rtys_75 rfl ?_
 have hx0:IntKind.u64.wrap x=x:=by rw[IntKind.wrap_u64];unfold U at h;omega
 have hh:=Lib.hid h
 clear h
 repeat' (first|(refine ZN ?_)|(refine Z2 ?_ ?_)|(intro h h';try simp[*,-h] at h'))
 refine W_loopS (n:=13) (fun s0 m s=> ∃i:Nat,m=13 - i∧i≤13∧s.fr 7=iv i∧s.fr 6= .sc (.int .u64 (turnP x i))∧s.fr 5=s0.fr 5) ⟨0,by simp,by omega,by simp,by simp[turnP_zero hh.out,hx0],by simp⟩ ?_
 rintro m ⟨fr,hp⟩ ⟨i,rfl,hi,hs7,hs6,hs5⟩
 simp at hs7 hs6 hs5
 have hy:=turnP_U hh.out i (by omega)
 by_cases hlt:i<13
 ·have hw:=wrapN (k:=i) (by omega)
  have hlI:(i:Int)<13:=by omega
  have hst:=Lib.hid (turnP_step hh.out i (by omega))
  generalize turnP x i=y at*
  have m1:IntKind.u64.wrap (2*y)=2*y:=by rw[IntKind.wrap_u64];unfold U at hy;omega
  have m2:(2*y).tmod 4294967296=2*y%4294967296:=Int.tmod_eq_emod_of_nonneg (by unfold U at hy;omega)
  have m3:y.tdiv 2147483648=y/2147483648:=Int.tdiv_eq_ediv_of_nonneg hy.1
  have m4:IntKind.u64.wrap (y/2147483648)=y/2147483648:=by rw[IntKind.wrap_u64];unfold U at hy;omega
  have m5:IntKind.u64.wrap (2*y%4294967296+y/2147483648)=2*y%4294967296+y/2147483648:=by rw[IntKind.wrap_u64];unfold U at hy;omega
  clear hy
  repeat' (first|(refine ZN ?_)|(refine Z2 ?_ ?_)|(intro h h';try simp[*,-h] at h'))
  all_goals exact⟨_,by omega,i+1,rfl,hlt,by simp[*],by rw[←hst.out];simp[*],by simp[*]⟩
 ·obtain rfl:i=13:=by omega
  have m1:IntKind.u32.wrap (turnP x 13)=turnP x 13:=by rw[IntKind.wrap_u32];unfold U at hy;omega
  clear hy
  repeat' (first|(refine ZN ?_)|(refine Z2 ?_ ?_)|(intro h h';try simp[*,-h] at h'))
  all_goals rfl
theorem d78_18 (x:Int)(h:U x):(lim Tryz.prog E47 X46).dat 82 [uv x,iv 18]=some [uv (turnP x 18)]:=by
 refine fnW Tryz.func82 rfl rfl bodyOk_82 rfl rtys_82 rfl ?_
 have h88:=d88_18 x h
 clear h
 repeat' (first|(refine ZN ?_)|(refine Z2 ?_ ?_)|(intro h h';try simp[*,-h] at h'))
 all_goals rfl
theorem d76_18 (x:Int)(h:U x):(lim Tryz.prog E47 X46).dat 75 [uv x,iv 18]=some [uv (turnP x 18)]:=by
 refine fnW Tryz.func75 rfl rfl bodyOk_75 rfl rtys_75 rfl ?_
 have hx0:IntKind.u64.wrap x=x:=by rw[IntKind.wrap_u64];unfold U at h;omega
 have hh:=Lib.hid h
 clear h
 repeat' (first|(refine ZN ?_)|(refine Z2 ?_ ?_)|(intro h h';try simp[*,-h] at h'))
 refine W_loopS (n:=18) (fun s0 m s=> ∃i:Nat,m=18 - i∧i≤18∧s.fr 7=iv i∧s.fr 6= .sc (.int .u64 (turnP x i))∧s.fr 5=s0.fr 5) ⟨0,by simp,by omega,by simp,by simp[turnP_zero hh.out,hx0],by simp⟩ ?_
 rintro m ⟨fr,hp⟩ ⟨i,rfl,hi,hs7,hs6,hs5⟩
 simp at hs7 hs6 hs5
 have hy:=turnP_U hh.out i (by omega)
 by_cases hlt:i<18
 ·have hw:=wrapN (k:=i) (by omega)
  have hlI:(i:Int)<18:=by omega
  have hst:=Lib.hid (turnP_step hh.out i (by omega))
  generalize turnP x i=y at*
  have m1:IntKind.u64.wrap (2*y)=2*y:=by rw[IntKind.wrap_u64];unfold U at hy;omega
  have m2:(2*y).tmod 4294967296=2*y%4294967296:=Int.tmod_eq_emod_of_nonneg (by unfold U at hy;omega)
  have m3:y.tdiv 2147483648=y/2147483648:=Int.tdiv_eq_ediv_of_nonneg hy.1
  have m4:IntKind.u64.wrap (y/2147483648)=y/2147483648:=by rw[IntKind.wrap_u64];unfold U at hy;omega
  have m5:IntKind.u64.wrap (2*y%4294967296+y/2147483648)=2*y%4294967296+y/2147483648:=by rw[IntKind.wrap_u64];unfold U at hy;omega
  clear hy
  repeat' (first|(refine ZN ?_)|(refine Z2 ?_ ?_)|(intro h h';try simp[*,-h] at h'))
  all_goals exact⟨_,by omega,i+1,rfl,hlt,by simp[*],by rw[←hst.out];simp[*],by simp[*]⟩
 ·obtain rfl:i=18:=by omega
  have m1:IntKind.u32.wrap (turnP x 18)=turnP x 18:=by rw[IntKind.wrap_u32];unfold U at hy;omega
  clear hy
  repeat' (first|(refine ZN ?_)|(refine Z2 ?_ ?_)|(intro h h';try simp[*,-h] at h'))
  all_goals rfl
end
section
open Go Go.Ab
attribute [-simp] Prog.bind getCs putCs
attribute [local simp ↓] run_bind
attribute [local simp ↓] runF_bind
attribute [local simp] run_getCsN runF_getCsN facetsC putCs_one run_putCsN runF_putCsN facetsW facetsH
attribute [local simp ↓] evInt_xor evInt_or evInt_and64
@[simp] theorem wrap_3 :IntKind.i64.wrap 3=3:=by decide+kernel
@[simp] theorem wrap_4 :IntKind.i64.wrap 4=4:=by decide+kernel
@[simp] theorem wrap_5 :IntKind.i64.wrap 5=5:=by decide+kernel
@[simp] theorem wrap_6 :IntKind.i64.wrap 6=6:=by decide+kernel
@[simp] theorem wrap_7 :IntKind.i64.wrap 7=7:=by decide+kernel
@[simp] theorem wrap_8 :IntKind.i64.wrap 8=8:=by decide+kernel
@[simp] theorem wrap_9 :IntKind.i64.wrap 9=9:=by decide+kernel
@[simp] theorem wrap_10 :IntKind.i64.wrap 10=10:=by decide+kernel
@[simp] theorem wrap_11 :IntKind.i64.wrap 11=11:=by decide+kernel
@[simp] theorem wrap_12 :IntKind.i64.wrap 12=12:=by decide+kernel
attribute [local simp] globT
structure S8 where
 a0:Int
 a1:Int
 a2:Int
 a3:Int
 a4:Int
 a5:Int
 a6:Int
 a7:Int
abbrev wrapU (x:Int):Int:=IntKind.u32.wrap x
def rnd (k:Int)(s:S8):S8:=
 ⟨wrapU (s.a3+s.a7),turnP (xorW s.a4 (wrapU (wrapU (s.a0+wrapU (2654435769*(k+1)))+s.a4))) 7,turnP (xorW s.a5 (wrapU (s.a1+s.a5))) 9,turnP (xorW s.a6 (wrapU (s.a2+s.a6))) 13,
  turnP (xorW s.a7 (wrapU (s.a3+s.a7))) 18,wrapU (wrapU (s.a0+wrapU (2654435769*(k+1)))+s.a4),wrapU (s.a1+s.a5),wrapU (s.a2+s.a6)⟩
def mixN :Nat→S8→S8
 |0,s=>s
 |k+1,s=>rnd k (mixN k s)
def S8.row (s:S8):List AV:=[uv s.a0,uv s.a1,uv s.a2,uv s.a3,uv s.a4,uv s.a5,uv s.a6,uv s.a7]
theorem d66 (s:S8):(lim Tryz.prog E47 X46).dat 68 [.agg s.row]=some [.agg (mixN 8 s).row]:=by
 refine fnW Tryz.func68 rfl rfl bodyOk_68 rfl rtys_68 rfl ?_
 have t7: ∀a b,(lim Tryz.prog E47 X46).dat 82 [uv (xorW a b),iv 7]=some [uv (turnP (xorW a b) 7)]:=fun a b=>d78_7 _ (xorW_U a b)
 have t9: ∀a b,(lim Tryz.prog E47 X46).dat 82 [uv (xorW a b),iv 9]=some [uv (turnP (xorW a b) 9)]:=fun a b=>d78_9 _ (xorW_U a b)
 have t13: ∀a b,(lim Tryz.prog E47 X46).dat 82 [uv (xorW a b),iv 13]=some [uv (turnP (xorW a b) 13)]:=fun a b=>d78_13 _ (xorW_U a b)
 have t18: ∀a b,(lim Tryz.prog E47 X46).dat 82 [uv (xorW a b),iv 18]=some [uv (turnP (xorW a b) 18)]:=fun a b=>d78_18 _ (xorW_U a b)
 unfold S8.row
 repeat' (first|(refine ZN ?_)|(refine Z2 ?_ ?_)|(intro h h';try simp[*,-h] at h'))
 refine W_loopS (n:=8) (fun s0 m q=> ∃k:Nat,m=8 - k∧k≤8∧q.fr 3=uv k∧q.hp ⟨0,1,0⟩= .box 1 (mixN k s).row false∧q.fr 1=s0.fr 1∧q.fr 2=s0.fr 2∧q.hp ⟨0,2,0⟩=s0.hp ⟨0,2,0⟩) ⟨0,by simp,by omega,by simp,by simp[mixN,S8.row],by simp,by simp,by simp⟩ ?_
 rintro m ⟨fr,hp⟩ ⟨k,rfl,hk,hs,hh1,hk1,hk2,hh2⟩
 simp at hs hk1 hk2 hh2
 simp only at hh1
 by_cases hlt:k<8
 ·have hw:IntKind.u32.wrap ((k:Int)+1)=(k:Int)+1:=by rw[IntKind.wrap_u32];omega
  have hlI:(k:Int)<8:=by omega
  have hm:mixN (k+1) s=rnd k (mixN k s):=rfl
  have hm':=Lib.hid hm
  clear hm
  generalize mixN k s=z at*
  obtain⟨x0,x1,x2,x3,x4,x5,x6,x7⟩:=z
  simp only[S8.row] at hh1
  repeat' (first|(refine ZN ?_)|(refine Z2 ?_ ?_)|(intro h h';try simp[*,-h] at h')|with_reducible apply W_unroll|fail)
  all_goals exact⟨_,by omega,k+1,rfl,hlt,by simp[*],by rw[hm'.out];simp[S8.row,rnd],by simp[*],by simp[*],by simp[*]⟩
 ·obtain rfl:k=8:=by omega
  generalize mixN 8 s=z at*
  obtain⟨x0,x1,x2,x3,x4,x5,x6,x7⟩:=z
  simp only[S8.row] at hh1
  repeat' (first|(refine ZN ?_)|(refine Z2 ?_ ?_)|(intro h h';try simp[*,-h] at h'))
  all_goals rfl
theorem d75 :(lim Tryz.prog E47 X46).dat 74 []=some [.agg [iv 7,iv 9,iv 13,iv 18]]:=lim_dat.2 ⟨10,by kernel_rfl⟩
theorem d60 (s:S8):(lim Tryz.prog E47 X46).dat 62 [.agg s.row]=some [.agg (mixN 8 s).row]:=by
 refine fnW Tryz.func62 rfl rfl bodyOk_62 rfl rtys_62 rfl ?_
 have t7: ∀a b,(lim Tryz.prog E47 X46).dat 75 [uv (xorW a b),iv 7]=some [uv (turnP (xorW a b) 7)]:=fun a b=>d76_7 _ (xorW_U a b)
 have t9: ∀a b,(lim Tryz.prog E47 X46).dat 75 [uv (xorW a b),iv 9]=some [uv (turnP (xorW a b) 9)]:=fun a b=>d76_9 _ (xorW_U a b)
 have t13: ∀a b,(lim Tryz.prog E47 X46).dat 75 [uv (xorW a b),iv 13]=some [uv (turnP (xorW a b) 13)]:=fun a b=>d76_13 _ (xorW_U a b)
 have t18: ∀a b,(lim Tryz.prog E47 X46).dat 75 [uv (xorW a b),iv 18]=some [uv (turnP (xorW a b) 18)]:=fun a b=>d76_18 _ (xorW_U a b)
 have h75:=d75
 unfold S8.row
 repeat' (first|(refine ZN ?_)|(refine Z2 ?_ ?_)|(intro h h';try simp[*,-h] at h'))
 refine W_loopS (n:=8) (fun s0 m q=> ∃k:Nat,m=8 - k∧k≤8∧q.fr 4=iv k∧q.hp ⟨0,1,0⟩= .box 1 (mixN k s).row false∧q.fr 1=s0.fr 1∧q.fr 2=s0.fr 2∧q.hp ⟨0,2,0⟩=s0.hp ⟨0,2,0⟩∧q.fr 3=s0.fr 3∧q.hp ⟨0,3,0⟩=s0.hp ⟨0,3,0⟩) ⟨0,by simp,by omega,by simp,by simp[mixN,S8.row],by simp,by simp,by simp,by simp,by simp⟩ ?_
 rintro m ⟨fr,hp⟩ ⟨k,rfl,hk,hs,hh1,hk1,hk2,hh2,hk3,hh3⟩
 simp at hs hk1 hk2 hh2 hk3 hh3
 simp only at hh1
 by_cases hlt:k<8
 ·have hw:IntKind.u32.wrap ((k:Int)+1)=(k:Int)+1:=by rw[IntKind.wrap_u32];omega
  have hw2:=wrapN (k:=k) (by omega)
  have hlI:(k:Int)<8:=by omega
  have hm:mixN (k+1) s=rnd k (mixN k s):=rfl
  have hm':=Lib.hid hm
  clear hm
  generalize mixN k s=z at*
  obtain⟨x0,x1,x2,x3,x4,x5,x6,x7⟩:=z
  simp only[S8.row] at hh1
  repeat' (first|(refine ZN ?_)|(refine Z2 ?_ ?_)|(intro h h';try simp[*,-h] at h')|with_reducible apply W_unroll|fail)
  all_goals exact⟨_,by omega,k+1,rfl,hlt,by simp[*],by rw[hm'.out];simp[S8.row,rnd],by simp[*],by simp[*],by simp[*],by simp[*],by simp[*]⟩
 ·obtain rfl:k=8:=by omega
  generalize mixN 8 s=z at*
  obtain⟨x0,x1,x2,x3,x4,x5,x6,x7⟩:=z
  simp only[S8.row] at hh1
  repeat' (first|(refine ZN ?_)|(refine Z2 ?_ ?_)|(intro h h';try simp[*,-h] at h'))
  all_goals rfl
end
section
open Go Go.Ab
attribute [-simp] Prog.bind getCs putCs
attribute [local simp ↓] run_bind
attribute [local simp ↓] runF_bind
attribute [local simp] run_getCsN runF_getCsN facetsC putCs_one run_putCsN runF_putCsN facetsW facetsH
attribute [local simp ↓] evInt_xor evInt_or evInt_and64
structure D4 where
 d0:Int
 d1:Int
 d2:Int
 d3:Int
deriving DecidableEq
def D4.row (d:D4):List AV:=[uv d.d0,uv d.d1,uv d.d2,uv d.d3]
def takeP (s:S8)(b:D4):S8:=mixN 8 ⟨xorW s.a0 b.d0,xorW s.a1 b.d1,xorW s.a2 b.d2,xorW s.a3 b.d3,s.a4,s.a5,s.a6,s.a7⟩
def front (s:S8):D4:=⟨s.a0,s.a1,s.a2,s.a3⟩
def pairP (a b:D4):D4:=front (takeP (takeP ⟨2,0,0,0,0,0,0,0⟩ a) b)
theorem d51 (s:S8)(b:D4):(lim Tryz.prog E47 X46).dat 54 [.agg s.row,.agg b.row]=some [.agg (takeP s b).row]:=by
 refine fnW Tryz.func54 rfl rfl bodyOk_54 rfl rtys_54 rfl ?_
 obtain⟨x0,x1,x2,x3,x4,x5,x6,x7⟩:=s
 obtain⟨b0,b1,b2,b3⟩:=b
 have hm:=d66 ⟨xorW x0 b0,xorW x1 b1,xorW x2 b2,xorW x3 b3,x4,x5,x6,x7⟩
 unfold takeP
 simp only
 generalize mixN 8 ⟨xorW x0 b0,xorW x1 b1,xorW x2 b2,xorW x3 b3,x4,x5,x6,x7⟩=z at*
 obtain⟨z0,z1,z2,z3,z4,z5,z6,z7⟩:=z
 simp only[S8.row] at hm
 simp only[S8.row,D4.row]
 repeat' (first|(refine ZN ?_)|(refine Z2 ?_ ?_)|(intro h h';try simp[*,-h] at h')|with_reducible apply W_unroll|fail)
 all_goals rfl
theorem d45 (s:S8)(b:D4):(lim Tryz.prog E47 X46).dat 47 [.agg s.row,.agg b.row]=some [.agg (takeP s b).row]:=by
 refine fnW Tryz.func47 rfl rfl bodyOk_47 rfl rtys_47 rfl ?_
 obtain⟨x0,x1,x2,x3,x4,x5,x6,x7⟩:=s
 obtain⟨b0,b1,b2,b3⟩:=b
 have hm:=d60 ⟨xorW x0 b0,xorW x1 b1,xorW x2 b2,xorW x3 b3,x4,x5,x6,x7⟩
 unfold takeP
 simp only
 generalize mixN 8 ⟨xorW x0 b0,xorW x1 b1,xorW x2 b2,xorW x3 b3,x4,x5,x6,x7⟩=z at*
 obtain⟨z0,z1,z2,z3,z4,z5,z6,z7⟩:=z
 simp only[S8.row] at hm
 simp only[S8.row,D4.row]
 repeat' (first|(refine ZN ?_)|(refine Z2 ?_ ?_)|(intro h h';try simp[*,-h] at h')|with_reducible apply W_unroll|fail)
 all_goals rfl
theorem d50 (s:S8):(lim Tryz.prog E47 X46).dat 53 [.agg s.row]=some [.agg (front s).row]:=by
 refine fnW Tryz.func53 rfl rfl bodyOk_53 rfl rtys_53 rfl ?_
 obtain⟨x0,x1,x2,x3,x4,x5,x6,x7⟩:=s
 simp only[S8.row,D4.row,front]
 repeat' (first|(refine ZN ?_)|(refine Z2 ?_ ?_)|(intro h h';try simp[*,-h] at h'))
 all_goals rfl
theorem orW_word (a b c d:UInt8):orW (orW (orW (a.toNat:Int) (b.toNat*256)) (c.toNat*65536)) (d.toNat*16777216)=(a.toNat:Int)+256*b.toNat+65536*c.toNat+16777216*d.toNat:=by
 have ha:=a.toNat_lt
 have hb:=b.toNat_lt
 have hc:=c.toNat_lt
 have hd:=d.toNat_lt
 have c1:(b.toNat:Int)*256=((b.toNat*256:Nat):Int):=by omega
 have c2:(c.toNat:Int)*65536=((c.toNat*65536:Nat):Int):=by omega
 have c3:(d.toNat:Int)*16777216=((d.toNat*16777216:Nat):Int):=by omega
 have o1:=or_add (x:=a.toNat) (y:=b.toNat) 8 (by omega)
 have o2:=or_add (x:=a.toNat+b.toNat*256) (y:=c.toNat) 16 (by omega)
 have o3:=or_add (x:=a.toNat+b.toNat*256+c.toNat*65536) (y:=d.toNat) 24 (by omega)
 rw[show(2:Nat)^8=256 from rfl] at o1
 rw[show(2:Nat)^16=65536 from rfl] at o2
 rw[show(2:Nat)^24=16777216 from rfl] at o3
 rw[c1,c2,c3,orW_nat (by omega) (by omega),o1,orW_nat (by omega) (by omega),o2,orW_nat (by omega) (by omega),o3]
 omega
def four (s:ByteArray)(i:Nat):D4:=⟨wordAt s i,wordAt s (i+4),wordAt s (i+8),wordAt s (i+12)⟩
@[simp] theorem shl8 (w:Int):w*2^min 8 IntKind.u32.bits=w*256:=by rw[show(2:Int)^min 8 IntKind.u32.bits=256 from by decide+kernel]
@[simp] theorem shl16 (w:Int):w*2^min 16 IntKind.u32.bits=w*65536:=by rw[show(2:Int)^min 16 IntKind.u32.bits=65536 from by decide+kernel]
@[simp] theorem shl24 (w:Int):w*2^min 24 IntKind.u32.bits=w*16777216:=by rw[show(2:Int)^min 24 IntKind.u32.bits=16777216 from by decide+kernel]
def w4 (s:ByteArray)(i:Nat):Nat→List AV
 |0=>[uv 0,uv 0,uv 0,uv 0]
 |1=>[uv (wordAt s i),uv 0,uv 0,uv 0]
 |2=>[uv (wordAt s i),uv (wordAt s (i+4)),uv 0,uv 0]
 |3=>[uv (wordAt s i),uv (wordAt s (i+4)),uv (wordAt s (i+8)),uv 0]
 |_=>[uv (wordAt s i),uv (wordAt s (i+4)),uv (wordAt s (i+8)),uv (wordAt s (i+12))]
theorem d52 (s:ByteArray)(at_:Nat)(hs:s.size≤1048576)(ha:at_+16≤s.size):(lim Tryz.prog E47 X46).dat 55 [.sc (.string s),iv at_]=some [.agg (four s at_).row]:=by
 refine fnW Tryz.func55 rfl rfl bodyOk_55 rfl rtys_55 rfl ?_
 repeat' (first|(refine ZN ?_)|(refine Z2 ?_ ?_)|(intro h h';try simp[*,-h] at h'))
 refine W_loopS (n:=4) (fun s0 m q=> ∃k:Nat,m=4 - k∧k≤4∧q.fr 8=iv k∧q.hp ⟨0,5,0⟩= .box 1 (w4 s at_ k) false∧q.fr 0=s0.fr 0∧q.fr 1=s0.fr 1∧q.fr 4=s0.fr 4∧q.fr 5=s0.fr 5∧q.hp ⟨0,4,0⟩=s0.hp ⟨0,4,0⟩) ⟨0,by simp,by omega,by simp,by simp[w4],by simp,by simp,by simp,by simp,by simp⟩ ?_
 rintro m ⟨fr,hp⟩ ⟨k,rfl,hk,hs8,hh5,hs0,hs1,hs4,hs5,hh4⟩
 simp at hs8 hs0 hs1 hs4 hs5 hh4
 simp only at hh5
 have hk4:k=0∨k=1∨k=2∨k=3∨k=4:=by omega
 rcases hk4 with rfl|rfl|rfl|rfl|rfl
 ·simp only[w4] at hh5
  obtain⟨b,hb⟩: ∃b:Nat,b=at_+0:=⟨_,rfl⟩
  have wb:IntKind.i64.wrap ((b:Int))=b:=by rw[wrap64 (by omega) (by omega)];try omega
  have wz:at_=b:=by omega
  obtain⟨B0,h0,e0⟩:=byte_data (s:=s) (i:=b) (by omega)
  have v0:=B0.toNat_lt
  have u0:IntKind.u32.wrap (B0.toNat:Int)=B0.toNat:=by rw[IntKind.wrap_u32];omega
  obtain⟨B1,h1,e1⟩:=byte_data (s:=s) (i:=b+1) (by omega)
  have v1:=B1.toNat_lt
  have u1:IntKind.u32.wrap (B1.toNat:Int)=B1.toNat:=by rw[IntKind.wrap_u32];omega
  have w1:IntKind.i64.wrap ((b:Int)+1)=(b:Int)+1:=wrap64 (by omega) (by omega)
  have p1:(0:Int)≤(b:Int)+1:=by omega
  have t1:((b:Int)+1).toNat=b+1:=by omega
  have s1:IntKind.u32.wrap ((B1.toNat:Int)*256)=B1.toNat*256:=by rw[IntKind.wrap_u32];omega
  obtain⟨B2,h2,e2⟩:=byte_data (s:=s) (i:=b+2) (by omega)
  have v2:=B2.toNat_lt
  have u2:IntKind.u32.wrap (B2.toNat:Int)=B2.toNat:=by rw[IntKind.wrap_u32];omega
  have w2:IntKind.i64.wrap ((b:Int)+2)=(b:Int)+2:=wrap64 (by omega) (by omega)
  have p2:(0:Int)≤(b:Int)+2:=by omega
  have t2:((b:Int)+2).toNat=b+2:=by omega
  have s2:IntKind.u32.wrap ((B2.toNat:Int)*65536)=B2.toNat*65536:=by rw[IntKind.wrap_u32];omega
  obtain⟨B3,h3,e3⟩:=byte_data (s:=s) (i:=b+3) (by omega)
  have v3:=B3.toNat_lt
  have u3:IntKind.u32.wrap (B3.toNat:Int)=B3.toNat:=by rw[IntKind.wrap_u32];omega
  have w3:IntKind.i64.wrap ((b:Int)+3)=(b:Int)+3:=wrap64 (by omega) (by omega)
  have p3:(0:Int)≤(b:Int)+3:=by omega
  have t3:((b:Int)+3).toNat=b+3:=by omega
  have s3:IntKind.u32.wrap ((B3.toNat:Int)*16777216)=B3.toNat*16777216:=by rw[IntKind.wrap_u32];omega
  have o:orW (orW (orW (B0.toNat:Int) (B1.toNat*256)) (B2.toNat*65536)) (B3.toNat*16777216)=wordAt s b:=by
   rw[orW_word B0 B1 B2 B3]
   unfold wordAt
   rw[←e0,←e1,←e2,←e3]
  clear e0 e1 e2 e3 v0 v1 v2 v3 hb ha hs
  repeat' (first|(refine ZN ?_)|(refine Z2 ?_ ?_)|(intro h h';try simp[*,-h] at h'))
  all_goals exact⟨_,by omega,1,rfl,by omega,by simp[*],by simp[*,w4],by simp[*],by simp[*],by simp[*],by simp[*],by simp[*]⟩
 ·simp only[w4] at hh5
  obtain⟨b,hb⟩: ∃b:Nat,b=at_+4:=⟨_,rfl⟩
  have wb:IntKind.i64.wrap ((at_:Int)+4)=b:=by rw[wrap64 (by omega) (by omega)];try omega
  have wz:at_+4=b:=by omega
  obtain⟨B0,h0,e0⟩:=byte_data (s:=s) (i:=b) (by omega)
  have v0:=B0.toNat_lt
  have u0:IntKind.u32.wrap (B0.toNat:Int)=B0.toNat:=by rw[IntKind.wrap_u32];omega
  obtain⟨B1,h1,e1⟩:=byte_data (s:=s) (i:=b+1) (by omega)
  have v1:=B1.toNat_lt
  have u1:IntKind.u32.wrap (B1.toNat:Int)=B1.toNat:=by rw[IntKind.wrap_u32];omega
  have w1:IntKind.i64.wrap ((b:Int)+1)=(b:Int)+1:=wrap64 (by omega) (by omega)
  have p1:(0:Int)≤(b:Int)+1:=by omega
  have t1:((b:Int)+1).toNat=b+1:=by omega
  have s1:IntKind.u32.wrap ((B1.toNat:Int)*256)=B1.toNat*256:=by rw[IntKind.wrap_u32];omega
  obtain⟨B2,h2,e2⟩:=byte_data (s:=s) (i:=b+2) (by omega)
  have v2:=B2.toNat_lt
  have u2:IntKind.u32.wrap (B2.toNat:Int)=B2.toNat:=by rw[IntKind.wrap_u32];omega
  have w2:IntKind.i64.wrap ((b:Int)+2)=(b:Int)+2:=wrap64 (by omega) (by omega)
  have p2:(0:Int)≤(b:Int)+2:=by omega
  have t2:((b:Int)+2).toNat=b+2:=by omega
  have s2:IntKind.u32.wrap ((B2.toNat:Int)*65536)=B2.toNat*65536:=by rw[IntKind.wrap_u32];omega
  obtain⟨B3,h3,e3⟩:=byte_data (s:=s) (i:=b+3) (by omega)
  have v3:=B3.toNat_lt
  have u3:IntKind.u32.wrap (B3.toNat:Int)=B3.toNat:=by rw[IntKind.wrap_u32];omega
  have w3:IntKind.i64.wrap ((b:Int)+3)=(b:Int)+3:=wrap64 (by omega) (by omega)
  have p3:(0:Int)≤(b:Int)+3:=by omega
  have t3:((b:Int)+3).toNat=b+3:=by omega
  have s3:IntKind.u32.wrap ((B3.toNat:Int)*16777216)=B3.toNat*16777216:=by rw[IntKind.wrap_u32];omega
  have o:orW (orW (orW (B0.toNat:Int) (B1.toNat*256)) (B2.toNat*65536)) (B3.toNat*16777216)=wordAt s b:=by
   rw[orW_word B0 B1 B2 B3]
   unfold wordAt
   rw[←e0,←e1,←e2,←e3]
  clear e0 e1 e2 e3 v0 v1 v2 v3 hb ha hs
  repeat' (first|(refine ZN ?_)|(refine Z2 ?_ ?_)|(intro h h';try simp[*,-h] at h'))
  all_goals exact⟨_,by omega,2,rfl,by omega,by simp[*],by simp[*,w4],by simp[*],by simp[*],by simp[*],by simp[*],by simp[*]⟩
 ·simp only[w4] at hh5
  obtain⟨b,hb⟩: ∃b:Nat,b=at_+8:=⟨_,rfl⟩
  have wb:IntKind.i64.wrap ((at_:Int)+8)=b:=by rw[wrap64 (by omega) (by omega)];try omega
  have wz:at_+8=b:=by omega
  obtain⟨B0,h0,e0⟩:=byte_data (s:=s) (i:=b) (by omega)
  have v0:=B0.toNat_lt
  have u0:IntKind.u32.wrap (B0.toNat:Int)=B0.toNat:=by rw[IntKind.wrap_u32];omega
  obtain⟨B1,h1,e1⟩:=byte_data (s:=s) (i:=b+1) (by omega)
  have v1:=B1.toNat_lt
  have u1:IntKind.u32.wrap (B1.toNat:Int)=B1.toNat:=by rw[IntKind.wrap_u32];omega
  have w1:IntKind.i64.wrap ((b:Int)+1)=(b:Int)+1:=wrap64 (by omega) (by omega)
  have p1:(0:Int)≤(b:Int)+1:=by omega
  have t1:((b:Int)+1).toNat=b+1:=by omega
  have s1:IntKind.u32.wrap ((B1.toNat:Int)*256)=B1.toNat*256:=by rw[IntKind.wrap_u32];omega
  obtain⟨B2,h2,e2⟩:=byte_data (s:=s) (i:=b+2) (by omega)
  have v2:=B2.toNat_lt
  have u2:IntKind.u32.wrap (B2.toNat:Int)=B2.toNat:=by rw[IntKind.wrap_u32];omega
  have w2:IntKind.i64.wrap ((b:Int)+2)=(b:Int)+2:=wrap64 (by omega) (by omega)
  have p2:(0:Int)≤(b:Int)+2:=by omega
  have t2:((b:Int)+2).toNat=b+2:=by omega
  have s2:IntKind.u32.wrap ((B2.toNat:Int)*65536)=B2.toNat*65536:=by rw[IntKind.wrap_u32];omega
  obtain⟨B3,h3,e3⟩:=byte_data (s:=s) (i:=b+3) (by omega)
  have v3:=B3.toNat_lt
  have u3:IntKind.u32.wrap (B3.toNat:Int)=B3.toNat:=by rw[IntKind.wrap_u32];omega
  have w3:IntKind.i64.wrap ((b:Int)+3)=(b:Int)+3:=wrap64 (by omega) (by omega)
  have p3:(0:Int)≤(b:Int)+3:=by omega
  have t3:((b:Int)+3).toNat=b+3:=by omega
  have s3:IntKind.u32.wrap ((B3.toNat:Int)*16777216)=B3.toNat*16777216:=by rw[IntKind.wrap_u32];omega
  have o:orW (orW (orW (B0.toNat:Int) (B1.toNat*256)) (B2.toNat*65536)) (B3.toNat*16777216)=wordAt s b:=by
   rw[orW_word B0 B1 B2 B3]
   unfold wordAt
   rw[←e0,←e1,←e2,←e3]
  clear e0 e1 e2 e3 v0 v1 v2 v3 hb ha hs
  repeat' (first|(refine ZN ?_)|(refine Z2 ?_ ?_)|(intro h h';try simp[*,-h] at h'))
  all_goals exact⟨_,by omega,3,rfl,by omega,by simp[*],by simp[*,w4],by simp[*],by simp[*],by simp[*],by simp[*],by simp[*]⟩
 ·simp only[w4] at hh5
  obtain⟨b,hb⟩: ∃b:Nat,b=at_+12:=⟨_,rfl⟩
  have wb:IntKind.i64.wrap ((at_:Int)+12)=b:=by rw[wrap64 (by omega) (by omega)];try omega
  have wz:at_+12=b:=by omega
  obtain⟨B0,h0,e0⟩:=byte_data (s:=s) (i:=b) (by omega)
  have v0:=B0.toNat_lt
  have u0:IntKind.u32.wrap (B0.toNat:Int)=B0.toNat:=by rw[IntKind.wrap_u32];omega
  obtain⟨B1,h1,e1⟩:=byte_data (s:=s) (i:=b+1) (by omega)
  have v1:=B1.toNat_lt
  have u1:IntKind.u32.wrap (B1.toNat:Int)=B1.toNat:=by rw[IntKind.wrap_u32];omega
  have w1:IntKind.i64.wrap ((b:Int)+1)=(b:Int)+1:=wrap64 (by omega) (by omega)
  have p1:(0:Int)≤(b:Int)+1:=by omega
  have t1:((b:Int)+1).toNat=b+1:=by omega
  have s1:IntKind.u32.wrap ((B1.toNat:Int)*256)=B1.toNat*256:=by rw[IntKind.wrap_u32];omega
  obtain⟨B2,h2,e2⟩:=byte_data (s:=s) (i:=b+2) (by omega)
  have v2:=B2.toNat_lt
  have u2:IntKind.u32.wrap (B2.toNat:Int)=B2.toNat:=by rw[IntKind.wrap_u32];omega
  have w2:IntKind.i64.wrap ((b:Int)+2)=(b:Int)+2:=wrap64 (by omega) (by omega)
  have p2:(0:Int)≤(b:Int)+2:=by omega
  have t2:((b:Int)+2).toNat=b+2:=by omega
  have s2:IntKind.u32.wrap ((B2.toNat:Int)*65536)=B2.toNat*65536:=by rw[IntKind.wrap_u32];omega
  obtain⟨B3,h3,e3⟩:=byte_data (s:=s) (i:=b+3) (by omega)
  have v3:=B3.toNat_lt
  have u3:IntKind.u32.wrap (B3.toNat:Int)=B3.toNat:=by rw[IntKind.wrap_u32];omega
  have w3:IntKind.i64.wrap ((b:Int)+3)=(b:Int)+3:=wrap64 (by omega) (by omega)
  have p3:(0:Int)≤(b:Int)+3:=by omega
  have t3:((b:Int)+3).toNat=b+3:=by omega
  have s3:IntKind.u32.wrap ((B3.toNat:Int)*16777216)=B3.toNat*16777216:=by rw[IntKind.wrap_u32];omega
  have o:orW (orW (orW (B0.toNat:Int) (B1.toNat*256)) (B2.toNat*65536)) (B3.toNat*16777216)=wordAt s b:=by
   rw[orW_word B0 B1 B2 B3]
   unfold wordAt
   rw[←e0,←e1,←e2,←e3]
  clear e0 e1 e2 e3 v0 v1 v2 v3 hb ha hs
  repeat' (first|(refine ZN ?_)|(refine Z2 ?_ ?_)|(intro h h';try simp[*,-h] at h'))
  all_goals exact⟨_,by omega,4,rfl,by omega,by simp[*],by simp[*,w4],by simp[*],by simp[*],by simp[*],by simp[*],by simp[*]⟩
 ·simp only[w4] at hh5
  unfold four
  simp only[D4.row]
  repeat' (first|(refine ZN ?_)|(refine Z2 ?_ ?_)|(intro h h';try simp[*,-h] at h'))
  all_goals rfl
end
section
open Go Go.Ab
theorem txtW_size (l:List Int):(txtW l).size=4*l.length:=by
 show(toBytes (bys l)).toArray.size=_
 simp[toBytes,bys_len]
def zP (n:Nat):Nat:=(23 - n%16)%16
theorem zP_spec (n:Nat):(n+1+zP n)%16=8:=by unfold zP;omega
theorem zP_lt {n i:Nat}(h:i<zP n):(n+1+i)%16≠8:=by unfold zP at h;omega
theorem zP_le (n:Nat):zP n<16:=by unfold zP;omega
def padR (L:List UInt8):List UInt8:=L++128::List.replicate (zP L.length) 0
def padL (L:List UInt8):List UInt8:=padR L++toBytes (bys [(L.length:Int),0])
def padS (s:ByteArray):ByteArray:=⟨⟨padL s.data.toList⟩⟩
def spongeP (p:ByteArray):Nat→S8
 |0=>⟨1,0,0,0,0,0,0,0⟩
 |i+1=>takeP (spongeP p i) (four p (16*i))
def ofP (s:ByteArray):D4:=front (spongeP (padS s) ((padS s).size/16))
theorem padR_len (L:List UInt8):(padR L).length=L.length+1+zP L.length:=by simp[padR];omega
theorem padL_len (L:List UInt8):(padL L).length=L.length+1+zP L.length+8:=by
 unfold padL
 rw[List.length_append,padR_len,toBytes_len,bys_len];rfl
theorem padS_size (s:ByteArray):(padS s).size=s.size+1+zP s.size+8:=by
 rw[ba_size,ba_size s];exact padL_len _
theorem wordL_pre (A T:List UInt8)(i:Nat)(h:i+4≤A.length):wordL (A++T) i=wordL A i:=by
 have e: ∀j,j<A.length→(A++T).getD j 0=A.getD j 0:=fun j hj=>by
  simp[List.getD_eq_getElem?_getD,List.getElem?_append_left hj]
 unfold wordL
 rw[e _ (by omega),e _ (by omega),e _ (by omega),e _ (by omega)]
theorem four_pre (s:ByteArray)(i:Nat)(h:i+16≤s.size):four s i=four (padS s) i:=by
 rw[ba_size] at h
 have e: ∀j,j+4≤s.data.toList.length→wordAt (padS s) j=wordAt s j:=fun j hj=>by
  rw[wordAt_L,wordAt_L]
  show wordL (padL _) j=_
  unfold padL padR
  rw[List.append_assoc,wordL_pre _ _ _ hj]
 unfold four
 rw[e _ (by omega),e _ (by omega),e _ (by omega),e _ (by omega)]
theorem tail_eq (s:ByteArray)(w:Nat)(hw:w≤s.size):padL s.data.toList=s.data.toList.take w++((s.data.toList.drop w++128::List.replicate (zP s.size) 0)++toBytes (bys [(s.size:Int),0])):=by
 have e:s.data.toList=s.data.toList.take w++s.data.toList.drop w:=(List.take_append_drop w _).symm
 unfold padL padR
 rw[ba_size]
 generalize (s.data.toList).length=n
 rw[←List.append_assoc,←List.append_assoc,←e]
theorem four_tail (s:ByteArray)(w:Nat)(hw:w≤s.size)(t:ByteArray)(ht:t.data.toList=(s.data.toList.drop w++128::List.replicate (zP s.size) 0)++toBytes (bys [(s.size:Int),0]))(i:Nat):four t i=four (padS s) (w+i):=by
 have e: ∀j,wordAt (padS s) (w+j)=wordAt t j:=fun j=>by
  rw[wordAt_L,wordAt_L,ht]
  show wordL (padL _) (w+j)=_
  rw[tail_eq s w hw]
  have hl:(s.data.toList.take w).length=w:=by rw[List.length_take,←ba_size];omega
  have:=wordL_app (s.data.toList.take w) ((s.data.toList.drop w++128::List.replicate (zP s.size) 0)++toBytes (bys [(s.size:Int),0])) j
  rwa [hl] at this
 unfold four
 rw[←e,←e,←e,←e,Nat.add_assoc,Nat.add_assoc,Nat.add_assoc]
abbrev rowU (l:List UInt8):List (List AV):=l.map fun b=>[.sc (.int .u8 b.toNat)]
theorem bytes_rowU : ∀l:List UInt8,bytesOfRows (rowU l)=some l
 |[]=>rfl
 |x::l=>by
  have:=bytes_rowU l
  unfold rowU at this⊢
  simp only[List.map_cons,bytesOfRows,this,Option.map_some]
  simp
theorem rowU_snoc (l:List UInt8)(b:UInt8)(n:Int)(h:n=b.toNat):rowU l++[[.sc (.int .u8 n)]]=rowU (l++[b]):=by subst h;simp
theorem txtW_list (l:List Int):(txtW l).data.toList=toBytes (bys l):=rfl
end
end Go.Proofs.YtpedpkegmalgmaaGreatDoor.Q
