/- A part of the proof: F8, Be, Hf, F9, Qp, Qa, Qb, Qc, Qx. -/
import Derived.KernelRfl
import Derived.Test.YtpmoibjpjlhcgaaGreatDoorProg
import Derived.Test.YtpmoibjpjlhcgaaGreatDoorT00
import Derived.Test.YtpmoibjpjlhcgaaGreatDoorT04
import Derived.Lib.Hide
set_option linter.unusedSimpArgs false
set_option linter.unusedVariables false
set_option maxRecDepth 200000
set_option maxHeartbeats 8000000
namespace Go.Proofs.YtpmoibjpjlhcgaaGreatDoor
section
open Go Go.Ab
noncomputable abbrev P0 :Program:=Tryz.prog
@[simp] theorem rtys_8 :rtys P0 8=[9,30]:=Zf
@[simp] theorem V9 :Ac Tryz.f8=true:=Zf
@[simp] theorem rtys_9 :rtys P0 9=[9,3,30]:=Zf
@[simp] theorem Mna :Ac Tryz.f9=true:=Zf
@[simp] theorem rtys_19 :rtys P0 19=[9,30]:=Zf
@[simp] theorem Gma :Ac Tryz.f19=true:=Zf
@[simp] theorem rtys_22 :rtys P0 22=[54,3,30]:=Zf
@[simp] theorem Gla :Ac Tryz.f22=true:=Zf
@[simp] theorem Caa :rtys P0 23=[58,30]:=Zf
@[simp] theorem Rf :Ac Tryz.f23=true:=Zf
@[simp] theorem rtys_24 :rtys P0 24=[58,30]:=Zf
@[simp] theorem Gka :Ac Tryz.f24=true:=Zf
@[simp] theorem rtys_25 :rtys P0 25=[9,30]:=Zf
@[simp] theorem Gja :Ac Tryz.f25=true:=Zf
@[simp] theorem rtys_26 :rtys P0 26=[9,30]:=Zf
@[simp] theorem jF8_0 :okFn P0 8=true/\ptys P0 8=[29,9]/\Ai P0 8=true/\okFn P0 9=true/\ptys P0 9=[9]/\Ai P0 9=true/\okFn P0 19=true/\ptys P0 19=[9]/\Ai P0 19=true/\okFn P0 22=true/\ptys P0 22=[9]/\Ai P0 22=false/\okFn P0 23=true/\ptys P0 23=[54,30,61]/\Ai P0 23=false/\okFn P0 24=true/\ptys P0 24=[54]/\Ai P0 24=false/\okFn P0 25=true/\ptys P0 25=[58,30,63]/\Ai P0 25=true/\okFn P0 26=true/\ptys P0 26=[58]/\Ai P0 26=true:=Zh
@[simp] theorem Gia :Ac Tryz.f26=true:=Zf
@[simp] theorem B9a :rtys P0 33=[9]:=Zf
@[simp] theorem Re :Ac Tryz.f33=true:=Zf
@[simp] theorem okFn_45 :okFn P0 45=true:=Zf
@[simp] theorem Sc :okFn P0 46=true:=Zf
@[simp] theorem Gaa :Ac Tryz.f46=true:=Zf
@[simp] theorem okFn_47 :okFn P0 47=true:=Zf
@[simp] theorem rtys_47 :rtys P0 47=[54]:=Zf
@[simp] theorem F9a :Ac Tryz.f47=true:=Zf
@[simp] theorem rtys_48 :rtys P0 48=[4]:=Zf
@[simp] theorem F8a :Ac Tryz.f48=true:=Zf
@[simp] theorem B8a :rtys P0 49=[99,30]:=Zf
@[simp] theorem Rc :Ac Tryz.f49=true:=Zf
@[simp] theorem B7a :rtys P0 50=[58,30]:=Zf
@[simp] theorem Rb :Ac Tryz.f50=true:=Zf
@[simp] theorem rtys_51 :rtys P0 51=[58,30]:=Zf
@[simp] theorem F7a :Ac Tryz.f51=true:=Zf
@[simp] theorem rtys_52 :rtys P0 52=[58,30]:=Zf
@[simp] theorem F6a :Ac Tryz.f52=true:=Zf
@[simp] theorem rtys_53 :rtys P0 53=[106]:=Zf
@[simp] theorem F5a :Ac Tryz.f53=true:=Zf
@[simp] theorem rtys_54 :rtys P0 54=[4]:=Zf
@[simp] theorem jF8_1 :okFn P0 33=true/\ptys P0 33=[41]/\Ai P0 33=true/\okFn P0 48=true/\ptys P0 48=[54]/\Ai P0 48=true/\okFn P0 49=true/\ptys P0 49=[54]/\Ai P0 49=false/\okFn P0 50=true/\ptys P0 50=[99,30,108]/\Ai P0 50=false/\okFn P0 51=true/\ptys P0 51=[99]/\Ai P0 51=false/\okFn P0 52=true/\ptys P0 52=[106]/\Ai P0 52=false/\okFn P0 53=true/\ptys P0 53=[99]/\Ai P0 53=false/\okFn P0 54=true/\ptys P0 54=[58]/\Ai P0 54=true:=Zh
@[simp] theorem F4a :Ac Tryz.f54=true:=Zf
@[simp] theorem B6a :rtys P0 56=[58,30]:=Zf
@[simp] theorem rtys_71 :rtys P0 71=[131,3,30]:=Zf
@[simp] theorem F0a :Ac Tryz.f71=true:=Zf
@[simp] theorem okFn_73 :okFn P0 73=true:=Zf
@[simp] theorem Fza :Ac Tryz.f73=true:=Zf
@[simp] theorem okFn_74 :okFn P0 74=true:=Zf
@[simp] theorem Fya :Ac Tryz.f74=true:=Zf
@[simp] theorem Cea :okFn P0 75=true:=Zf
@[simp] theorem rtys_75 :rtys P0 75=[50]:=Zf
@[simp] theorem Fxa :Ac Tryz.f75=true:=Zf
@[simp] theorem okFn_76 :okFn P0 76=true:=Zf
@[simp] theorem rtys_76 :rtys P0 76=[141]:=Zf
@[simp] theorem Fwa :Ac Tryz.f76=true:=Zf
@[simp] theorem okFn_77 :okFn P0 77=true:=Zf
@[simp] theorem Fva :Ac Tryz.f77=true:=Zf
@[simp] theorem Sb :okFn P0 78=true:=Zf
@[simp] theorem rtys_78 :rtys P0 78=[148]:=Zf
@[simp] theorem Fua :Ac Tryz.f78=true:=Zf
@[simp] theorem rtys_79 :rtys P0 79=[4]:=Zf
@[simp] theorem Fta :Ac Tryz.f79=true:=Zf
@[simp] theorem rtys_80 :rtys P0 80=[4]:=Zf
@[simp] theorem Fsa :Ac Tryz.f80=true:=Zf
@[simp] theorem rtys_81 :rtys P0 81=[4]:=Zf
@[simp] theorem Fra :Ac Tryz.f81=true:=Zf
@[simp] theorem rtys_82 :rtys P0 82=[30]:=Zf
@[simp] theorem Fqa :Ac Tryz.f82=true:=Zf
@[simp] theorem rtys_83 :rtys P0 83=[153,3]:=Zf
@[simp] theorem Fpa :Ac Tryz.f83=true:=Zf
@[simp] theorem rtys_84 :rtys P0 84=[160]:=Zf
@[simp] theorem jF8_2 :okFn P0 56=true/\ptys P0 56=[9]/\Ai P0 56=false/\okFn P0 71=true/\ptys P0 71=[9]/\Ai P0 71=false/\okFn P0 79=true/\ptys P0 79=[50]/\Ai P0 79=true/\okFn P0 80=true/\ptys P0 80=[9]/\Ai P0 80=true/\okFn P0 81=true/\ptys P0 81=[146,3]/\Ai P0 81=true/\okFn P0 82=true/\ptys P0 82=[54]/\Ai P0 82=true/\okFn P0 83=true/\ptys P0 83=[54]/\Ai P0 83=false/\okFn P0 84=true/\ptys P0 84=[157,146]/\Ai P0 84=false:=Zh
@[simp] theorem Foa :Ac Tryz.f84=true:=Zf
@[simp] theorem rtys_85 :rtys P0 85=[166]:=Zf
@[simp] theorem Fna :Ac Tryz.f85=true:=Zf
@[simp] theorem okFn_86 :okFn P0 86=true:=Zf
@[simp] theorem Fma :Ac Tryz.f86=true:=Zf
@[simp] theorem rtys_87 :rtys P0 87=[23,30]:=Zf
@[simp] theorem Fla :Ac Tryz.f87=true:=Zf
@[simp] theorem rtys_88 :rtys P0 88=[174]:=Zf
@[simp] theorem Fka :Ac Tryz.f88=true:=Zf
@[simp] theorem M5 :rtys P0 95=[23]:=Zf
@[simp] theorem Jk :Ac Tryz.f95=true:=Zf
@[simp] theorem J0a :rtys P0 107=[4]:=Zf
@[simp] theorem Boa :Ac Tryz.f107=true:=Zf
@[simp] theorem N4 :rtys P0 108=[9]:=Zf
@[simp] theorem J7 :Ac Tryz.f108=true:=Zf
@[simp] theorem Jza :rtys P0 109=[4]:=Zf
@[simp] theorem Bna :Ac Tryz.f109=true:=Zf
@[simp] theorem Jya :rtys P0 110=[141,30]:=Zf
@[simp] theorem jF8_3 :okFn P0 85=true/\ptys P0 85=[106]/\Ai P0 85=false/\okFn P0 87=true/\ptys P0 87=[118]/\Ai P0 87=true/\okFn P0 88=true/\ptys P0 88=[163]/\Ai P0 88=false/\okFn P0 95=true/\ptys P0 95=[23,3]/\Ai P0 95=true/\okFn P0 107=true/\ptys P0 107=[9,9]/\Ai P0 107=true/\okFn P0 108=true/\ptys P0 108=[9,207]/\Ai P0 108=true/\okFn P0 109=true/\ptys P0 109=[5]/\Ai P0 109=true/\okFn P0 110=true/\ptys P0 110=[9]/\Ai P0 110=true:=Zh
@[simp] theorem Bma :Ac Tryz.f110=true:=Zf
@[simp] theorem okFn_111 :okFn P0 111=true:=Zf
@[simp] theorem Bla :Ac Tryz.f111=true:=Zf
@[simp] theorem okFn_112 :okFn P0 112=true:=Zf
@[simp] theorem Bka :Ac Tryz.f112=true:=Zf
@[simp] theorem okFn_113 :okFn P0 113=true:=Zf
@[simp] theorem Jxa :rtys P0 113=[146]:=Zf
@[simp] theorem Bja :Ac Tryz.f113=true:=Zf
@[simp] theorem Jwa :rtys P0 114=[4]:=Zf
@[simp] theorem Bia :Ac Tryz.f114=true:=Zf
@[simp] theorem Jva :rtys P0 115=[4]:=Zf
@[simp] theorem Bha :Ac Tryz.f115=true:=Zf
@[simp] theorem Jua :rtys P0 116=[4]:=Zf
@[simp] theorem Bga :Ac Tryz.f116=true:=Zf
@[simp] theorem Jta :rtys P0 117=[30]:=Zf
@[simp] theorem Bfa :Ac Tryz.f117=true:=Zf
@[simp] theorem Jsa :rtys P0 118=[30]:=Zf
@[simp] theorem Bea :Ac Tryz.f118=true:=Zf
@[simp] theorem Jra :rtys P0 119=[159]:=Zf
@[simp] theorem Bda :Ac Tryz.f119=true:=Zf
@[simp] theorem Jqa :rtys P0 120=[219]:=Zf
@[simp] theorem Bca :Ac Tryz.f120=true:=Zf
@[simp] theorem Jpa :rtys P0 121=[27,4]:=Zf
@[simp] theorem jF8_4 :okFn P0 114=true/\ptys P0 114=[9]/\Ai P0 114=true/\okFn P0 115=true/\ptys P0 115=[215]/\Ai P0 115=true/\okFn P0 116=true/\ptys P0 116=[213,3]/\Ai P0 116=true/\okFn P0 117=true/\ptys P0 117=[54]/\Ai P0 117=true/\okFn P0 118=true/\ptys P0 118=[54]/\Ai P0 118=true/\okFn P0 119=true/\ptys P0 119=[157,9]/\Ai P0 119=true/\okFn P0 120=true/\ptys P0 120=[157,213]/\Ai P0 120=false/\okFn P0 121=true/\ptys P0 121=[106,3]/\Ai P0 121=false:=Zh
@[simp] theorem Bba :Ac Tryz.f121=true:=Zf
@[simp] theorem Joa :rtys P0 122=[225]:=Zf
@[simp] theorem Baa :Ac Tryz.f122=true:=Zf
@[simp] theorem okFn_123 :okFn P0 123=true:=Zf
@[simp] theorem A9a :Ac Tryz.f123=true:=Zf
@[simp] theorem okFn_124 :okFn P0 124=true:=Zf
@[simp] theorem A8a :Ac Tryz.f124=true:=Zf
@[simp] theorem Ty :rtys P0 125=[4]:=Zf
@[simp] theorem Pe :Ac Tryz.f125=true:=Zf
@[simp] theorem okFn_126 :okFn P0 126=true:=Zf
@[simp] theorem A7a :Ac Tryz.f126=true:=Zf
@[simp] theorem okFn_127 :okFn P0 127=true:=Zf
@[simp] theorem A6a :Ac Tryz.f127=true:=Zf
@[simp] theorem Jna :rtys P0 155=[4]:=Zf
@[simp] theorem A3a :Ac Tryz.f155=true:=Zf
@[simp] theorem Jma :rtys P0 156=[4]:=Zf
@[simp] theorem A2a :Ac Tryz.f156=true:=Zf
@[simp] theorem Jla :rtys P0 157=[141,30]:=Zf
@[simp] theorem A1a :Ac Tryz.f157=true:=Zf
@[simp] theorem Jka :rtys P0 158=[141,30]:=Zf
@[simp] theorem A0a :Ac Tryz.f158=true:=Zf
@[simp] theorem Jja :rtys P0 159=[4]:=Zf
@[simp] theorem Aza :Ac Tryz.f159=true:=Zf
@[simp] theorem Jia :rtys P0 160=[141,30]:=Zf
@[simp] theorem jF8_5 :okFn P0 122=true/\ptys P0 122=[]/\Ai P0 122=false/\okFn P0 125=true/\ptys P0 125=[118]/\Ai P0 125=true/\okFn P0 155=true/\ptys P0 155=[9,9]/\Ai P0 155=true/\okFn P0 156=true/\ptys P0 156=[5]/\Ai P0 156=true/\okFn P0 157=true/\ptys P0 157=[9]/\Ai P0 157=true/\okFn P0 158=true/\ptys P0 158=[9]/\Ai P0 158=true/\okFn P0 159=true/\ptys P0 159=[5]/\Ai P0 159=true/\okFn P0 160=true/\ptys P0 160=[9]/\Ai P0 160=true:=Zh
@[simp] theorem Aya :Ac Tryz.f160=true:=Zf
@[simp] theorem Jha :rtys P0 161=[4]:=Zf
@[simp] theorem Axa :Ac Tryz.f161=true:=Zf
@[simp] theorem okFn_162 :okFn P0 162=true:=Zf
@[simp] theorem Jga :rtys P0 162=[215]:=Zf
@[simp] theorem Awa :Ac Tryz.f162=true:=Zf
@[simp] theorem Jfa :rtys P0 163=[4]:=Zf
@[simp] theorem Ava :Ac Tryz.f163=true:=Zf
@[simp] theorem Jea :rtys P0 164=[4]:=Zf
@[simp] theorem Aua :Ac Tryz.f164=true:=Zf
@[simp] theorem Jda :rtys P0 165=[4]:=Zf
@[simp] theorem Ata :Ac Tryz.f165=true:=Zf
@[simp] theorem Jca :rtys P0 166=[290,4]:=Zf
@[simp] theorem Asa :Ac Tryz.f166=true:=Zf
@[simp] theorem Jba :rtys P0 167=[290,4]:=Zf
@[simp] theorem Ara :Ac Tryz.f167=true:=Zf
@[simp] theorem okFn_168 :okFn P0 168=true:=Zf
@[simp] theorem Aqa :Ac Tryz.f168=true:=Zf
@[simp] theorem okFn_169 :okFn P0 169=true:=Zf
@[simp] theorem Apa :Ac Tryz.f169=true:=Zf
@[simp] theorem Jaa :rtys P0 170=[300]:=Zf
@[simp] theorem Aoa :Ac Tryz.f170=true:=Zf
@[simp] theorem Kia :okFn P0 171=true:=Zf
@[simp] theorem Ana :Ac Tryz.f171=true:=Zf
@[simp] theorem Ama :Ac Tryz.f172=true:=Zf
@[simp] theorem Ala :Ac Tryz.f173=true:=Zf
@[simp] theorem okFn_174 :okFn P0 174=true:=Zf
@[simp] theorem Aka :Ac Tryz.f174=true:=Zf
@[simp] theorem okFn_175 :okFn P0 175=true:=Zf
@[simp] theorem Aja :Ac Tryz.f175=true:=Zf
@[simp] theorem okFn_176 :okFn P0 176=true:=Zf
@[simp] theorem Aia :Ac Tryz.f176=true:=Zf
@[simp] theorem jF8_6 :okFn P0 161=true/\ptys P0 161=[5]/\Ai P0 161=true/\okFn P0 163=true/\ptys P0 163=[9]/\Ai P0 163=true/\okFn P0 164=true/\ptys P0 164=[9,4]/\Ai P0 164=true/\okFn P0 165=true/\ptys P0 165=[288]/\Ai P0 165=true/\okFn P0 166=true/\ptys P0 166=[54]/\Ai P0 166=false/\okFn P0 167=true/\ptys P0 167=[148]/\Ai P0 167=false/\okFn P0 170=true/\ptys P0 170=[295,9]/\Ai P0 170=true/\okFn P0 172=true/\okFn P0 173=true/\okFn P0 177=true:=Zh
@[simp] theorem H9a :rtys P0 177=[3,4]:=Zf
@[simp] theorem Aha :Ac Tryz.f177=true:=Zf
@[simp] theorem H8a :rtys P0 178=[27]:=Zf
@[simp] theorem Aga :Ac Tryz.f178=true:=Zf
@[simp] theorem okFn_179 :okFn P0 179=true:=Zf
@[simp] theorem Afa :Ac Tryz.f179=true:=Zf
@[simp] theorem okFn_180 :okFn P0 180=true:=Zf
@[simp] theorem Aea :Ac Tryz.f180=true:=Zf
@[simp] theorem okFn_181 :okFn P0 181=true:=Zf
@[simp] theorem Ada :Ac Tryz.f181=true:=Zf
@[simp] theorem okFn_182 :okFn P0 182=true:=Zf
@[simp] theorem Aca :Ac Tryz.f182=true:=Zf
@[simp] theorem okFn_183 :okFn P0 183=true:=Zf
@[simp] theorem Aba :Ac Tryz.f183=true:=Zf
@[simp] theorem okFn_184 :okFn P0 184=true:=Zf
@[simp] theorem Aaa :Ac Tryz.f184=true:=Zf
@[simp] theorem okFn_185 :okFn P0 185=true:=Zf
@[simp] theorem Z9 :Ac Tryz.f185=true:=Zf
@[simp] theorem okFn_186 :okFn P0 186=true:=Zf
@[simp] theorem Z7 :Ac Tryz.f186=true:=Zf
@[simp] theorem okFn_187 :okFn P0 187=true:=Zf
@[simp] theorem Z4 :Ac Tryz.f187=true:=Zf
@[simp] theorem okFn_188 :okFn P0 188=true:=Zf
@[simp] theorem Z3 :Ac Tryz.f188=true:=Zf
@[simp] theorem okFn_189 :okFn P0 189=true:=Zf
@[simp] theorem Z0 :Ac Tryz.f189=true:=Zf
@[simp] theorem okFn_190 :okFn P0 190=true:=Zf
@[simp] theorem Zy :Ac Tryz.f190=true:=Zf
@[simp] theorem okFn_191 :okFn P0 191=true:=Zf
@[simp] theorem Zu :Ac Tryz.f191=true:=Zf
@[simp] theorem okFn_192 :okFn P0 192=true:=Zf
@[simp] theorem Zt :Ac Tryz.f192=true:=Zf
@[simp] theorem okFn_193 :okFn P0 193=true:=Zf
@[simp] theorem Zn :Ac Tryz.f193=true:=Zf
@[simp] theorem okFn_194 :okFn P0 194=true:=Zf
@[simp] theorem Zg :Ac Tryz.f194=true:=Zf
@[simp] theorem okFn_195 :okFn P0 195=true:=Zf
@[simp] theorem Ze :Ac Tryz.f195=true:=Zf
@[simp] theorem okFn_196 :okFn P0 196=true:=Zf
@[simp] theorem Zb :Ac Tryz.f196=true:=Zf
@[simp] theorem okFn_197 :okFn P0 197=true:=Zf
@[simp] theorem Za :Ac Tryz.f197=true:=Zf
@[simp] theorem okFn_198 :okFn P0 198=true:=Zf
@[simp] theorem Y9 :Ac Tryz.f198=true:=Zf
@[simp] theorem Tw :rtys P0 199=[4]:=Zf
@[simp] theorem Pd :Ac Tryz.f199=true:=Zf
@[simp] theorem H7a :rtys P0 200=[321]:=Zf
@[simp] theorem Y8 :Ac Tryz.f200=true:=Zf
@[simp] theorem Tv :rtys P0 201=[4]:=Zf
@[simp] theorem Pc :Ac Tryz.f201=true:=Zf
@[simp] theorem okFn_202 :okFn P0 202=true:=Zf
@[simp] theorem Y7 :Ac Tryz.f202=true:=Zf
@[simp] theorem okFn_203 :okFn P0 203=true:=Zf
@[simp] theorem Pb :Ac Tryz.f203=true:=Zf
@[simp] theorem okFn_238 :okFn P0 238=true:=Zf
@[simp] theorem H6a :rtys P0 238=[213]:=Zf
@[simp] theorem Y3 :Ac Tryz.f238=true:=Zf
@[simp] theorem Od :okFn P0 239=true:=Zf
@[simp] theorem H5a :rtys P0 239=[288]:=Zf
@[simp] theorem Y2 :Ac Tryz.f239=true:=Zf
@[simp] theorem okFn_240 :okFn P0 240=true:=Zf
@[simp] theorem H4a :rtys P0 240=[146]:=Zf
@[simp] theorem Y1 :Ac Tryz.f240=true:=Zf
@[simp] theorem okFn_241 :okFn P0 241=true:=Zf
@[simp] theorem H3a :rtys P0 241=[215]:=Zf
@[simp] theorem Y0 :Ac Tryz.f241=true:=Zf
@[simp] theorem okFn_242 :okFn P0 242=true:=Zf
@[simp] theorem Yz :Ac Tryz.f242=true:=Zf
@[simp] theorem okFn_243 :okFn P0 243=true:=Zf
@[simp] theorem Yy :Ac Tryz.f243=true:=Zf
@[simp] theorem okFn_244 :okFn P0 244=true:=Zf
@[simp] theorem Yx :Ac Tryz.f244=true:=Zf
@[simp] theorem okFn_245 :okFn P0 245=true:=Zf
@[simp] theorem Yw :Ac Tryz.f245=true:=Zf
@[simp] theorem H2a :rtys P0 246=[3]:=Zf
@[simp] theorem Yv :Ac Tryz.f246=true:=Zf
@[simp] theorem Yu :Ac Tryz.f247=true:=Zf
@[simp] theorem Yt :Ac Tryz.f248=true:=Zf
@[simp] theorem Ys :Ac Tryz.f249=true:=Zf
@[simp] theorem Yr :Ac Tryz.f250=true:=Zf
@[simp] theorem Yq :Ac Tryz.f251=true:=Zf
@[simp] theorem Yp :Ac Tryz.f252=true:=Zf
@[simp] theorem jF8_7 :ptys P0 177=[106,3,315,3]/\Ai P0 177=true/\okFn P0 178=true/\ptys P0 178=[315,3]/\Ai P0 178=false/\okFn P0 199=true/\ptys P0 199=[3]/\Ai P0 199=true/\okFn P0 200=true/\ptys P0 200=[3]/\Ai P0 200=true/\okFn P0 201=true/\ptys P0 201=[3,3,4]/\Ai P0 201=true/\okFn P0 246=true/\ptys P0 246=[288]/\Ai P0 246=true/\okFn P0 247=true/\okFn P0 248=true/\okFn P0 249=true/\okFn P0 250=true/\okFn P0 251=true/\okFn P0 252=true/\okFn P0 253=true:=Zh
@[simp] theorem H1a :rtys P0 253=[3]:=Zf
@[simp] theorem Yo :Ac Tryz.f253=true:=Zf
@[simp] theorem okFn_254 :okFn P0 254=true:=Zf
@[simp] theorem Yn :Ac Tryz.f254=true:=Zf
@[simp] theorem okFn_255 :okFn P0 255=true:=Zf
@[simp] theorem Ym :Ac Tryz.f255=true:=Zf
@[simp] theorem okFn_256 :okFn P0 256=true:=Zf
@[simp] theorem Yl :Ac Tryz.f256=true:=Zf
@[simp] theorem H0a :rtys P0 288=[118,30]:=Zf
@[simp] theorem Yk :Ac Tryz.f288=true:=Zf
@[simp] theorem okFn_290 :okFn P0 290=true:=Zf
@[simp] theorem Hza :rtys P0 290=[288]:=Zf
@[simp] theorem Yj :Ac Tryz.f290=true:=Zf
@[simp] theorem Hya :rtys P0 291=[288,3]:=Zf
@[simp] theorem Yi :Ac Tryz.f291=true:=Zf
@[simp] theorem okFn_292 :okFn P0 292=true:=Zf
@[simp] theorem Hwa :rtys P0 292=[213]:=Zf
@[simp] theorem Yh :Ac Tryz.f292=true:=Zf
@[simp] theorem Yg :Ac Tryz.f293=true:=Zf
@[simp] theorem okFn_294 :okFn P0 294=true:=Zf
@[simp] theorem Pa :Ac Tryz.f294=true:=Zf
@[simp] theorem okFn_295 :okFn P0 295=true:=Zf
@[simp] theorem Yf :Ac Tryz.f295=true:=Zf
@[simp] theorem Sy.Fd :rtys P0 321=[23,30]:=Zf
@[simp] theorem Da :Ac Tryz.f321=true:=Zf
@[simp] theorem Hva :rtys P0 322=[288]:=Zf
@[simp] theorem Ye :Ac Tryz.f322=true:=Zf
@[simp] theorem Tu :rtys P0 330=[23,30]:=Zf
@[simp] theorem O8 :Ac Tryz.f330=true:=Zf
@[simp] theorem Tt :rtys P0 331=[23]:=Zf
@[simp] theorem O7 :Ac Tryz.f331=true:=Zf
@[simp] theorem Ts :rtys P0 332=[23]:=Zf
@[simp] theorem jF8_8 :ptys P0 253=[4]/\Ai P0 253=true/\okFn P0 288=true/\ptys P0 288=[23]/\Ai P0 288=true/\okFn P0 291=true/\ptys P0 291=[9]/\Ai P0 291=false/\okFn P0 293=true/\okFn P0 321=true/\ptys P0 321=[3,23,23]/\Ai P0 321=true/\okFn P0 322=true/\ptys P0 322=[3]/\Ai P0 322=false/\okFn P0 330=true/\ptys P0 330=[3,23,23]/\Ai P0 330=true/\okFn P0 331=true/\ptys P0 331=[3,23,23]/\Ai P0 331=true/\okFn P0 332=true/\ptys P0 332=[3,23,23]/\Ai P0 332=true:=Zh
@[simp] theorem O6 :Ac Tryz.f332=true:=Zf
@[simp] theorem Lda :isAggB P0 4=false:=Zf
@[simp] theorem jF8_9 :P0.cellsOf 3=1/\P0.bytesOf 3=8/\slel P0 3=none/\isAggB P0 3=false/\tOk P0 3=true/\intK P0 3=some IntKind.i64/\zrow P0 3=some [AV.sc (Value.int IntKind.i64 0)]/\tcs P0 3=[3]/\zok P0 3=true/\zeros P0 3=some [Value.int IntKind.i64 0]/\(P0.info? 3).isSome=true/\P0.cellsOf 4=1/\slel P0 4=none/\tOk P0 4=true/\tcs P0 4=[4]/\zeros P0 4=some [Value.bool false]/\(P0.info? 4).isSome=true/\P0.cellsOf 5=1/\P0.bytesOf 5=1/\isAggB P0 5=false/\intK P0 5=some IntKind.u8/\zrow P0 5=some [AV.sc (Value.int IntKind.u8 0)]/\tcs P0 5=[5]/\zok P0 5=true:=Zh
@[simp] theorem jF8_10 :P0.cellsOf 9=1/\P0.bytesOf 9=16/\slel P0 9=none/\isAggB P0 9=false/\tOk P0 9=true/\strB P0 9=true/\zrow P0 9=some [AV.sc (Value.string {data:={toList:=[]}})]/\tcs P0 9=[9]/\zok P0 9=true/\(P0.info? 9).isSome=true/\P0.cellsOf 23=1/\P0.bytesOf 23=4/\slel P0 23=none/\isAggB P0 23=false/\tOk P0 23=true/\intK P0 23=some IntKind.u32/\zrow P0 23=some [AV.sc (Value.int IntKind.u32 0)]/\tcs P0 23=[23]/\zok P0 23=true/\(P0.info? 23).isSome=true/\P0.cellsOf 24=4/\isAggB P0 24=true/\Ay P0 24=some (4,23)/\tcs P0 24=[23,23,23,23]:=Zh
@[simp] theorem jF8_11 :zeros P0 24=some [Value.int IntKind.u32 0,Value.int IntKind.u32 0,Value.int IntKind.u32 0,Value.int IntKind.u32 0]/\(P0.info? 24).isSome=true/\P0.cellsOf 25=4/\isAggB P0 25=true/\Ay P0 25=some (4,23)/\Ba P0 25=true/\tcs P0 25=[23,23,23,23]/\zeros P0 25=some [Value.int IntKind.u32 0,Value.int IntKind.u32 0,Value.int IntKind.u32 0,Value.int IntKind.u32 0]/\(P0.info? 25).isSome=true/\P0.cellsOf 27=1/\P0.bytesOf 27=24/\slel P0 27=some 3/\isAggB P0 27=false/\tOk P0 27=true/\zrow P0 27=some [AV.sl false 1 []]/\tcs P0 27=[27]/\srcT P0 27=true/\zok P0 27=true/\(P0.info? 27).isSome=true/\P0.cellsOf 29=9/\isAggB P0 29=true/\Ay P0 29=none/\Ba P0 29=true/\tcs P0 29=[3,27,9,3,23,23,23,23,9]:=Zh
@[simp] theorem Qj :isAggB P0 30=false:=Zf
@[simp] theorem jF8_12 :flds P0 29=[(0,1,3),(1,1,27),(2,1,9),(3,1,3),(4,4,25),(8,1,9)]/\zeros P0 29=some [Value.int IntKind.i64 0,Value.slice none 0 0,Value.string {data:={toList:=[]}},Value.int IntKind.i64 0,Value.int IntKind.u32 0,Value.int IntKind.u32 0,Value.int IntKind.u32 0,Value.int IntKind.u32 0,Value.string {data:={toList:=[]}}]/\(P0.info? 29).isSome=true/\P0.cellsOf 30=1/\tcs P0 30=[30]/\zeros P0 30=some [Value.int IntKind.i64 0]/\(P0.info? 30).isSome=true/\intK P0 40=some IntKind.u64/\P0.cellsOf 41=1/\slel P0 41=some 23/\isAggB P0 41=false/\tcs P0 41=[41]/\srcT P0 41=true/\(P0.info? 41).isSome=true/\intK P0 44=some IntKind.u64/\P0.cellsOf 50=1/\slel P0 50=some 9/\isAggB P0 50=false/\tcs P0 50=[50]/\srcT P0 50=true/\(P0.info? 50).isSome=true/\P0.cellsOf 51=1/\slel P0 51=some 145/\isAggB P0 51=false:=Zh
@[simp] theorem Qi :isAggB P0 58=true:=Zf
@[simp] theorem tcs_58 :tcs P0 58=[41,3]:=Zf
@[simp] theorem jF8_13 :tcs P0 51=[51]/\srcT P0 51=true/\(P0.info? 51).isSome=true/\P0.cellsOf 52=1/\slel P0 52=some 148/\isAggB P0 52=false/\tcs P0 52=[52]/\srcT P0 52=true/\(P0.info? 52).isSome=true/\P0.cellsOf 54=3/\isAggB P0 54=true/\Ay P0 54=none/\Ba P0 54=true/\tcs P0 54=[50,51,52]/\flds P0 54=[(0,1,50),(1,1,51),(2,1,52)]/\zeros P0 54=some [Value.slice none 0 0,Value.slice none 0 0,Value.slice none 0 0]/\(P0.info? 54).isSome=true/\P0.cellsOf 58=2/\Ay P0 58=none/\Ba P0 58=true/\flds P0 58=[(0,1,41),(1,1,3)]/\zeros P0 58=some [Value.slice none 0 0,Value.int IntKind.i64 0]/\(P0.info? 58).isSome=true/\P0.cellsOf 61=1:=Zh
@[simp] theorem jF8_14 :isAggB P0 61=false/\tcs P0 61=[61]/\P0.cellsOf 63=1/\isAggB P0 63=false/\tcs P0 63=[63]/\P0.cellsOf 73=1/\slel P0 73=some 5/\isAggB P0 73=false/\strB P0 73=false/\tcs P0 73=[73]/\srcT P0 73=true/\(P0.info? 73).isSome=true/\P0.cellsOf 88=3/\isAggB P0 88=true/\Ay P0 88=none/\Ba P0 88=true/\tcs P0 88=[3,9,3]/\flds P0 88=[(0,1,3),(1,1,9),(2,1,3)]/\zeros P0 88=some [Value.int IntKind.i64 0,Value.string {data:={toList:=[]}},Value.int IntKind.i64 0]/\(P0.info? 88).isSome=true/\P0.cellsOf 97=1/\slel P0 97=some 163/\isAggB P0 97=false/\tcs P0 97=[97]:=Zh
@[simp] theorem jF8_15 :srcT P0 97=true/\(P0.info? 97).isSome=true/\P0.cellsOf 99=2/\isAggB P0 99=true/\Ay P0 99=none/\Ba P0 99=true/\tcs P0 99=[3,97]/\flds P0 99=[(0,1,3),(1,1,97)]/\zeros P0 99=some [Value.int IntKind.i64 0,Value.slice none 0 0]/\(P0.info? 99).isSome=true/\P0.cellsOf 104=1/\slel P0 104=some 177/\isAggB P0 104=false/\tcs P0 104=[104]/\srcT P0 104=true/\(P0.info? 104).isSome=true/\P0.cellsOf 106=2/\isAggB P0 106=true/\Ay P0 106=none/\Ba P0 106=true/\tcs P0 106=[3,104]/\flds P0 106=[(0,1,3),(1,1,104)]/\zeros P0 106=some [Value.int IntKind.i64 0,Value.slice none 0 0]/\(P0.info? 106).isSome=true:=Zh
@[simp] theorem jF8_16 :P0.cellsOf 108=1/\isAggB P0 108=false/\tcs P0 108=[108]/\P0.cellsOf 118=4/\P0.bytesOf 118=32/\isAggB P0 118=true/\tOk P0 118=true/\Ay P0 118=none/\zrow P0 118=some [AV.sc (Value.int IntKind.i64 0),AV.sc (Value.int IntKind.i64 0),AV.sc (Value.int IntKind.i64 0),AV.sc (Value.int IntKind.i64 0)]/\Ba P0 118=true/\tcs P0 118=[3,3,3,3]/\zok P0 118=true/\flds P0 118=[(0,1,3),(1,1,3),(2,1,3),(3,1,3)]/\zeros P0 118=some [Value.int IntKind.i64 0,Value.int IntKind.i64 0,Value.int IntKind.i64 0,Value.int IntKind.i64 0]/\(P0.info? 118).isSome=true/\P0.cellsOf 131=1/\slel P0 131=some 141/\isAggB P0 131=false/\tcs P0 131=[131]/\srcT P0 131=true/\P0.cellsOf 135=1/\Ay P0 135=none/\Ba P0 135=true/\tcs P0 135=[3]:=Zh
@[simp] theorem jF8_17 :flds P0 135=[(0,1,3)]/\zeros P0 135=some [Value.int IntKind.i64 0]/\(P0.info? 135).isSome=true/\P0.cellsOf 137=3/\Ay P0 137=none/\Ba P0 137=true/\tcs P0 137=[131,3,3]/\flds P0 137=[(0,1,131),(1,1,3),(2,1,3)]/\zeros P0 137=some [Value.slice none 0 0,Value.int IntKind.i64 0,Value.int IntKind.i64 0]/\P0.cellsOf 141=4/\P0.bytesOf 141=40/\isAggB P0 141=true/\tOk P0 141=true/\Ay P0 141=none/\zrow P0 141=some [AV.sc (Value.int IntKind.i64 0),AV.sc (Value.string {data:={toList:=[]}}),AV.sc (Value.int IntKind.u32 0),AV.sc (Value.int IntKind.i64 0)]/\Ba P0 141=true/\tcs P0 141=[3,9,23,3]/\zok P0 141=true/\flds P0 141=[(0,1,3),(1,1,9),(2,1,23),(3,1,3)]/\zeros P0 141=some [Value.int IntKind.i64 0,Value.string {data:={toList:=[]}},Value.int IntKind.u32 0,Value.int IntKind.i64 0]/\(P0.info? 141).isSome=true/\P0.cellsOf 145=2/\P0.bytesOf 145=24/\isAggB P0 145=true:=Zh
@[simp] theorem jF8_18 :tOk P0 145=true/\Ay P0 145=none/\zrow P0 145=some [AV.sc (Value.string {data:={toList:=[]}}),AV.sc (Value.int IntKind.i64 0)]/\Ba P0 145=true/\tcs P0 145=[9,3]/\zok P0 145=true/\flds P0 145=[(0,1,9),(1,1,3)]/\zeros P0 145=some [Value.string {data:={toList:=[]}},Value.int IntKind.i64 0]/\(P0.info? 145).isSome=true/\P0.cellsOf 146=1/\slel P0 146=some 215/\isAggB P0 146=false/\tcs P0 146=[146]/\srcT P0 146=true/\(P0.info? 146).isSome=true/\P0.cellsOf 148=5/\P0.bytesOf 148=96/\isAggB P0 148=true/\tOk P0 148=true/\zrow P0 148=some [AV.sc (Value.string {data:={toList:=[]}}),AV.sl false 1 [],AV.sl false 1 [],AV.sc (Value.bool false),AV.sl false 5 []]/\tcs P0 148=[9,50,50,4,146]/\zok P0 148=true/\flds P0 148=[(0,1,9),(1,1,50),(2,1,50),(3,1,4),(4,1,146)]/\zeros P0 148=some [Value.string {data:={toList:=[]}},Value.slice none 0 0,Value.slice none 0 0,Value.bool false,Value.slice none 0 0]:=Zh
@[simp] theorem jF8_19 :(P0.info? 148).isSome=true/\P0.cellsOf 153=1/\isAggB P0 153=false/\tcs P0 153=[153]/\P0.cellsOf 157=2/\isAggB P0 157=true/\Ay P0 157=none/\Ba P0 157=true/\tcs P0 157=[153,153]/\flds P0 157=[(0,1,153),(1,1,153)]/\zeros P0 157=some [Value.map none,Value.map none]/\(P0.info? 157).isSome=true/\P0.cellsOf 159=2/\isAggB P0 159=true/\Ay P0 159=none/\zrow P0 159=some [AV.sc (Value.int IntKind.i64 0),AV.sc (Value.int IntKind.i64 0)]/\Ba P0 159=true/\tcs P0 159=[3,3]/\zok P0 159=true/\flds P0 159=[(0,1,3),(1,1,3)]/\zeros P0 159=some [Value.int IntKind.i64 0,Value.int IntKind.i64 0]/\(P0.info? 159).isSome=true/\P0.cellsOf 160=1/\slel P0 160=some 222:=Zh
@[simp] theorem jF8_20 :isAggB P0 160=false/\tcs P0 160=[160]/\srcT P0 160=true/\P0.cellsOf 163=5/\P0.bytesOf 163=56/\isAggB P0 163=true/\tOk P0 163=true/\Ay P0 163=none/\zrow P0 163=some [AV.sc (Value.int IntKind.i64 0),AV.sc (Value.int IntKind.i64 0),AV.sc (Value.int IntKind.i64 0),AV.sc (Value.bool false),AV.sl false 6 []]/\Ba P0 163=true/\tcs P0 163=[3,3,3,4,160]/\zok P0 163=true/\flds P0 163=[(0,1,3),(1,1,3),(2,1,3),(3,1,4),(4,1,160)]/\zeros P0 163=some [Value.int IntKind.i64 0,Value.int IntKind.i64 0,Value.int IntKind.i64 0,Value.bool false,Value.slice none 0 0]/\(P0.info? 163).isSome=true/\P0.cellsOf 164=1/\slel P0 164=some 27/\isAggB P0 164=false/\tcs P0 164=[164]/\srcT P0 164=true/\(P0.info? 164).isSome=true/\P0.cellsOf 166=4/\isAggB P0 166=true/\Ay P0 166=none:=Zh
@[simp] theorem jF8_21 :Ba P0 166=true/\tcs P0 166=[164,27,27,3]/\flds P0 166=[(0,1,164),(1,1,27),(2,1,27),(3,1,3)]/\zeros P0 166=some [Value.slice none 0 0,Value.slice none 0 0,Value.slice none 0 0,Value.int IntKind.i64 0]/\(P0.info? 166).isSome=true/\P0.cellsOf 169=1/\slel P0 169=some 118/\isAggB P0 169=false/\tcs P0 169=[169]/\srcT P0 169=true/\(P0.info? 169).isSome=true/\P0.cellsOf 170=1/\slel P0 170=some 230/\isAggB P0 170=false/\tcs P0 170=[170]/\srcT P0 170=true/\(P0.info? 170).isSome=true/\P0.cellsOf 172=12/\Ay P0 172=none/\Ba P0 172=true/\tcs P0 172=[3,104,164,27,27,3,169,27,164,170,3,3]/\flds P0 172=[(0,2,106),(2,4,166),(6,1,169),(7,1,27),(8,1,164),(9,1,170),(10,1,3),(11,1,3)]/\zeros P0 172=some [Value.int IntKind.i64 0,Value.slice none 0 0,Value.slice none 0 0,Value.slice none 0 0,Value.slice none 0 0,Value.int IntKind.i64 0,Value.slice none 0 0,Value.slice none 0 0,Value.slice none 0 0,Value.slice none 0 0,Value.int IntKind.i64 0,Value.int IntKind.i64 0]/\P0.cellsOf 174=1:=Zh
@[simp] theorem jF8_22 :slel P0 174=some 315/\isAggB P0 174=false/\tcs P0 174=[174]/\srcT P0 174=true/\(P0.info? 174).isSome=true/\P0.cellsOf 177=5/\P0.bytesOf 177=56/\isAggB P0 177=true/\tOk P0 177=true/\Ay P0 177=none/\zrow P0 177=some [AV.sc (Value.int IntKind.i64 0),AV.sc (Value.int IntKind.i64 0),AV.sc (Value.int IntKind.i64 0),AV.sc (Value.bool false),AV.sl false 4 []]/\Ba P0 177=true/\tcs P0 177=[3,3,3,4,174]/\zok P0 177=true/\flds P0 177=[(0,1,3),(1,1,3),(2,1,3),(3,1,4),(4,1,174)]/\zeros P0 177=some [Value.int IntKind.i64 0,Value.int IntKind.i64 0,Value.int IntKind.i64 0,Value.bool false,Value.slice none 0 0]/\(P0.info? 177).isSome=true/\P0.cellsOf 207=1/\isAggB P0 207=false/\tcs P0 207=[207]/\P0.cellsOf 213=1/\slel P0 213=some 288/\isAggB P0 213=false/\tcs P0 213=[213]:=Zh
@[simp] theorem jF8_23 :srcT P0 213=true/\(P0.info? 213).isSome=true/\P0.cellsOf 215=5/\P0.bytesOf 215=96/\isAggB P0 215=true/\tOk P0 215=true/\Ay P0 215=none/\zrow P0 215=some [AV.sc (Value.int IntKind.i64 0),AV.sc (Value.string {data:={toList:=[]}}),AV.sl false 5 [],AV.sl false 5 [],AV.sl false 5 []]/\Ba P0 215=true/\tcs P0 215=[3,9,213,146,146]/\zok P0 215=true/\flds P0 215=[(0,1,3),(1,1,9),(2,1,213),(3,1,146),(4,1,146)]/\zeros P0 215=some [Value.int IntKind.i64 0,Value.string {data:={toList:=[]}},Value.slice none 0 0,Value.slice none 0 0,Value.slice none 0 0]/\(P0.info? 215).isSome=true/\P0.cellsOf 219=1/\slel P0 219=some 309/\isAggB P0 219=false/\tcs P0 219=[219]/\srcT P0 219=true/\P0.cellsOf 222=6/\P0.bytesOf 222=96/\tOk P0 222=true/\Ay P0 222=none/\zrow P0 222=some [AV.sc (Value.int IntKind.i64 0),AV.sc (Value.int IntKind.i64 0),AV.sc (Value.int IntKind.i64 0),AV.sl false 6 [],AV.sl false 6 [],AV.sl false 6 []]:=Zh
@[simp] theorem jF8_24 :Ba P0 222=true/\tcs P0 222=[3,3,3,219,160,160]/\zok P0 222=true/\flds P0 222=[(0,1,3),(1,1,3),(2,1,3),(3,1,219),(4,1,160),(5,1,160)]/\zeros P0 222=some [Value.int IntKind.i64 0,Value.int IntKind.i64 0,Value.int IntKind.i64 0,Value.slice none 0 0,Value.slice none 0 0,Value.slice none 0 0]/\P0.cellsOf 225=1/\isAggB P0 225=false/\tcs P0 225=[225]/\P0.cellsOf 230=3/\P0.bytesOf 230=24/\isAggB P0 230=true/\tOk P0 230=true/\Ay P0 230=none/\zrow P0 230=some [AV.sc (Value.int IntKind.i64 0),AV.sc (Value.int IntKind.i64 0),AV.sc (Value.int IntKind.i64 0)]/\Ba P0 230=true/\tcs P0 230=[3,3,3]/\zok P0 230=true/\flds P0 230=[(0,1,3),(1,1,3),(2,1,3)]/\zeros P0 230=some [Value.int IntKind.i64 0,Value.int IntKind.i64 0,Value.int IntKind.i64 0]/\(P0.info? 230).isSome=true/\P0.cellsOf 232=2/\Ay P0 232=none/\Ba P0 232=true/\tcs P0 232=[4,174]:=Zh
@[simp] theorem jF8_25 :flds P0 232=[(0,1,4),(1,1,174)]/\zeros P0 232=some [Value.bool false,Value.slice none 0 0]/\(P0.info? 232).isSome=true/\slel P0 284=none/\Ay P0 284=some (24,9)/\P0.cellsOf 288=5/\P0.bytesOf 288=64/\isAggB P0 288=true/\tOk P0 288=true/\Ay P0 288=none/\zrow P0 288=some [AV.sc (Value.int IntKind.i64 0),AV.sc (Value.int IntKind.i64 0),AV.sc (Value.int IntKind.u32 0),AV.sc (Value.string {data:={toList:=[]}}),AV.sl false 5 []]/\Ba P0 288=true/\tcs P0 288=[3,3,23,9,213]/\zok P0 288=true/\flds P0 288=[(0,1,3),(1,1,3),(2,1,23),(3,1,9),(4,1,213)]/\zeros P0 288=some [Value.int IntKind.i64 0,Value.int IntKind.i64 0,Value.int IntKind.u32 0,Value.string {data:={toList:=[]}},Value.slice none 0 0]/\(P0.info? 288).isSome=true/\P0.cellsOf 290=1/\isAggB P0 290=false/\tcs P0 290=[290]/\zeros P0 290=some [Value.map none]/\(P0.info? 290).isSome=true/\P0.cellsOf 295=2/\isAggB P0 295=true:=Zh
@[simp] theorem jF8_26 :Ay P0 295=none/\Ba P0 295=true/\tcs P0 295=[290,290]/\flds P0 295=[(0,1,290),(1,1,290)]/\zeros P0 295=some [Value.map none,Value.map none]/\(P0.info? 295).isSome=true/\P0.cellsOf 298=3/\Ay P0 298=none/\Ba P0 298=true/\tcs P0 298=[3,9,3]/\flds P0 298=[(0,1,3),(1,1,9),(2,1,3)]/\zeros P0 298=some [Value.int IntKind.i64 0,Value.string {data:={toList:=[]}},Value.int IntKind.i64 0]/\P0.cellsOf 300=2/\isAggB P0 300=true/\Ay P0 300=none/\zrow P0 300=some [AV.sc (Value.int IntKind.i64 0),AV.sc (Value.int IntKind.i64 0)]/\Ba P0 300=true/\tcs P0 300=[3,3]/\zok P0 300=true/\flds P0 300=[(0,1,3),(1,1,3)]/\zeros P0 300=some [Value.int IntKind.i64 0,Value.int IntKind.i64 0]/\(P0.info? 300).isSome=true/\P0.cellsOf 302=1/\isAggB P0 302=false:=Zh
@[simp] theorem jF8_27 :tcs P0 302=[302]/\P0.cellsOf 309=6/\P0.bytesOf 309=64/\tOk P0 309=true/\Ay P0 309=none/\zrow P0 309=some [AV.sc (Value.int IntKind.i64 0),AV.sc (Value.int IntKind.i64 0),AV.sc (Value.int IntKind.u32 0),AV.sc (Value.int IntKind.i64 0),AV.sc (Value.int IntKind.i64 0),AV.sl false 6 []]/\Ba P0 309=true/\tcs P0 309=[3,3,23,3,3,219]/\zok P0 309=true/\flds P0 309=[(0,1,3),(1,1,3),(2,1,23),(3,1,3),(4,1,3),(5,1,219)]/\zeros P0 309=some [Value.int IntKind.i64 0,Value.int IntKind.i64 0,Value.int IntKind.u32 0,Value.int IntKind.i64 0,Value.int IntKind.i64 0,Value.slice none 0 0]/\P0.cellsOf 311=1/\tcs P0 311=[27]/\flds P0 311=[(0,1,27)]/\zeros P0 311=some [Value.slice none 0 0]/\P0.cellsOf 315=4/\P0.bytesOf 315=32/\isAggB P0 315=true/\tOk P0 315=true/\Ay P0 315=none/\zrow P0 315=some [AV.sc (Value.int IntKind.i64 0),AV.sc (Value.int IntKind.i64 0),AV.sc (Value.int IntKind.i64 0),AV.sc (Value.int IntKind.u32 0)]/\Ba P0 315=true/\tcs P0 315=[3,3,3,23]/\zok P0 315=true:=Zh
@[simp] theorem jF8_28 :flds P0 315=[(0,1,3),(1,1,3),(2,1,3),(3,1,23)]/\zeros P0 315=some [Value.int IntKind.i64 0,Value.int IntKind.i64 0,Value.int IntKind.i64 0,Value.int IntKind.u32 0]/\(P0.info? 315).isSome=true/\P0.cellsOf 318=1/\isAggB P0 318=false/\zrow P0 318=some [AV.sc Value.nilFunc]/\tcs P0 318=[318]/\zok P0 318=true/\P0.cellsOf 321=4/\isAggB P0 321=true/\Ay P0 321=none/\Ba P0 321=true/\tcs P0 321=[9,4,4,3]/\flds P0 321=[(0,1,9),(1,1,4),(2,1,4),(3,1,3)]/\zeros P0 321=some [Value.string {data:={toList:=[]}},Value.bool false,Value.bool false,Value.int IntKind.i64 0]/\(P0.info? 321).isSome=true/\P0.cellsOf 324=1/\isAggB P0 324=false/\tcs P0 324=[324]/\slel P0 370=none/\Ay P0 370=some (10,9)/\P0.cellsOf 374=1/\isAggB P0 374=false/\tcs P0 374=[374]:=Zh
@[simp] theorem jF8_29 :zeros P0 374=some [Value.nilFunc]/\(P0.info? 374).isSome=true/\P0.cellsOf 375=1/\isAggB P0 375=false/\tcs P0 375=[375]/\zeros P0 375=some [Value.nilFunc]/\(P0.info? 375).isSome=true/\isAggB P0 376=false/\P0.cellsOf 377=1/\isAggB P0 377=false/\tOk P0 377=true/\tcs P0 377=[377]/\(P0.info? 377).isSome=true/\Ay P0 378=some (10,377)/\P0.cellsOf 380=11/\Ay P0 380=none/\Ba P0 380=true/\tcs P0 380=[376,377,377,377,377,377,377,377,377,377,377]/\flds P0 380=[(0,1,376),(1,10,378)]/\zeros P0 380=some [Value.map none,Value.nilFunc,Value.nilFunc,Value.nilFunc,Value.nilFunc,Value.nilFunc,Value.nilFunc,Value.nilFunc,Value.nilFunc,Value.nilFunc,Value.nilFunc]:=Zh
def hpL :List Nat:=[45,46,47,73,74,75,76,77,78,111,112,113,162,238,239,240,241,290,292,
 168,169,242,243,244,245,171,172,173,247,248,249,250,251,252,293,
 126,127,202,203,254,255,256,294,295,174,175,176,
 86,123,124,180,181,184,190,193,195,198,179,182,183,185,186,187,188,189,191,192,194,196,197]
def frzL :List Nat:=[47,75,76,78,113,162,238,239,240,241,290,292]
def E47 :Cfg:={eq:=fun _=>false,hp:=fun f=>hpL.contains f,yl:=fun _=>false,inl:=fun f=>f==171,frz:=fun f=>frzL.contains f,ws:=70,cl:=true,bx:=fun t=>t==164}
@[simp] theorem E47_off :E47.off=0:=rfl
@[simp] theorem E47_bx (t:Nat):E47.bx t=(t==164):=rfl
@[simp] theorem E47_eq (t:Nat):E47.eq t=false:=rfl
@[simp] theorem E47_cl :E47.cl=true:=rfl
@[simp] theorem E47_ws :E47.ws=70:=rfl
@[simp] theorem wrap_1 :IntKind.i64.wrap 1=1:=by decide+kernel
@[simp] theorem wrap_2 :IntKind.i64.wrap 2=2:=by decide+kernel
@[simp] theorem wrap_0 :IntKind.i64.wrap 0=0:=by decide+kernel
theorem wrapN {k:Nat}(h:k<9223372036854775807):IntKind.i64.wrap ((k:Int)+1)=(k:Int)+1:=Ad Zo Zo
abbrev iv (n:Int):AV:= .sc (.int .i64 n)
abbrev uv (n:Int):AV:= .sc (.int .u32 n)
abbrev bv (b:Bool):AV:= .sc (.bool b)
abbrev tv (s:ByteArray):AV:= .sc (.string s)
def X46 :Orc:=⟨fun _ _=>none,fun _ _ _ _ _=>none⟩
noncomputable abbrev Lm (X:Orc):Orc:=lim P0 E47 X
theorem rvs_8 :Tryz.f8.results.toList=[.tmp 4,.tmp 5]:=rfl
theorem rvs_9 :Tryz.f9.results.toList=[.tmp 2,.tmp 3,.tmp 4]:=rfl
theorem rvs_19 :Tryz.f19.results.toList=[.tmp 2,.tmp 3]:=rfl
theorem rvs_22 :Tryz.f22.results.toList=[.cell 2 54,.tmp 3,.tmp 4]:=rfl
theorem rvs_23 :Tryz.f23.results.toList=[.cell 6 58,.tmp 7]:=rfl
theorem rvs_24 :Tryz.f24.results.toList=[.cell 2 58,.tmp 3]:=rfl
theorem rvs_25 :Tryz.f25.results.toList=[.tmp 6,.tmp 7]:=rfl
theorem rvs_26 :Tryz.f26.results.toList=[.tmp 2,.tmp 3]:=rfl
theorem rvs_33 :Tryz.f33.results.toList=[.tmp 2]:=rfl
theorem rvs_46 :Tryz.f46.results.toList=[]:=rfl
theorem rvs_47 :Tryz.f47.results.toList=[.cell 2 54]:=rfl
theorem rvs_48 :Tryz.f48.results.toList=[.tmp 2]:=rfl
theorem rvs_49 :Tryz.f49.results.toList=[.cell 2 99,.tmp 3]:=rfl
theorem rvs_50 :Tryz.f50.results.toList=[.cell 6 58,.tmp 7]:=rfl
theorem rvs_51 :Tryz.f51.results.toList=[.cell 2 58,.tmp 3]:=rfl
theorem rvs_52 :Tryz.f52.results.toList=[.cell 2 58,.tmp 3]:=rfl
theorem rvs_53 :Tryz.f53.results.toList=[.cell 2 106]:=rfl
theorem rvs_54 :Tryz.f54.results.toList=[.tmp 2]:=rfl
theorem rvs_71 :Tryz.f71.results.toList=[.tmp 2,.tmp 3,.tmp 4]:=rfl
theorem rvs_73 :Tryz.f73.results.toList=[]:=rfl
theorem rvs_74 :Tryz.f74.results.toList=[.tmp 4]:=rfl
theorem rvs_75 :Tryz.f75.results.toList=[.tmp 2]:=rfl
theorem rvs_76 :Tryz.f76.results.toList=[.cell 4 141]:=rfl
theorem rvs_77 :Tryz.f77.results.toList=[]:=rfl
theorem rvs_78 :Tryz.f78.results.toList=[.cell 2 148]:=rfl
theorem rvs_79 :Tryz.f79.results.toList=[.tmp 2]:=rfl
theorem rvs_80 :Tryz.f80.results.toList=[.tmp 2]:=rfl
theorem rvs_81 :Tryz.f81.results.toList=[.tmp 4]:=rfl
theorem rvs_82 :Tryz.f82.results.toList=[.tmp 2]:=rfl
theorem rvs_83 :Tryz.f83.results.toList=[.tmp 2,.tmp 3]:=rfl
theorem rvs_84 :Tryz.f84.results.toList=[.tmp 4]:=rfl
theorem rvs_85 :Tryz.f85.results.toList=[.cell 2 166]:=rfl
theorem rvs_86 :Tryz.f86.results.toList=[.tmp 2]:=rfl
theorem rvs_87 :Tryz.f87.results.toList=[.tmp 2,.tmp 3]:=rfl
theorem rvs_88 :Tryz.f88.results.toList=[.tmp 2]:=rfl
theorem rvs_107 :Tryz.f107.results.toList=[.tmp 4]:=rfl
theorem R6 :Tryz.f108.results.toList=[.tmp 4]:=rfl
theorem rvs_109 :Tryz.f109.results.toList=[.tmp 2]:=rfl
theorem rvs_110 :Tryz.f110.results.toList=[.cell 2 141,.tmp 3]:=rfl
theorem rvs_111 :Tryz.f111.results.toList=[.tmp 2]:=rfl
theorem rvs_112 :Tryz.f112.results.toList=[.tmp 2]:=rfl
theorem rvs_113 :Tryz.f113.results.toList=[.tmp 2]:=rfl
theorem rvs_114 :Tryz.f114.results.toList=[.tmp 2]:=rfl
theorem rvs_115 :Tryz.f115.results.toList=[.tmp 2]:=rfl
theorem rvs_116 :Tryz.f116.results.toList=[.tmp 4]:=rfl
theorem rvs_117 :Tryz.f117.results.toList=[.tmp 2]:=rfl
theorem rvs_118 :Tryz.f118.results.toList=[.tmp 2]:=rfl
theorem rvs_119 :Tryz.f119.results.toList=[.cell 4 159]:=rfl
theorem rvs_120 :Tryz.f120.results.toList=[.tmp 4]:=rfl
theorem rvs_121 :Tryz.f121.results.toList=[.tmp 4,.tmp 5]:=rfl
theorem rvs_122 :Tryz.f122.results.toList=[.tmp 0]:=rfl
theorem rvs_123 :Tryz.f123.results.toList=[]:=rfl
theorem rvs_124 :Tryz.f124.results.toList=[]:=rfl
theorem rvs_125 :Tryz.f125.results.toList=[.tmp 2]:=rfl
theorem rvs_126 :Tryz.f126.results.toList=[]:=rfl
theorem rvs_127 :Tryz.f127.results.toList=[]:=rfl
theorem rvs_155 :Tryz.f155.results.toList=[.tmp 4]:=rfl
theorem rvs_156 :Tryz.f156.results.toList=[.tmp 2]:=rfl
theorem rvs_157 :Tryz.f157.results.toList=[.cell 2 141,.tmp 3]:=rfl
theorem rvs_158 :Tryz.f158.results.toList=[.cell 2 141,.tmp 3]:=rfl
theorem rvs_159 :Tryz.f159.results.toList=[.tmp 2]:=rfl
theorem rvs_160 :Tryz.f160.results.toList=[.cell 2 141,.tmp 3]:=rfl
theorem rvs_161 :Tryz.f161.results.toList=[.tmp 2]:=rfl
theorem rvs_162 :Tryz.f162.results.toList=[.cell 2 215]:=rfl
theorem rvs_163 :Tryz.f163.results.toList=[.tmp 2]:=rfl
theorem rvs_164 :Tryz.f164.results.toList=[.tmp 4]:=rfl
theorem rvs_165 :Tryz.f165.results.toList=[.tmp 2]:=rfl
theorem rvs_166 :Tryz.f166.results.toList=[.tmp 2,.tmp 3]:=rfl
theorem rvs_167 :Tryz.f167.results.toList=[.tmp 2,.tmp 3]:=rfl
theorem rvs_168 :Tryz.f168.results.toList=[]:=rfl
theorem rvs_169 :Tryz.f169.results.toList=[]:=rfl
theorem rvs_170 :Tryz.f170.results.toList=[.cell 4 300]:=rfl
theorem rvs_172 :Tryz.f172.results.toList=[.tmp 4]:=rfl
theorem rvs_173 :Tryz.f173.results.toList=[.tmp 6]:=rfl
theorem rvs_174 :Tryz.f174.results.toList=[]:=rfl
theorem rvs_175 :Tryz.f175.results.toList=[.tmp 2]:=rfl
theorem rvs_176 :Tryz.f176.results.toList=[.tmp 2]:=rfl
theorem rvs_177 :Tryz.f177.results.toList=[.tmp 8,.tmp 9]:=rfl
theorem rvs_178 :Tryz.f178.results.toList=[.tmp 4]:=rfl
theorem rvs_179 :Tryz.f179.results.toList=[]:=rfl
theorem rvs_180 :Tryz.f180.results.toList=[]:=rfl
theorem rvs_181 :Tryz.f181.results.toList=[]:=rfl
theorem rvs_182 :Tryz.f182.results.toList=[]:=rfl
theorem rvs_183 :Tryz.f183.results.toList=[]:=rfl
theorem rvs_184 :Tryz.f184.results.toList=[]:=rfl
theorem rvs_185 :Tryz.f185.results.toList=[]:=rfl
theorem rvs_186 :Tryz.f186.results.toList=[]:=rfl
theorem rvs_187 :Tryz.f187.results.toList=[]:=rfl
theorem rvs_188 :Tryz.f188.results.toList=[]:=rfl
theorem rvs_189 :Tryz.f189.results.toList=[]:=rfl
theorem rvs_190 :Tryz.f190.results.toList=[]:=rfl
theorem rvs_191 :Tryz.f191.results.toList=[]:=rfl
theorem rvs_192 :Tryz.f192.results.toList=[]:=rfl
theorem rvs_193 :Tryz.f193.results.toList=[]:=rfl
theorem rvs_194 :Tryz.f194.results.toList=[]:=rfl
theorem rvs_195 :Tryz.f195.results.toList=[]:=rfl
theorem rvs_196 :Tryz.f196.results.toList=[]:=rfl
theorem rvs_197 :Tryz.f197.results.toList=[]:=rfl
theorem rvs_198 :Tryz.f198.results.toList=[]:=rfl
theorem rvs_199 :Tryz.f199.results.toList=[.tmp 2]:=rfl
theorem rvs_200 :Tryz.f200.results.toList=[.cell 2 321]:=rfl
theorem rvs_201 :Tryz.f201.results.toList=[.tmp 6]:=rfl
theorem rvs_202 :Tryz.f202.results.toList=[]:=rfl
theorem B5a :Tryz.f203.results.toList=[]:=rfl
theorem rvs_238 :Tryz.f238.results.toList=[.tmp 2]:=rfl
theorem rvs_239 :Tryz.f239.results.toList=[.cell 4 288]:=rfl
theorem rvs_240 :Tryz.f240.results.toList=[.tmp 2]:=rfl
theorem rvs_241 :Tryz.f241.results.toList=[.cell 2 215]:=rfl
theorem rvs_242 :Tryz.f242.results.toList=[]:=rfl
theorem rvs_243 :Tryz.f243.results.toList=[]:=rfl
theorem rvs_244 :Tryz.f244.results.toList=[]:=rfl
theorem rvs_245 :Tryz.f245.results.toList=[]:=rfl
theorem rvs_246 :Tryz.f246.results.toList=[.tmp 2]:=rfl
theorem rvs_247 :Tryz.f247.results.toList=[.tmp 4]:=rfl
theorem rvs_248 :Tryz.f248.results.toList=[.tmp 4]:=rfl
theorem rvs_249 :Tryz.f249.results.toList=[.tmp 4]:=rfl
theorem rvs_250 :Tryz.f250.results.toList=[.tmp 4]:=rfl
theorem rvs_251 :Tryz.f251.results.toList=[.tmp 4]:=rfl
theorem rvs_252 :Tryz.f252.results.toList=[.tmp 6]:=rfl
theorem rvs_253 :Tryz.f253.results.toList=[.tmp 2]:=rfl
theorem rvs_254 :Tryz.f254.results.toList=[]:=rfl
theorem rvs_255 :Tryz.f255.results.toList=[]:=rfl
theorem rvs_256 :Tryz.f256.results.toList=[.tmp 4]:=rfl
theorem rvs_290 :Tryz.f290.results.toList=[.cell 2 288]:=rfl
theorem rvs_291 :Tryz.f291.results.toList=[.cell 2 288,.tmp 3]:=rfl
theorem rvs_292 :Tryz.f292.results.toList=[.tmp 2]:=rfl
theorem rvs_293 :Tryz.f293.results.toList=[.tmp 4]:=rfl
theorem B4a :Tryz.f294.results.toList=[]:=rfl
theorem rvs_295 :Tryz.f295.results.toList=[]:=rfl
theorem rvs_322 :Tryz.f322.results.toList=[.cell 2 288]:=rfl
@[simp] theorem jHf_0 :E47.hp 9=false/\E47.hp 22=false/\E47.hp 23=false/\E47.hp 24=false/\E47.hp 25=false/\E47.hp 26=false/\E47.hp 33=false/\E47.hp 46=true/\E47.hp 48=false/\E47.hp 49=false/\E47.hp 50=false/\E47.hp 51=false/\E47.hp 52=false/\E47.hp 53=false/\E47.hp 54=false/\E47.hp 71=false/\E47.hp 75=true/\E47.hp 78=true/\E47.hp 79=false/\E47.hp 80=false/\E47.hp 81=false/\E47.hp 82=false/\E47.hp 83=false/\E47.hp 84=false:=Zj
@[simp] theorem jHf_1 :E47.hp 85=false/\E47.hp 87=false/\E47.hp 88=false/\E47.hp 95=false/\E47.hp 107=false/\E47.hp 108=false/\E47.hp 109=false/\E47.hp 110=false/\E47.hp 114=false/\E47.hp 115=false/\E47.hp 116=false/\E47.hp 117=false/\E47.hp 118=false/\E47.hp 119=false/\E47.hp 120=false/\E47.hp 121=false/\E47.hp 122=false/\E47.hp 123=true/\E47.hp 125=false/\E47.hp 155=false/\E47.hp 156=false/\E47.hp 157=false/\E47.hp 158=false/\E47.hp 159=false:=Zj
@[simp] theorem jHf_2 :E47.hp 160=false/\E47.hp 161=false/\E47.hp 163=false/\E47.hp 164=false/\E47.hp 165=false/\E47.hp 166=false/\E47.hp 167=false/\E47.hp 170=false/\E47.hp 172=true/\E47.hp 173=true/\E47.hp 177=false/\E47.hp 178=false/\E47.hp 190=true/\E47.hp 199=false/\E47.hp 200=false/\E47.hp 201=false/\E47.hp 203=true/\E47.hp 239=true/\E47.hp 246=false/\E47.hp 247=true/\E47.hp 248=true/\E47.hp 249=true/\E47.hp 250=true/\E47.hp 251=true:=Zj
@[simp] theorem jHf_3 :E47.hp 252=true/\E47.hp 253=false/\E47.hp 291=false/\E47.hp 293=true/\E47.hp 322=false:=Zj
@[simp] theorem rtys_7 :rtys P0 7=[25]:=Zf
@[simp] theorem Moa :Ac Tryz.f7=true:=Zf
@[simp] theorem rtys_12 :rtys P0 12=[25]:=Zf
@[simp] theorem Gra :Ac Tryz.f12=true:=Zf
@[simp] theorem rtys_17 :rtys P0 17=[41,30]:=Zf
@[simp] theorem Goa :Ac Tryz.f17=true:=Zf
@[simp] theorem rtys_18 :rtys P0 18=[45]:=Zf
@[simp] theorem Gna :Ac Tryz.f18=true:=Zf
@[simp] theorem rtys_31 :rtys P0 31=[45]:=Zf
@[simp] theorem Gha :Ac Tryz.f31=true:=Zf
@[simp] theorem rtys_32 :rtys P0 32=[24]:=Zf
@[simp] theorem Gga :Ac Tryz.f32=true:=Zf
@[simp] theorem rtys_34 :rtys P0 34=[25]:=Zf
@[simp] theorem Gfa :Ac Tryz.f34=true:=Zf
@[simp] theorem rtys_41 :rtys P0 41=[45]:=Zf
@[simp] theorem jF9_0 :okFn P0 7=true/\ptys P0 7=[9]/\Ai P0 7=true/\okFn P0 12=true/\ptys P0 12=[9]/\Ai P0 12=true/\okFn P0 17=true/\ptys P0 17=[9]/\Ai P0 17=false/\okFn P0 18=true/\ptys P0 18=[45,25]/\Ai P0 18=true/\okFn P0 31=true/\ptys P0 31=[45,24]/\Ai P0 31=true/\okFn P0 32=true/\ptys P0 32=[9,3]/\Ai P0 32=true/\okFn P0 34=true/\ptys P0 34=[45]/\Ai P0 34=true/\okFn P0 41=true/\ptys P0 41=[45]/\Ai P0 41=true:=Zh
@[simp] theorem Gca :Ac Tryz.f41=true:=Zf
@[simp] theorem rtys_59 :rtys P0 59=[45]:=Zf
@[simp] theorem F3a :Ac Tryz.f59=true:=Zf
@[simp] theorem M6 :rtys P0 65=[23]:=Zf
@[simp] theorem Jl :Ac Tryz.f65=true:=Zf
@[simp] theorem Kj :rtys P0 131=[23]:=Zf
@[simp] theorem F9 :Ac Tryz.f131=true:=Zf
@[simp] theorem jF9_1 :okFn P0 59=true/\ptys P0 59=[45]/\Ai P0 59=true/\okFn P0 64=true/\ptys P0 64=[]/\rtys P0 64=[120]/\Ai P0 64=true/\okFn P0 65=true/\ptys P0 65=[23,3]/\Ai P0 65=true/\okFn P0 131=true/\ptys P0 131=[23,3]/\Ai P0 131=true/\P0.cellsOf 45=8/\isAggB P0 45=true/\Ay P0 45=some (8,23)/\Ba P0 45=true/\tcs P0 45=[23,23,23,23,23,23,23,23]/\zeros P0 45=some [Value.int IntKind.u32 0,Value.int IntKind.u32 0,Value.int IntKind.u32 0,Value.int IntKind.u32 0,Value.int IntKind.u32 0,Value.int IntKind.u32 0,Value.int IntKind.u32 0,Value.int IntKind.u32 0]/\(P0.info? 45).isSome=true/\P0.cellsOf 120=4/\isAggB P0 120=true/\Ay P0 120=some (4,3)/\tcs P0 120=[3,3,3,3]:=Zh
@[simp] theorem jF9_2 :zeros P0 120=some [Value.int IntKind.i64 0,Value.int IntKind.i64 0,Value.int IntKind.i64 0,Value.int IntKind.i64 0]/\(P0.info? 120).isSome=true:=Zh
@[simp] theorem jF9_3 :E47.hp 17=false/\E47.hp 18=false/\E47.hp 31=false/\E47.hp 32=false/\E47.hp 34=false/\E47.hp 41=false/\E47.hp 59=false/\E47.hp 64=false/\E47.hp 65=false/\E47.hp 131=false:=Zj
end
end Go.Proofs.YtpmoibjpjlhcgaaGreatDoor
namespace Go.Proofs.YtpmoibjpjlhcgaaGreatDoor.Q
section
open Go Go.Ab
def upto {α:Type}(f:Nat->α)(k:Nat):List α:=(List.range k).map f
theorem D5 {α:Type}(f:Nat->α)(k:Nat):upto f (k+1)=upto f k++[f k]:=by simp[upto,List.range_succ]
theorem B4 {α:Type}(f:Nat->α)(k:Nat):(upto f k).length=k:=by simp[upto]
def Bw (s:ByteArray)(i:Nat):Int:=(s.data.toList.getD i 0).toNat
def wordAt (s:ByteArray)(i:Nat):Int:=Bw s i+256*Bw s (i+1)+65536*Bw s (i+2)+16777216*Bw s (i+3)
theorem Eg {x y:Nat}(i:Nat)(h:x<2^i):x|||y*2^i=x+y*2^i:=by
 rw[Nat.or_comm,<-Nat.shiftLeft_eq,<-Nat.shiftLeft_add_eq_or_of_lt h,Nat.shiftLeft_eq,Nat.add_comm]
theorem K4 {x y:Nat}(hx:x<4294967296)(hy:y<4294967296):bits .or .u32 (x:Int) (y:Int)=((x|||y:Nat):Int):=by
 have h:(BitVec.ofInt 32 (x:Int)|||BitVec.ofInt 32 (y:Int)).toNat=x|||y:=by
  rw[BitVec.toNat_or,BitVec.ofInt_natCast,BitVec.ofInt_natCast,BitVec.toNat_ofNat,BitVec.toNat_ofNat,Nat.mod_eq_of_lt hx,Nat.mod_eq_of_lt hy]
 show IntKind.u32.wrap ((BitVec.ofInt 32 (x:Int)|||BitVec.ofInt 32 (y:Int)).toNat:Int)=_
 rw[h,IntKind.wrap_u32]
 have:x|||y<2^32:=Nat.or_lt_two_pow Zo Zo
 omega
theorem wrapN {k:Nat}(h:k<9223372036854775807):IntKind.i64.wrap ((k:Int)+1)=(k:Int)+1:=Ad Zo Zo
def U (n:Int):Prop:=0<=n/\n<4294967296
def b4 (w:Int):List Int:=[w%256,w/256%256,w/65536%256,w/16777216%256]
def bys (l:List Int):List Int:=l.flatMap b4
abbrev rowB (l:List Int):List (List AV):=l.map fun x=>[.sc (.int .u8 x)]
def toBytes (l:List Int):List UInt8:=l.map fun x=>UInt8.ofNat x.toNat
def txtW (l:List Int):ByteArray:=⟨⟨toBytes (bys l)⟩⟩
@[simp] theorem fd8 (w:Int):w.fdiv (2^min 8 IntKind.u32.bits)=w/256:=by rw[show(2:Int)^min 8 IntKind.u32.bits=256 from by decide+kernel];exact Int.fdiv_eq_ediv_of_nonneg _ Zo
@[simp] theorem fd16 (w:Int):w.fdiv (2^min 16 IntKind.u32.bits)=w/65536:=by rw[show(2:Int)^min 16 IntKind.u32.bits=65536 from by decide+kernel];exact Int.fdiv_eq_ediv_of_nonneg _ Zo
@[simp] theorem fd24 (w:Int):w.fdiv (2^min 24 IntKind.u32.bits)=w/16777216:=by rw[show(2:Int)^min 24 IntKind.u32.bits=16777216 from by decide+kernel];exact Int.fdiv_eq_ediv_of_nonneg _ Zo
theorem Cn : ∀l:List Int,bytesOfRows (rowB l)=some (toBytes l)
 |[]=>rfl
 |x::l=>by
  have:=Cn l
  unfold rowB at this⊢
  simp only[List.map_cons,bytesOfRows,this,Option.map_some,toBytes]
theorem K3 : ∀l:List Int,(bys l).length=4*l.length
 |[]=>rfl
 |x::l=>by
  have:=K3 l
  unfold bys at this⊢
  simp only[List.flatMap_cons,List.length_append,this,List.length_cons,b4,List.length_nil];omega
theorem Mja {l:List Int}{k:Nat}{w:Int}(h:l[k]?=some w):bys (l.take k)++b4 w=bys (l.take (k+1)):=by
 rw[List.take_add_one,h]
 unfold bys
 rw[List.flatMap_append]
 simp
abbrev rowW (l:List Int):List (List AV):=l.map fun x=>[uv x]
theorem d26 (l:List Int)(hl:l.length<=1048576)(hU: ∀x∈l,U x):(lim P0 E47 X46).dat 33 [.sl false 1 (rowW l)]=some [.sc (.string (txtW l))]:=by
 refine fnW Tryz.func33 rfl rfl Re rfl B9a rfl ?_
 have hm:IntKind.i64.wrap (4*(l.length:Int))=4*(l.length:Int):=Ad Zo Zo
 have m0:(0:Int)<=4*(l.length:Int):=Zo
 have m1:4*(l.length:Int)<=9223372036854775807:=Zo
 have m2:4*(l.length:Int)<=140737488355328:=Zo
 repeat' (first|refine ZN ?_|refine Z2 ?_ ?_|(intro h h';try simp[*,-h] at h'))
 refine Ag (n:=l.length) (fun s0 m s=> ∃k g:Nat,m=l.length - k/\k<=l.length/\s.fr 12=iv k/\s.fr 3= .own ⟨0,9,0⟩ g (4*k)/\s.fr 10=s0.fr 10/\s.fr 11=s0.fr 11/\s.hp ⟨0,9,0⟩= .arr g 1 5 (rowB (bys (l.take k))) false) ⟨0,1,Zi,Zo,Zi,Zi,Zi,Zi,by simp[bys]⟩ ?_
 rintro m ⟨fr,hp⟩ ⟨k,g,rfl,hk,hs12,hs3,hs10,hs11,hh9⟩
 simp at hs12 hs3 hs10 hs11 hh9
 by_cases hlt:k<l.length
 ·have hg:=List.getElem?_eq_getElem hlt
  have hw:=wrapN (k:=k) Zo
  have e0:IntKind.u8.wrap l[k]=l[k]%256:=IntKind.wrap_u8 _
  have e1:IntKind.u8.wrap (l[k]/256)=l[k]/256%256:=IntKind.wrap_u8 _
  have e2:IntKind.u8.wrap (l[k]/65536)=l[k]/65536%256:=IntKind.wrap_u8 _
  have e3:IntKind.u8.wrap (l[k]/16777216)=l[k]/16777216%256:=IntKind.wrap_u8 _
  have hbl:(bys (l.take k)).length=4*k:=by rw[K3,List.length_take];omega
  have hap:rowB (bys (l.take k))++[[.sc (.int .u8 (l[k]%256))],[.sc (.int .u8 (l[k]/256%256))],[.sc (.int .u8 (l[k]/65536%256))],[.sc (.int .u8 (l[k]/16777216%256))]]=rowB (bys (l.take (k+1))):=by
   rw[<-Mja hg];simp[b4]
  have b1:4*k<=140737488355324:=Zo
  have b2:4*k<=9223372036854775803:=Zo
  repeat' (first|refine ZN ?_|refine Z2 ?_ ?_|(intro h h';try simp[*,-h] at h'))
  exact⟨_,Zo,k+1,g+1,rfl,hlt,Zi,by simp[Nat.mul_add],Zm,Zm,Zm⟩
 ·obtain rfl:k=l.length:=Zo
  have hta:l.take l.length=l:=List.take_of_length_le (Nat.le_refl _)
  have hbl:(bys l).length=4*l.length:=K3 l
  have htk:(rowB (bys l)).take (4*l.length)=rowB (bys l):=List.take_of_length_le (by simp[hbl])
  have hbr:=Cn (bys l)
  rw[hta] at hh9
  exact ZS
theorem A0 {s:ByteArray}{i:Nat}(h:i<s.size): ∃B:UInt8,s.data[i]?=some B/\(B.toNat:Int)=Bw s i:=by
 have hlt:i<s.data.size:=h
 refine⟨s.data[i],Array.getElem?_eq_getElem hlt,?_⟩
 unfold Bw
 rw[List.getD_eq_getElem?_getD,List.getElem?_eq_getElem (by simpa using hlt)]
 simp
def wordL (L:List UInt8)(i:Nat):Int:=((L.getD i 0).toNat:Int)+256*(L.getD (i+1) 0).toNat+65536*(L.getD (i+2) 0).toNat+16777216*(L.getD (i+3) 0).toNat
theorem D9 (s:ByteArray)(i:Nat):wordAt s i=wordL s.data.toList i:=rfl
theorem Lc (A L:List UInt8)(i:Nat):wordL (A++L) (A.length+i)=wordL L i:=by
 have e: ∀j,(A++L).getD (A.length+j) 0=L.getD j 0:=fun j=>by
  simp[List.getD_eq_getElem?_getD,List.getElem?_append_right]
 unfold wordL
 rw[e i,Nat.add_assoc,e,Nat.add_assoc,e,Nat.add_assoc,e]
theorem L2 (l:List Int):(toBytes l).length=l.length:=by simp[toBytes]
theorem Tj (a b:List Int):toBytes (a++b)=toBytes a++toBytes b:=by simp[toBytes]
theorem Mka (w:Int)(l:List Int):bys (w::l)=b4 w++bys l:=rfl
theorem Yc (w:Int):((UInt8.ofNat (w%256).toNat).toNat:Int)=w%256:=by
 have:(w%256).toNat<256:=Zo
 simp;omega
theorem G2a {w:Int}(h:U w)(L:List UInt8):wordL (toBytes (b4 w)++L) 0=w:=by
 unfold wordL toBytes b4 at*
 simp only[List.map_cons,List.map_nil,List.cons_append,List.nil_append,Nat.zero_add,List.getD_cons_zero,List.getD_cons_succ,Yc]
 unfold U at h
 omega
theorem Dea (l:List Int)(h: ∀x∈l,U x)(T:List UInt8): ∀k (hk:k<l.length),wordL (toBytes (bys l)++T) (4*k)=l[k]:=by
 induction l with
 |nil=>intro k hk;simp at hk
 |cons w l ih=>
  intro k hk
  rw[Mka,Tj,List.append_assoc]
  cases k with
  |zero=>exact G2a (h w (List.mem_cons_self ..)) _
  |succ k=>
   have e:4*(k+1)=(toBytes (b4 w)).length+4*k:=by rw[L2];simp[b4];omega
   rw[e,Lc]
   exact ih (fun x hx=>h x (List.mem_cons_of_mem _ hx)) k (by simpa using hk)
theorem ba_ext {a b:ByteArray}(h:a.data.toList=b.data.toList):a=b:=by
 apply ByteArray.ext;exact Array.toList_inj.1 h
theorem C4 (a:ByteArray):a.size=a.data.toList.length:=rfl
end
section
open Go Go.Ab
attribute [-simp] Prog.bind getCs putCs
attribute [local simp ↓] run_bind
attribute [local simp ↓] Au
attribute [local simp] Ar Am facetsC Ax At
def xorW (a b:Int):Int:=IntKind.u32.wrap ((BitVec.ofInt IntKind.u32.bits a^^^BitVec.ofInt IntKind.u32.bits b).toNat)
def orW (a b:Int):Int:=IntKind.u32.wrap ((BitVec.ofInt IntKind.u32.bits a|||BitVec.ofInt IntKind.u32.bits b).toNat)
def andX (a b:Int):Int:=IntKind.u64.wrap ((BitVec.ofInt IntKind.u64.bits a&&&BitVec.ofInt IntKind.u64.bits b).toNat)
theorem Lu (a b:Int):evInt .xor .u32 a b=some (.int .u32 (xorW a b)):=rfl
theorem Oo (a b:Int):evInt .or .u32 a b=some (.int .u32 (orW a b)):=rfl
theorem Hd (a b:Int):evInt .and .u64 a b=some (.int .u64 (andX a b)):=rfl
theorem Fs {x y:Nat}(hx:x<4294967296)(hy:y<4294967296):orW (x:Int) (y:Int)=((x|||y:Nat):Int):=K4 hx hy
theorem G0a (x:Int):U (IntKind.u32.wrap x):=by rw[IntKind.wrap_u32];unfold U;omega
theorem Gn (a b:Int):U (xorW a b):=G0a _
def turnP (x:Int)(k:Nat):Int:=x*2^k%4294967296+x/2^(32 - k)
attribute [local simp ↓] Lu Oo Hd
theorem turnP_7 (x:Int):turnP x 7=x*128%4294967296+x/33554432:=rfl
theorem D4a {x:Int}(h:U x):orW (IntKind.u32.wrap (x*128)) (x/33554432)=turnP x 7:=by
 obtain⟨n,rfl⟩: ∃n:Nat,x=n:=⟨x.toNat,by unfold U at h;omega⟩
 have hn:n<4294967296:=by unfold U at h;omega
 have e:IntKind.u32.wrap ((n:Int)*128)=((n%33554432*128:Nat):Int):=by rw[IntKind.wrap_u32];omega
 have e2:(n:Int)/33554432=((n/33554432:Nat):Int):=Zo
 have o:=Eg (x:=n/33554432) (y:=n%33554432) 7 Zo
 rw[show(2:Nat)^7=128 from rfl] at o
 rw[e,e2,Fs Zo Zo,Nat.or_comm,o,turnP_7]
 omega
@[simp] theorem fd25 (w:Int):w.fdiv (2^min 25 IntKind.u32.bits)=w/33554432:=by rw[show(2:Int)^min 25 IntKind.u32.bits=33554432 from by decide+kernel];exact Int.fdiv_eq_ediv_of_nonneg _ Zo
@[simp] theorem sh7 (w:Int):w*2^min 7 IntKind.u32.bits=w*128:=by rw[show(2:Int)^min 7 IntKind.u32.bits=128 from by decide+kernel]
theorem and_7 :andX 7 31=7:=by decide+kernel
theorem d88_7 (x:Int)(h:U x):(lim P0 E47 X46).dat 131 [uv x,iv 7]=some [uv (turnP x 7)]:=by
 refine fnW Tryz.func131 rfl rfl F9 rfl Kj rfl ?_
 have a1:IntKind.u64.wrap 7=7:=by decide+kernel
 have a2:IntKind.u64.wrap 25=25:=by decide+kernel
 have a3:=and_7
 have a4:=D4a h
 clear h
 exact ZS
theorem turnP_9 (x:Int):turnP x 9=x*512%4294967296+x/8388608:=rfl
theorem D3a {x:Int}(h:U x):orW (IntKind.u32.wrap (x*512)) (x/8388608)=turnP x 9:=by
 obtain⟨n,rfl⟩: ∃n:Nat,x=n:=⟨x.toNat,by unfold U at h;omega⟩
 have hn:n<4294967296:=by unfold U at h;omega
 have e:IntKind.u32.wrap ((n:Int)*512)=((n%8388608*512:Nat):Int):=by rw[IntKind.wrap_u32];omega
 have e2:(n:Int)/8388608=((n/8388608:Nat):Int):=Zo
 have o:=Eg (x:=n/8388608) (y:=n%8388608) 9 Zo
 rw[show(2:Nat)^9=512 from rfl] at o
 rw[e,e2,Fs Zo Zo,Nat.or_comm,o,turnP_9]
 omega
@[simp] theorem fd23 (w:Int):w.fdiv (2^min 23 IntKind.u32.bits)=w/8388608:=by rw[show(2:Int)^min 23 IntKind.u32.bits=8388608 from by decide+kernel];exact Int.fdiv_eq_ediv_of_nonneg _ Zo
@[simp] theorem sh9 (w:Int):w*2^min 9 IntKind.u32.bits=w*512:=by rw[show(2:Int)^min 9 IntKind.u32.bits=512 from by decide+kernel]
theorem and_9 :andX 9 31=9:=by decide+kernel
theorem d88_9 (x:Int)(h:U x):(lim P0 E47 X46).dat 131 [uv x,iv 9]=some [uv (turnP x 9)]:=by
 refine fnW Tryz.func131 rfl rfl F9 rfl Kj rfl ?_
 have a1:IntKind.u64.wrap 9=9:=by decide+kernel
 have a2:IntKind.u64.wrap 23=23:=by decide+kernel
 have a3:=and_9
 have a4:=D3a h
 clear h
 exact ZS
theorem Haa (x:Int):turnP x 13=x*8192%4294967296+x/524288:=rfl
theorem Xg {x:Int}(h:U x):orW (IntKind.u32.wrap (x*8192)) (x/524288)=turnP x 13:=by
 obtain⟨n,rfl⟩: ∃n:Nat,x=n:=⟨x.toNat,by unfold U at h;omega⟩
 have hn:n<4294967296:=by unfold U at h;omega
 have e:IntKind.u32.wrap ((n:Int)*8192)=((n%524288*8192:Nat):Int):=by rw[IntKind.wrap_u32];omega
 have e2:(n:Int)/524288=((n/524288:Nat):Int):=Zo
 have o:=Eg (x:=n/524288) (y:=n%524288) 13 Zo
 rw[show(2:Nat)^13=8192 from rfl] at o
 rw[e,e2,Fs Zo Zo,Nat.or_comm,o,Haa]
 omega
@[simp] theorem fd19 (w:Int):w.fdiv (2^min 19 IntKind.u32.bits)=w/524288:=by rw[show(2:Int)^min 19 IntKind.u32.bits=524288 from by decide+kernel];exact Int.fdiv_eq_ediv_of_nonneg _ Zo
@[simp] theorem sh13 (w:Int):w*2^min 13 IntKind.u32.bits=w*8192:=by rw[show(2:Int)^min 13 IntKind.u32.bits=8192 from by decide+kernel]
theorem and_13 :andX 13 31=13:=by decide+kernel
theorem d88_13 (x:Int)(h:U x):(lim P0 E47 X46).dat 131 [uv x,iv 13]=some [uv (turnP x 13)]:=by
 refine fnW Tryz.func131 rfl rfl F9 rfl Kj rfl ?_
 have a1:IntKind.u64.wrap 13=13:=by decide+kernel
 have a2:IntKind.u64.wrap 19=19:=by decide+kernel
 have a3:=and_13
 have a4:=Xg h
 clear h
 exact ZS
theorem G9a (x:Int):turnP x 18=x*262144%4294967296+x/16384:=rfl
theorem Xf {x:Int}(h:U x):orW (IntKind.u32.wrap (x*262144)) (x/16384)=turnP x 18:=by
 obtain⟨n,rfl⟩: ∃n:Nat,x=n:=⟨x.toNat,by unfold U at h;omega⟩
 have hn:n<4294967296:=by unfold U at h;omega
 have e:IntKind.u32.wrap ((n:Int)*262144)=((n%16384*262144:Nat):Int):=by rw[IntKind.wrap_u32];omega
 have e2:(n:Int)/16384=((n/16384:Nat):Int):=Zo
 have o:=Eg (x:=n/16384) (y:=n%16384) 18 Zo
 rw[show(2:Nat)^18=262144 from rfl] at o
 rw[e,e2,Fs Zo Zo,Nat.or_comm,o,G9a]
 omega
@[simp] theorem fd14 (w:Int):w.fdiv (2^min 14 IntKind.u32.bits)=w/16384:=by rw[show(2:Int)^min 14 IntKind.u32.bits=16384 from by decide+kernel];exact Int.fdiv_eq_ediv_of_nonneg _ Zo
@[simp] theorem sh18 (w:Int):w*2^min 18 IntKind.u32.bits=w*262144:=by rw[show(2:Int)^min 18 IntKind.u32.bits=262144 from by decide+kernel]
theorem and_18 :andX 18 31=18:=by decide+kernel
theorem d88_18 (x:Int)(h:U x):(lim P0 E47 X46).dat 131 [uv x,iv 18]=some [uv (turnP x 18)]:=by
 refine fnW Tryz.func131 rfl rfl F9 rfl Kj rfl ?_
 have a1:IntKind.u64.wrap 18=18:=by decide+kernel
 have a2:IntKind.u64.wrap 14=14:=by decide+kernel
 have a3:=and_18
 have a4:=Xf h
 clear h
 exact ZS
theorem M4 {x:Int}(h:U x): ∀i,i<=18->U (turnP x i):=by
 intro i hi
 unfold U at*
 have:i=0\/i=1\/i=2\/i=3\/i=4\/i=5\/i=6\/i=7\/i=8\/i=9\/i=10\/i=11\/i=12\/i=13\/i=14\/i=15\/i=16\/i=17\/i=18:=Zo
 rcases this with rfl|rfl|rfl|rfl|rfl|rfl|rfl|rfl|rfl|rfl|rfl|rfl|rfl|rfl|rfl|rfl|rfl|rfl|rfl<;>simp only[turnP,Nat.reduceSub,Int.reducePow]<;>omega
theorem Fm {x:Int}(h:U x): ∀i,i<18->2*turnP x i%4294967296+turnP x i/2147483648=turnP x (i+1):=by
 intro i hi
 unfold U at*
 have:i=0\/i=1\/i=2\/i=3\/i=4\/i=5\/i=6\/i=7\/i=8\/i=9\/i=10\/i=11\/i=12\/i=13\/i=14\/i=15\/i=16\/i=17:=Zo
 rcases this with rfl|rfl|rfl|rfl|rfl|rfl|rfl|rfl|rfl|rfl|rfl|rfl|rfl|rfl|rfl|rfl|rfl|rfl
 ·simp only[turnP,Nat.reduceSub,Nat.reduceAdd,Int.reducePow]
  have e1:x*1%4294967296=x%4294967296*1:=Zo
  have e2:x*2%4294967296=x%2147483648*2:=Zo
  rw[e1,e2]
  obtain⟨q,t,r,hx,ht,hr⟩: ∃q t r:Int,x=4294967296*q+2147483648*t+r/\(t=0\/t=1)/\0<=r/\r<2147483648:=⟨x/4294967296,x/2147483648%2,x%2147483648,Zo,Zo,Zo,Zo⟩
  have hq:0<=q/\q<1:=Zo
  obtain⟨s,hs⟩: ∃s,s=r*1+q:=⟨_,rfl⟩
  have hs1:0<=s/\s<2147483648:=Zo
  have g0:(2147483648*0+r)*1+q=s:=Zo
  have g1:(2147483648*1+r)*1+q=2147483648+s:=Zo
  have g2:r*2+(2*q+0)=2*s:=Zo
  have g3:r*2+(2*q+1)=2*s+1:=Zo
  have f1:x%4294967296=2147483648*t+r:=Zo
  have f2:x/4294967296=q:=Zo
  have f3:x%2147483648=r:=Zo
  have f4:x/2147483648=2*q+t:=Zo
  exact ZD
 ·simp only[turnP,Nat.reduceSub,Nat.reduceAdd,Int.reducePow]
  have e1:x*2%4294967296=x%2147483648*2:=Zo
  have e2:x*4%4294967296=x%1073741824*4:=Zo
  rw[e1,e2]
  obtain⟨q,t,r,hx,ht,hr⟩: ∃q t r:Int,x=2147483648*q+1073741824*t+r/\(t=0\/t=1)/\0<=r/\r<1073741824:=⟨x/2147483648,x/1073741824%2,x%1073741824,Zo,Zo,Zo,Zo⟩
  have hq:0<=q/\q<2:=Zo
  obtain⟨s,hs⟩: ∃s,s=r*2+q:=⟨_,rfl⟩
  have hs1:0<=s/\s<2147483648:=Zo
  have g0:(1073741824*0+r)*2+q=s:=Zo
  have g1:(1073741824*1+r)*2+q=2147483648+s:=Zo
  have g2:r*4+(2*q+0)=2*s:=Zo
  have g3:r*4+(2*q+1)=2*s+1:=Zo
  have f1:x%2147483648=1073741824*t+r:=Zo
  have f2:x/2147483648=q:=Zo
  have f3:x%1073741824=r:=Zo
  have f4:x/1073741824=2*q+t:=Zo
  exact ZD
 ·simp only[turnP,Nat.reduceSub,Nat.reduceAdd,Int.reducePow]
  have e1:x*4%4294967296=x%1073741824*4:=Zo
  have e2:x*8%4294967296=x%536870912*8:=Zo
  rw[e1,e2]
  obtain⟨q,t,r,hx,ht,hr⟩: ∃q t r:Int,x=1073741824*q+536870912*t+r/\(t=0\/t=1)/\0<=r/\r<536870912:=⟨x/1073741824,x/536870912%2,x%536870912,Zo,Zo,Zo,Zo⟩
  have hq:0<=q/\q<4:=Zo
  obtain⟨s,hs⟩: ∃s,s=r*4+q:=⟨_,rfl⟩
  have hs1:0<=s/\s<2147483648:=Zo
  have g0:(536870912*0+r)*4+q=s:=Zo
  have g1:(536870912*1+r)*4+q=2147483648+s:=Zo
  have g2:r*8+(2*q+0)=2*s:=Zo
  have g3:r*8+(2*q+1)=2*s+1:=Zo
  have f1:x%1073741824=536870912*t+r:=Zo
  have f2:x/1073741824=q:=Zo
  have f3:x%536870912=r:=Zo
  have f4:x/536870912=2*q+t:=Zo
  exact ZD
 ·simp only[turnP,Nat.reduceSub,Nat.reduceAdd,Int.reducePow]
  have e1:x*8%4294967296=x%536870912*8:=Zo
  have e2:x*16%4294967296=x%268435456*16:=Zo
  rw[e1,e2]
  obtain⟨q,t,r,hx,ht,hr⟩: ∃q t r:Int,x=536870912*q+268435456*t+r/\(t=0\/t=1)/\0<=r/\r<268435456:=⟨x/536870912,x/268435456%2,x%268435456,Zo,Zo,Zo,Zo⟩
  have hq:0<=q/\q<8:=Zo
  obtain⟨s,hs⟩: ∃s,s=r*8+q:=⟨_,rfl⟩
  have hs1:0<=s/\s<2147483648:=Zo
  have g0:(268435456*0+r)*8+q=s:=Zo
  have g1:(268435456*1+r)*8+q=2147483648+s:=Zo
  have g2:r*16+(2*q+0)=2*s:=Zo
  have g3:r*16+(2*q+1)=2*s+1:=Zo
  have f1:x%536870912=268435456*t+r:=Zo
  have f2:x/536870912=q:=Zo
  have f3:x%268435456=r:=Zo
  have f4:x/268435456=2*q+t:=Zo
  exact ZD
 ·simp only[turnP,Nat.reduceSub,Nat.reduceAdd,Int.reducePow]
  have e1:x*16%4294967296=x%268435456*16:=Zo
  have e2:x*32%4294967296=x%134217728*32:=Zo
  rw[e1,e2]
  obtain⟨q,t,r,hx,ht,hr⟩: ∃q t r:Int,x=268435456*q+134217728*t+r/\(t=0\/t=1)/\0<=r/\r<134217728:=⟨x/268435456,x/134217728%2,x%134217728,Zo,Zo,Zo,Zo⟩
  have hq:0<=q/\q<16:=Zo
  obtain⟨s,hs⟩: ∃s,s=r*16+q:=⟨_,rfl⟩
  have hs1:0<=s/\s<2147483648:=Zo
  have g0:(134217728*0+r)*16+q=s:=Zo
  have g1:(134217728*1+r)*16+q=2147483648+s:=Zo
  have g2:r*32+(2*q+0)=2*s:=Zo
  have g3:r*32+(2*q+1)=2*s+1:=Zo
  have f1:x%268435456=134217728*t+r:=Zo
  have f2:x/268435456=q:=Zo
  have f3:x%134217728=r:=Zo
  have f4:x/134217728=2*q+t:=Zo
  exact ZD
 ·simp only[turnP,Nat.reduceSub,Nat.reduceAdd,Int.reducePow]
  have e1:x*32%4294967296=x%134217728*32:=Zo
  have e2:x*64%4294967296=x%67108864*64:=Zo
  rw[e1,e2]
  obtain⟨q,t,r,hx,ht,hr⟩: ∃q t r:Int,x=134217728*q+67108864*t+r/\(t=0\/t=1)/\0<=r/\r<67108864:=⟨x/134217728,x/67108864%2,x%67108864,Zo,Zo,Zo,Zo⟩
  have hq:0<=q/\q<32:=Zo
  obtain⟨s,hs⟩: ∃s,s=r*32+q:=⟨_,rfl⟩
  have hs1:0<=s/\s<2147483648:=Zo
  have g0:(67108864*0+r)*32+q=s:=Zo
  have g1:(67108864*1+r)*32+q=2147483648+s:=Zo
  have g2:r*64+(2*q+0)=2*s:=Zo
  have g3:r*64+(2*q+1)=2*s+1:=Zo
  have f1:x%134217728=67108864*t+r:=Zo
  have f2:x/134217728=q:=Zo
  have f3:x%67108864=r:=Zo
  have f4:x/67108864=2*q+t:=Zo
  exact ZD
 ·simp only[turnP,Nat.reduceSub,Nat.reduceAdd,Int.reducePow]
  have e1:x*64%4294967296=x%67108864*64:=Zo
  have e2:x*128%4294967296=x%33554432*128:=Zo
  rw[e1,e2]
  obtain⟨q,t,r,hx,ht,hr⟩: ∃q t r:Int,x=67108864*q+33554432*t+r/\(t=0\/t=1)/\0<=r/\r<33554432:=⟨x/67108864,x/33554432%2,x%33554432,Zo,Zo,Zo,Zo⟩
  have hq:0<=q/\q<64:=Zo
  obtain⟨s,hs⟩: ∃s,s=r*64+q:=⟨_,rfl⟩
  have hs1:0<=s/\s<2147483648:=Zo
  have g0:(33554432*0+r)*64+q=s:=Zo
  have g1:(33554432*1+r)*64+q=2147483648+s:=Zo
  have g2:r*128+(2*q+0)=2*s:=Zo
  have g3:r*128+(2*q+1)=2*s+1:=Zo
  have f1:x%67108864=33554432*t+r:=Zo
  have f2:x/67108864=q:=Zo
  have f3:x%33554432=r:=Zo
  have f4:x/33554432=2*q+t:=Zo
  exact ZD
 ·simp only[turnP,Nat.reduceSub,Nat.reduceAdd,Int.reducePow]
  have e1:x*128%4294967296=x%33554432*128:=Zo
  have e2:x*256%4294967296=x%16777216*256:=Zo
  rw[e1,e2]
  obtain⟨q,t,r,hx,ht,hr⟩: ∃q t r:Int,x=33554432*q+16777216*t+r/\(t=0\/t=1)/\0<=r/\r<16777216:=⟨x/33554432,x/16777216%2,x%16777216,Zo,Zo,Zo,Zo⟩
  have hq:0<=q/\q<128:=Zo
  obtain⟨s,hs⟩: ∃s,s=r*128+q:=⟨_,rfl⟩
  have hs1:0<=s/\s<2147483648:=Zo
  have g0:(16777216*0+r)*128+q=s:=Zo
  have g1:(16777216*1+r)*128+q=2147483648+s:=Zo
  have g2:r*256+(2*q+0)=2*s:=Zo
  have g3:r*256+(2*q+1)=2*s+1:=Zo
  have f1:x%33554432=16777216*t+r:=Zo
  have f2:x/33554432=q:=Zo
  have f3:x%16777216=r:=Zo
  have f4:x/16777216=2*q+t:=Zo
  exact ZD
 ·simp only[turnP,Nat.reduceSub,Nat.reduceAdd,Int.reducePow]
  have e1:x*256%4294967296=x%16777216*256:=Zo
  have e2:x*512%4294967296=x%8388608*512:=Zo
  rw[e1,e2]
  obtain⟨q,t,r,hx,ht,hr⟩: ∃q t r:Int,x=16777216*q+8388608*t+r/\(t=0\/t=1)/\0<=r/\r<8388608:=⟨x/16777216,x/8388608%2,x%8388608,Zo,Zo,Zo,Zo⟩
  have hq:0<=q/\q<256:=Zo
  obtain⟨s,hs⟩: ∃s,s=r*256+q:=⟨_,rfl⟩
  have hs1:0<=s/\s<2147483648:=Zo
  have g0:(8388608*0+r)*256+q=s:=Zo
  have g1:(8388608*1+r)*256+q=2147483648+s:=Zo
  have g2:r*512+(2*q+0)=2*s:=Zo
  have g3:r*512+(2*q+1)=2*s+1:=Zo
  have f1:x%16777216=8388608*t+r:=Zo
  have f2:x/16777216=q:=Zo
  have f3:x%8388608=r:=Zo
  have f4:x/8388608=2*q+t:=Zo
  exact ZD
 ·simp only[turnP,Nat.reduceSub,Nat.reduceAdd,Int.reducePow]
  have e1:x*512%4294967296=x%8388608*512:=Zo
  have e2:x*1024%4294967296=x%4194304*1024:=Zo
  rw[e1,e2]
  obtain⟨q,t,r,hx,ht,hr⟩: ∃q t r:Int,x=8388608*q+4194304*t+r/\(t=0\/t=1)/\0<=r/\r<4194304:=⟨x/8388608,x/4194304%2,x%4194304,Zo,Zo,Zo,Zo⟩
  have hq:0<=q/\q<512:=Zo
  obtain⟨s,hs⟩: ∃s,s=r*512+q:=⟨_,rfl⟩
  have hs1:0<=s/\s<2147483648:=Zo
  have g0:(4194304*0+r)*512+q=s:=Zo
  have g1:(4194304*1+r)*512+q=2147483648+s:=Zo
  have g2:r*1024+(2*q+0)=2*s:=Zo
  have g3:r*1024+(2*q+1)=2*s+1:=Zo
  have f1:x%8388608=4194304*t+r:=Zo
  have f2:x/8388608=q:=Zo
  have f3:x%4194304=r:=Zo
  have f4:x/4194304=2*q+t:=Zo
  exact ZD
 ·simp only[turnP,Nat.reduceSub,Nat.reduceAdd,Int.reducePow]
  have e1:x*1024%4294967296=x%4194304*1024:=Zo
  have e2:x*2048%4294967296=x%2097152*2048:=Zo
  rw[e1,e2]
  obtain⟨q,t,r,hx,ht,hr⟩: ∃q t r:Int,x=4194304*q+2097152*t+r/\(t=0\/t=1)/\0<=r/\r<2097152:=⟨x/4194304,x/2097152%2,x%2097152,Zo,Zo,Zo,Zo⟩
  have hq:0<=q/\q<1024:=Zo
  obtain⟨s,hs⟩: ∃s,s=r*1024+q:=⟨_,rfl⟩
  have hs1:0<=s/\s<2147483648:=Zo
  have g0:(2097152*0+r)*1024+q=s:=Zo
  have g1:(2097152*1+r)*1024+q=2147483648+s:=Zo
  have g2:r*2048+(2*q+0)=2*s:=Zo
  have g3:r*2048+(2*q+1)=2*s+1:=Zo
  have f1:x%4194304=2097152*t+r:=Zo
  have f2:x/4194304=q:=Zo
  have f3:x%2097152=r:=Zo
  have f4:x/2097152=2*q+t:=Zo
  exact ZD
 ·simp only[turnP,Nat.reduceSub,Nat.reduceAdd,Int.reducePow]
  have e1:x*2048%4294967296=x%2097152*2048:=Zo
  have e2:x*4096%4294967296=x%1048576*4096:=Zo
  rw[e1,e2]
  obtain⟨q,t,r,hx,ht,hr⟩: ∃q t r:Int,x=2097152*q+1048576*t+r/\(t=0\/t=1)/\0<=r/\r<1048576:=⟨x/2097152,x/1048576%2,x%1048576,Zo,Zo,Zo,Zo⟩
  have hq:0<=q/\q<2048:=Zo
  obtain⟨s,hs⟩: ∃s,s=r*2048+q:=⟨_,rfl⟩
  have hs1:0<=s/\s<2147483648:=Zo
  have g0:(1048576*0+r)*2048+q=s:=Zo
  have g1:(1048576*1+r)*2048+q=2147483648+s:=Zo
  have g2:r*4096+(2*q+0)=2*s:=Zo
  have g3:r*4096+(2*q+1)=2*s+1:=Zo
  have f1:x%2097152=1048576*t+r:=Zo
  have f2:x/2097152=q:=Zo
  have f3:x%1048576=r:=Zo
  have f4:x/1048576=2*q+t:=Zo
  exact ZD
 ·simp only[turnP,Nat.reduceSub,Nat.reduceAdd,Int.reducePow]
  have e1:x*4096%4294967296=x%1048576*4096:=Zo
  have e2:x*8192%4294967296=x%524288*8192:=Zo
  rw[e1,e2]
  obtain⟨q,t,r,hx,ht,hr⟩: ∃q t r:Int,x=1048576*q+524288*t+r/\(t=0\/t=1)/\0<=r/\r<524288:=⟨x/1048576,x/524288%2,x%524288,Zo,Zo,Zo,Zo⟩
  have hq:0<=q/\q<4096:=Zo
  obtain⟨s,hs⟩: ∃s,s=r*4096+q:=⟨_,rfl⟩
  have hs1:0<=s/\s<2147483648:=Zo
  have g0:(524288*0+r)*4096+q=s:=Zo
  have g1:(524288*1+r)*4096+q=2147483648+s:=Zo
  have g2:r*8192+(2*q+0)=2*s:=Zo
  have g3:r*8192+(2*q+1)=2*s+1:=Zo
  have f1:x%1048576=524288*t+r:=Zo
  have f2:x/1048576=q:=Zo
  have f3:x%524288=r:=Zo
  have f4:x/524288=2*q+t:=Zo
  exact ZD
 ·simp only[turnP,Nat.reduceSub,Nat.reduceAdd,Int.reducePow]
  have e1:x*8192%4294967296=x%524288*8192:=Zo
  have e2:x*16384%4294967296=x%262144*16384:=Zo
  rw[e1,e2]
  obtain⟨q,t,r,hx,ht,hr⟩: ∃q t r:Int,x=524288*q+262144*t+r/\(t=0\/t=1)/\0<=r/\r<262144:=⟨x/524288,x/262144%2,x%262144,Zo,Zo,Zo,Zo⟩
  have hq:0<=q/\q<8192:=Zo
  obtain⟨s,hs⟩: ∃s,s=r*8192+q:=⟨_,rfl⟩
  have hs1:0<=s/\s<2147483648:=Zo
  have g0:(262144*0+r)*8192+q=s:=Zo
  have g1:(262144*1+r)*8192+q=2147483648+s:=Zo
  have g2:r*16384+(2*q+0)=2*s:=Zo
  have g3:r*16384+(2*q+1)=2*s+1:=Zo
  have f1:x%524288=262144*t+r:=Zo
  have f2:x/524288=q:=Zo
  have f3:x%262144=r:=Zo
  have f4:x/262144=2*q+t:=Zo
  exact ZD
 ·simp only[turnP,Nat.reduceSub,Nat.reduceAdd,Int.reducePow]
  have e1:x*16384%4294967296=x%262144*16384:=Zo
  have e2:x*32768%4294967296=x%131072*32768:=Zo
  rw[e1,e2]
  obtain⟨q,t,r,hx,ht,hr⟩: ∃q t r:Int,x=262144*q+131072*t+r/\(t=0\/t=1)/\0<=r/\r<131072:=⟨x/262144,x/131072%2,x%131072,Zo,Zo,Zo,Zo⟩
  have hq:0<=q/\q<16384:=Zo
  obtain⟨s,hs⟩: ∃s,s=r*16384+q:=⟨_,rfl⟩
  have hs1:0<=s/\s<2147483648:=Zo
  have g0:(131072*0+r)*16384+q=s:=Zo
  have g1:(131072*1+r)*16384+q=2147483648+s:=Zo
  have g2:r*32768+(2*q+0)=2*s:=Zo
  have g3:r*32768+(2*q+1)=2*s+1:=Zo
  have f1:x%262144=131072*t+r:=Zo
  have f2:x/262144=q:=Zo
  have f3:x%131072=r:=Zo
  have f4:x/131072=2*q+t:=Zo
  exact ZD
 ·simp only[turnP,Nat.reduceSub,Nat.reduceAdd,Int.reducePow]
  have e1:x*32768%4294967296=x%131072*32768:=Zo
  have e2:x*65536%4294967296=x%65536*65536:=Zo
  rw[e1,e2]
  obtain⟨q,t,r,hx,ht,hr⟩: ∃q t r:Int,x=131072*q+65536*t+r/\(t=0\/t=1)/\0<=r/\r<65536:=⟨x/131072,x/65536%2,x%65536,Zo,Zo,Zo,Zo⟩
  have hq:0<=q/\q<32768:=Zo
  obtain⟨s,hs⟩: ∃s,s=r*32768+q:=⟨_,rfl⟩
  have hs1:0<=s/\s<2147483648:=Zo
  have g0:(65536*0+r)*32768+q=s:=Zo
  have g1:(65536*1+r)*32768+q=2147483648+s:=Zo
  have g2:r*65536+(2*q+0)=2*s:=Zo
  have g3:r*65536+(2*q+1)=2*s+1:=Zo
  have f1:x%131072=65536*t+r:=Zo
  have f2:x/131072=q:=Zo
  have f3:x%65536=r:=Zo
  have f4:x/65536=2*q+t:=Zo
  exact ZD
 ·simp only[turnP,Nat.reduceSub,Nat.reduceAdd,Int.reducePow]
  have e1:x*65536%4294967296=x%65536*65536:=Zo
  have e2:x*131072%4294967296=x%32768*131072:=Zo
  rw[e1,e2]
  obtain⟨q,t,r,hx,ht,hr⟩: ∃q t r:Int,x=65536*q+32768*t+r/\(t=0\/t=1)/\0<=r/\r<32768:=⟨x/65536,x/32768%2,x%32768,Zo,Zo,Zo,Zo⟩
  have hq:0<=q/\q<65536:=Zo
  obtain⟨s,hs⟩: ∃s,s=r*65536+q:=⟨_,rfl⟩
  have hs1:0<=s/\s<2147483648:=Zo
  have g0:(32768*0+r)*65536+q=s:=Zo
  have g1:(32768*1+r)*65536+q=2147483648+s:=Zo
  have g2:r*131072+(2*q+0)=2*s:=Zo
  have g3:r*131072+(2*q+1)=2*s+1:=Zo
  have f1:x%65536=32768*t+r:=Zo
  have f2:x/65536=q:=Zo
  have f3:x%32768=r:=Zo
  have f4:x/32768=2*q+t:=Zo
  exact ZD
 ·simp only[turnP,Nat.reduceSub,Nat.reduceAdd,Int.reducePow]
  have e1:x*131072%4294967296=x%32768*131072:=Zo
  have e2:x*262144%4294967296=x%16384*262144:=Zo
  rw[e1,e2]
  obtain⟨q,t,r,hx,ht,hr⟩: ∃q t r:Int,x=32768*q+16384*t+r/\(t=0\/t=1)/\0<=r/\r<16384:=⟨x/32768,x/16384%2,x%16384,Zo,Zo,Zo,Zo⟩
  have hq:0<=q/\q<131072:=Zo
  obtain⟨s,hs⟩: ∃s,s=r*131072+q:=⟨_,rfl⟩
  have hs1:0<=s/\s<2147483648:=Zo
  have g0:(16384*0+r)*131072+q=s:=Zo
  have g1:(16384*1+r)*131072+q=2147483648+s:=Zo
  have g2:r*262144+(2*q+0)=2*s:=Zo
  have g3:r*262144+(2*q+1)=2*s+1:=Zo
  have f1:x%32768=16384*t+r:=Zo
  have f2:x/32768=q:=Zo
  have f3:x%16384=r:=Zo
  have f4:x/16384=2*q+t:=Zo
  exact ZD
theorem Fl {x:Int}(h:U x):turnP x 0=x:=by
 unfold U at h;simp only[turnP,Nat.reduceSub,Int.reducePow];omega
theorem d78_7 (x:Int)(h:U x):(lim P0 E47 X46).dat 95 [uv x,iv 7]=some [uv (turnP x 7)]:=by
 refine fnW Tryz.func95 rfl rfl Jk rfl M5 rfl ?_
 have h88:=d88_7 x h
 clear h
 exact ZS
theorem d76_7 (x:Int)(h:U x):(lim P0 E47 X46).dat 65 [uv x,iv 7]=some [uv (turnP x 7)]:=by
 refine fnW Tryz.func65 rfl rfl Jl rfl M6 rfl ?_
 have hx0:IntKind.u64.wrap x=x:=by rw[IntKind.wrap_u64];unfold U at h;omega
 have hh:=Lib.hid h
 clear h
 repeat' (first|refine ZN ?_|refine Z2 ?_ ?_|(intro h h';try simp[*,-h] at h'))
 refine Ag (n:=7) (fun s0 m s=> ∃i:Nat,m=7 - i/\i<=7/\s.fr 7=iv i/\s.fr 6= .sc (.int .u64 (turnP x i))/\s.fr 5=s0.fr 5) ⟨0,Zi,Zo,Zi,by simp[Fl hh.out,hx0],Zi⟩ ?_
 rintro m ⟨fr,hp⟩ ⟨i,rfl,hi,hs7,hs6,hs5⟩
 simp at hs7 hs6 hs5
 have hy:=M4 hh.out i Zo
 by_cases hlt:i<7
 ·have hw:=wrapN (k:=i) Zo
  have hlI:(i:Int)<7:=Zo
  have hst:=Lib.hid (Fm hh.out i Zo)
  generalize turnP x i=y at*
  have m1:IntKind.u64.wrap (2*y)=2*y:=by rw[IntKind.wrap_u64];unfold U at hy;omega
  have m2:(2*y).tmod 4294967296=2*y%4294967296:=Int.tmod_eq_emod_of_nonneg (by unfold U at hy;omega)
  have m3:y.tdiv 2147483648=y/2147483648:=Int.tdiv_eq_ediv_of_nonneg hy.1
  have m4:IntKind.u64.wrap (y/2147483648)=y/2147483648:=by rw[IntKind.wrap_u64];unfold U at hy;omega
  have m5:IntKind.u64.wrap (2*y%4294967296+y/2147483648)=2*y%4294967296+y/2147483648:=by rw[IntKind.wrap_u64];unfold U at hy;omega
  clear hy
  repeat' (first|refine ZN ?_|refine Z2 ?_ ?_|(intro h h';try simp[*,-h] at h'))
  all_goals exact⟨_,Zo,i+1,rfl,hlt,Zm,by rw[<-hst.out];simp[*],Zm⟩
 ·obtain rfl:i=7:=Zo
  have m1:IntKind.u32.wrap (turnP x 7)=turnP x 7:=by rw[IntKind.wrap_u32];unfold U at hy;omega
  clear hy
  exact ZS
theorem d78_9 (x:Int)(h:U x):(lim P0 E47 X46).dat 95 [uv x,iv 9]=some [uv (turnP x 9)]:=by
 refine fnW Tryz.func95 rfl rfl Jk rfl M5 rfl ?_
 have h88:=d88_9 x h
 clear h
 exact ZS
theorem d76_9 (x:Int)(h:U x):(lim P0 E47 X46).dat 65 [uv x,iv 9]=some [uv (turnP x 9)]:=by
 refine fnW Tryz.func65 rfl rfl Jl rfl M6 rfl ?_
 have hx0:IntKind.u64.wrap x=x:=by rw[IntKind.wrap_u64];unfold U at h;omega
 have hh:=Lib.hid h
 clear h
 repeat' (first|refine ZN ?_|refine Z2 ?_ ?_|(intro h h';try simp[*,-h] at h'))
 refine Ag (n:=9) (fun s0 m s=> ∃i:Nat,m=9 - i/\i<=9/\s.fr 7=iv i/\s.fr 6= .sc (.int .u64 (turnP x i))/\s.fr 5=s0.fr 5) ⟨0,Zi,Zo,Zi,by simp[Fl hh.out,hx0],Zi⟩ ?_
 rintro m ⟨fr,hp⟩ ⟨i,rfl,hi,hs7,hs6,hs5⟩
 simp at hs7 hs6 hs5
 have hy:=M4 hh.out i Zo
 by_cases hlt:i<9
 ·have hw:=wrapN (k:=i) Zo
  have hlI:(i:Int)<9:=Zo
  have hst:=Lib.hid (Fm hh.out i Zo)
  generalize turnP x i=y at*
  have m1:IntKind.u64.wrap (2*y)=2*y:=by rw[IntKind.wrap_u64];unfold U at hy;omega
  have m2:(2*y).tmod 4294967296=2*y%4294967296:=Int.tmod_eq_emod_of_nonneg (by unfold U at hy;omega)
  have m3:y.tdiv 2147483648=y/2147483648:=Int.tdiv_eq_ediv_of_nonneg hy.1
  have m4:IntKind.u64.wrap (y/2147483648)=y/2147483648:=by rw[IntKind.wrap_u64];unfold U at hy;omega
  have m5:IntKind.u64.wrap (2*y%4294967296+y/2147483648)=2*y%4294967296+y/2147483648:=by rw[IntKind.wrap_u64];unfold U at hy;omega
  clear hy
  repeat' (first|refine ZN ?_|refine Z2 ?_ ?_|(intro h h';try simp[*,-h] at h'))
  all_goals exact⟨_,Zo,i+1,rfl,hlt,Zm,by rw[<-hst.out];simp[*],Zm⟩
 ·obtain rfl:i=9:=Zo
  have m1:IntKind.u32.wrap (turnP x 9)=turnP x 9:=by rw[IntKind.wrap_u32];unfold U at hy;omega
  clear hy
  exact ZS
theorem d78_13 (x:Int)(h:U x):(lim P0 E47 X46).dat 95 [uv x,iv 13]=some [uv (turnP x 13)]:=by
 refine fnW Tryz.func95 rfl rfl Jk rfl M5 rfl ?_
 have h88:=d88_13 x h
 clear h
 exact ZS
theorem d76_13 (x:Int)(h:U x):(lim P0 E47 X46).dat 65 [uv x,iv 13]=some [uv (turnP x 13)]:=by
 refine fnW Tryz.func65 rfl rfl Jl rfl M6 rfl ?_
 have hx0:IntKind.u64.wrap x=x:=by rw[IntKind.wrap_u64];unfold U at h;omega
 have hh:=Lib.hid h
 clear h
 repeat' (first|refine ZN ?_|refine Z2 ?_ ?_|(intro h h';try simp[*,-h] at h'))
 refine Ag (n:=13) (fun s0 m s=> ∃i:Nat,m=13 - i/\i<=13/\s.fr 7=iv i/\s.fr 6= .sc (.int .u64 (turnP x i))/\s.fr 5=s0.fr 5) ⟨0,Zi,Zo,Zi,by simp[Fl hh.out,hx0],Zi⟩ ?_
 rintro m ⟨fr,hp⟩ ⟨i,rfl,hi,hs7,hs6,hs5⟩
 simp at hs7 hs6 hs5
 have hy:=M4 hh.out i Zo
 by_cases hlt:i<13
 ·have hw:=wrapN (k:=i) Zo
  have hlI:(i:Int)<13:=Zo
  have hst:=Lib.hid (Fm hh.out i Zo)
  generalize turnP x i=y at*
  have m1:IntKind.u64.wrap (2*y)=2*y:=by rw[IntKind.wrap_u64];unfold U at hy;omega
  have m2:(2*y).tmod 4294967296=2*y%4294967296:=Int.tmod_eq_emod_of_nonneg (by unfold U at hy;omega)
  have m3:y.tdiv 2147483648=y/2147483648:=Int.tdiv_eq_ediv_of_nonneg hy.1
  have m4:IntKind.u64.wrap (y/2147483648)=y/2147483648:=by rw[IntKind.wrap_u64];unfold U at hy;omega
  have m5:IntKind.u64.wrap (2*y%4294967296+y/2147483648)=2*y%4294967296+y/2147483648:=by rw[IntKind.wrap_u64];unfold U at hy;omega
  clear hy
  repeat' (first|refine ZN ?_|refine Z2 ?_ ?_|(intro h h';try simp[*,-h] at h'))
  all_goals exact⟨_,Zo,i+1,rfl,hlt,Zm,by rw[<-hst.out];simp[*],Zm⟩
 ·obtain rfl:i=13:=Zo
  have m1:IntKind.u32.wrap (turnP x 13)=turnP x 13:=by rw[IntKind.wrap_u32];unfold U at hy;omega
  clear hy
  exact ZS
theorem d78_18 (x:Int)(h:U x):(lim P0 E47 X46).dat 95 [uv x,iv 18]=some [uv (turnP x 18)]:=by
 refine fnW Tryz.func95 rfl rfl Jk rfl M5 rfl ?_
 have h88:=d88_18 x h
 clear h
 exact ZS
theorem d76_18 (x:Int)(h:U x):(lim P0 E47 X46).dat 65 [uv x,iv 18]=some [uv (turnP x 18)]:=by
 refine fnW Tryz.func65 rfl rfl Jl rfl M6 rfl ?_
 have hx0:IntKind.u64.wrap x=x:=by rw[IntKind.wrap_u64];unfold U at h;omega
 have hh:=Lib.hid h
 clear h
 repeat' (first|refine ZN ?_|refine Z2 ?_ ?_|(intro h h';try simp[*,-h] at h'))
 refine Ag (n:=18) (fun s0 m s=> ∃i:Nat,m=18 - i/\i<=18/\s.fr 7=iv i/\s.fr 6= .sc (.int .u64 (turnP x i))/\s.fr 5=s0.fr 5) ⟨0,Zi,Zo,Zi,by simp[Fl hh.out,hx0],Zi⟩ ?_
 rintro m ⟨fr,hp⟩ ⟨i,rfl,hi,hs7,hs6,hs5⟩
 simp at hs7 hs6 hs5
 have hy:=M4 hh.out i Zo
 by_cases hlt:i<18
 ·have hw:=wrapN (k:=i) Zo
  have hlI:(i:Int)<18:=Zo
  have hst:=Lib.hid (Fm hh.out i Zo)
  generalize turnP x i=y at*
  have m1:IntKind.u64.wrap (2*y)=2*y:=by rw[IntKind.wrap_u64];unfold U at hy;omega
  have m2:(2*y).tmod 4294967296=2*y%4294967296:=Int.tmod_eq_emod_of_nonneg (by unfold U at hy;omega)
  have m3:y.tdiv 2147483648=y/2147483648:=Int.tdiv_eq_ediv_of_nonneg hy.1
  have m4:IntKind.u64.wrap (y/2147483648)=y/2147483648:=by rw[IntKind.wrap_u64];unfold U at hy;omega
  have m5:IntKind.u64.wrap (2*y%4294967296+y/2147483648)=2*y%4294967296+y/2147483648:=by rw[IntKind.wrap_u64];unfold U at hy;omega
  clear hy
  repeat' (first|refine ZN ?_|refine Z2 ?_ ?_|(intro h h';try simp[*,-h] at h'))
  all_goals exact⟨_,Zo,i+1,rfl,hlt,Zm,by rw[<-hst.out];simp[*],Zm⟩
 ·obtain rfl:i=18:=Zo
  have m1:IntKind.u32.wrap (turnP x 18)=turnP x 18:=by rw[IntKind.wrap_u32];unfold U at hy;omega
  clear hy
  exact ZS
end
section
open Go Go.Ab
attribute [-simp] Prog.bind getCs putCs
attribute [local simp ↓] run_bind
attribute [local simp ↓] Au
attribute [local simp] Ar Am facetsC Ax At Bf facetsW facetsH
attribute [local simp ↓] Lu Oo Hd
@[simp] theorem wrap_3 :IntKind.i64.wrap 3=3:=by decide+kernel
@[simp] theorem wrap_4 :IntKind.i64.wrap 4=4:=by decide+kernel
@[simp] theorem wrap_5 :IntKind.i64.wrap 5=5:=by decide+kernel
@[simp] theorem wrap_6 :IntKind.i64.wrap 6=6:=by decide+kernel
@[simp] theorem wrap_7 :IntKind.i64.wrap 7=7:=by decide+kernel
@[simp] theorem wrap_8 :IntKind.i64.wrap 8=8:=by decide+kernel
@[simp] theorem wrap_9 :IntKind.i64.wrap 9=9:=by decide+kernel
@[simp] theorem wrap_10 :IntKind.i64.wrap 10=10:=by decide+kernel
@[simp] theorem wrap_11 :IntKind.i64.wrap 11=11:=by decide+kernel
@[simp] theorem wrap_12 :IntKind.i64.wrap 12=12:=by decide+kernel
attribute [local simp] globT
structure S8 where
 a0:Int
 a1:Int
 a2:Int
 a3:Int
 a4:Int
 a5:Int
 a6:Int
 a7:Int
abbrev wrapU (x:Int):Int:=IntKind.u32.wrap x
def rnd (k:Int)(s:S8):S8:=
 ⟨wrapU (s.a3+s.a7),turnP (xorW s.a4 (wrapU (wrapU (s.a0+wrapU (2654435769*(k+1)))+s.a4))) 7,turnP (xorW s.a5 (wrapU (s.a1+s.a5))) 9,turnP (xorW s.a6 (wrapU (s.a2+s.a6))) 13,
  turnP (xorW s.a7 (wrapU (s.a3+s.a7))) 18,wrapU (wrapU (s.a0+wrapU (2654435769*(k+1)))+s.a4),wrapU (s.a1+s.a5),wrapU (s.a2+s.a6)⟩
def mixN :Nat->S8->S8
 |0,s=>s
 |k+1,s=>rnd k (mixN k s)
def S8.row (s:S8):List AV:=[uv s.a0,uv s.a1,uv s.a2,uv s.a3,uv s.a4,uv s.a5,uv s.a6,uv s.a7]
theorem d66 (s:S8):(lim P0 E47 X46).dat 59 [.agg s.row]=some [.agg (mixN 8 s).row]:=by
 refine fnW Tryz.func59 rfl rfl F3a rfl rtys_59 rfl ?_
 have t7: ∀a b,(lim P0 E47 X46).dat 95 [uv (xorW a b),iv 7]=some [uv (turnP (xorW a b) 7)]:=fun a b=>d78_7 _ (Gn a b)
 have t9: ∀a b,(lim P0 E47 X46).dat 95 [uv (xorW a b),iv 9]=some [uv (turnP (xorW a b) 9)]:=fun a b=>d78_9 _ (Gn a b)
 have t13: ∀a b,(lim P0 E47 X46).dat 95 [uv (xorW a b),iv 13]=some [uv (turnP (xorW a b) 13)]:=fun a b=>d78_13 _ (Gn a b)
 have t18: ∀a b,(lim P0 E47 X46).dat 95 [uv (xorW a b),iv 18]=some [uv (turnP (xorW a b) 18)]:=fun a b=>d78_18 _ (Gn a b)
 unfold S8.row
 repeat' (first|refine ZN ?_|refine Z2 ?_ ?_|(intro h h';try simp[*,-h] at h'))
 refine Ag (n:=8) (fun s0 m q=> ∃k:Nat,m=8 - k/\k<=8/\q.fr 3=uv k/\q.hp ⟨0,1,0⟩= .box 1 (mixN k s).row false/\q.fr 1=s0.fr 1/\q.fr 2=s0.fr 2/\q.hp ⟨0,2,0⟩=s0.hp ⟨0,2,0⟩) ⟨0,Zi,Zo,Zi,by simp[mixN,S8.row],Zi,Zi,Zi⟩ ?_
 rintro m ⟨fr,hp⟩ ⟨k,rfl,hk,hs,hh1,hk1,hk2,hh2⟩
 simp at hs hk1 hk2 hh2
 simp only at hh1
 by_cases hlt:k<8
 ·have hw:IntKind.u32.wrap ((k:Int)+1)=(k:Int)+1:=by rw[IntKind.wrap_u32];omega
  have hlI:(k:Int)<8:=Zo
  have hm:mixN (k+1) s=rnd k (mixN k s):=rfl
  have hm':=Lib.hid hm
  clear hm
  generalize mixN k s=z at*
  obtain⟨x0,x1,x2,x3,x4,x5,x6,x7⟩:=z
  simp only[S8.row] at hh1
  repeat' (first|refine ZN ?_|refine Z2 ?_ ?_|(intro h h';try simp[*,-h] at h')|with_reducible apply Fi|fail)
  all_goals exact⟨_,Zo,k+1,rfl,hlt,Zm,by rw[hm'.out];simp[S8.row,rnd],Zm,Zm,Zm⟩
 ·obtain rfl:k=8:=Zo
  generalize mixN 8 s=z at*
  obtain⟨x0,x1,x2,x3,x4,x5,x6,x7⟩:=z
  simp only[S8.row] at hh1
  exact ZS
theorem d75 :(lim P0 E47 X46).dat 64 []=some [.agg [iv 7,iv 9,iv 13,iv 18]]:=lim_dat.2 ⟨10,Zf⟩
theorem d60 (s:S8):(lim P0 E47 X46).dat 41 [.agg s.row]=some [.agg (mixN 8 s).row]:=by
 refine fnW Tryz.func41 rfl rfl Gca rfl rtys_41 rfl ?_
 have t7: ∀a b,(lim P0 E47 X46).dat 65 [uv (xorW a b),iv 7]=some [uv (turnP (xorW a b) 7)]:=fun a b=>d76_7 _ (Gn a b)
 have t9: ∀a b,(lim P0 E47 X46).dat 65 [uv (xorW a b),iv 9]=some [uv (turnP (xorW a b) 9)]:=fun a b=>d76_9 _ (Gn a b)
 have t13: ∀a b,(lim P0 E47 X46).dat 65 [uv (xorW a b),iv 13]=some [uv (turnP (xorW a b) 13)]:=fun a b=>d76_13 _ (Gn a b)
 have t18: ∀a b,(lim P0 E47 X46).dat 65 [uv (xorW a b),iv 18]=some [uv (turnP (xorW a b) 18)]:=fun a b=>d76_18 _ (Gn a b)
 have h75:=d75
 unfold S8.row
 repeat' (first|refine ZN ?_|refine Z2 ?_ ?_|(intro h h';try simp[*,-h] at h'))
 refine Ag (n:=8) (fun s0 m q=> ∃k:Nat,m=8 - k/\k<=8/\q.fr 4=iv k/\q.hp ⟨0,1,0⟩= .box 1 (mixN k s).row false/\q.fr 1=s0.fr 1/\q.fr 2=s0.fr 2/\q.hp ⟨0,2,0⟩=s0.hp ⟨0,2,0⟩/\q.fr 3=s0.fr 3/\q.hp ⟨0,3,0⟩=s0.hp ⟨0,3,0⟩) ⟨0,Zi,Zo,Zi,by simp[mixN,S8.row],Zi,Zi,Zi,Zi,Zi⟩ ?_
 rintro m ⟨fr,hp⟩ ⟨k,rfl,hk,hs,hh1,hk1,hk2,hh2,hk3,hh3⟩
 simp at hs hk1 hk2 hh2 hk3 hh3
 simp only at hh1
 by_cases hlt:k<8
 ·have hw:IntKind.u32.wrap ((k:Int)+1)=(k:Int)+1:=by rw[IntKind.wrap_u32];omega
  have hw2:=wrapN (k:=k) Zo
  have hlI:(k:Int)<8:=Zo
  have hm:mixN (k+1) s=rnd k (mixN k s):=rfl
  have hm':=Lib.hid hm
  clear hm
  generalize mixN k s=z at*
  obtain⟨x0,x1,x2,x3,x4,x5,x6,x7⟩:=z
  simp only[S8.row] at hh1
  repeat' (first|refine ZN ?_|refine Z2 ?_ ?_|(intro h h';try simp[*,-h] at h')|with_reducible apply Fi|fail)
  all_goals exact⟨_,Zo,k+1,rfl,hlt,Zm,by rw[hm'.out];simp[S8.row,rnd],Zm,Zm,Zm,Zm,Zm⟩
 ·obtain rfl:k=8:=Zo
  generalize mixN 8 s=z at*
  obtain⟨x0,x1,x2,x3,x4,x5,x6,x7⟩:=z
  simp only[S8.row] at hh1
  exact ZS
end
section
open Go Go.Ab
attribute [-simp] Prog.bind getCs putCs
attribute [local simp ↓] run_bind
attribute [local simp ↓] Au
attribute [local simp] Ar Am facetsC Ax At Bf facetsW facetsH
attribute [local simp ↓] Lu Oo Hd
structure D4 where
 d0:Int
 d1:Int
 d2:Int
 d3:Int
deriving DecidableEq
def D4.row (d:D4):List AV:=[uv d.d0,uv d.d1,uv d.d2,uv d.d3]
def takeP (s:S8)(b:D4):S8:=mixN 8 ⟨xorW s.a0 b.d0,xorW s.a1 b.d1,xorW s.a2 b.d2,xorW s.a3 b.d3,s.a4,s.a5,s.a6,s.a7⟩
def front (s:S8):D4:=⟨s.a0,s.a1,s.a2,s.a3⟩
theorem d51 (s:S8)(b:D4):(lim P0 E47 X46).dat 31 [.agg s.row,.agg b.row]=some [.agg (takeP s b).row]:=by
 refine fnW Tryz.func31 rfl rfl Gha rfl rtys_31 rfl ?_
 obtain⟨x0,x1,x2,x3,x4,x5,x6,x7⟩:=s
 obtain⟨b0,b1,b2,b3⟩:=b
 have hm:=d66 ⟨xorW x0 b0,xorW x1 b1,xorW x2 b2,xorW x3 b3,x4,x5,x6,x7⟩
 unfold takeP
 simp only
 generalize mixN 8 ⟨xorW x0 b0,xorW x1 b1,xorW x2 b2,xorW x3 b3,x4,x5,x6,x7⟩=z at*
 obtain⟨z0,z1,z2,z3,z4,z5,z6,z7⟩:=z
 simp only[S8.row] at hm
 simp only[S8.row,D4.row]
 repeat' (first|refine ZN ?_|refine Z2 ?_ ?_|(intro h h';try simp[*,-h] at h')|with_reducible apply Fi|fail)
 all_goals rfl
theorem d45 (s:S8)(b:D4):(lim P0 E47 X46).dat 18 [.agg s.row,.agg b.row]=some [.agg (takeP s b).row]:=by
 refine fnW Tryz.func18 rfl rfl Gna rfl rtys_18 rfl ?_
 obtain⟨x0,x1,x2,x3,x4,x5,x6,x7⟩:=s
 obtain⟨b0,b1,b2,b3⟩:=b
 have hm:=d60 ⟨xorW x0 b0,xorW x1 b1,xorW x2 b2,xorW x3 b3,x4,x5,x6,x7⟩
 unfold takeP
 simp only
 generalize mixN 8 ⟨xorW x0 b0,xorW x1 b1,xorW x2 b2,xorW x3 b3,x4,x5,x6,x7⟩=z at*
 obtain⟨z0,z1,z2,z3,z4,z5,z6,z7⟩:=z
 simp only[S8.row] at hm
 simp only[S8.row,D4.row]
 repeat' (first|refine ZN ?_|refine Z2 ?_ ?_|(intro h h';try simp[*,-h] at h')|with_reducible apply Fi|fail)
 all_goals rfl
theorem d50 (s:S8):(lim P0 E47 X46).dat 34 [.agg s.row]=some [.agg (front s).row]:=by
 refine fnW Tryz.func34 rfl rfl Gfa rfl rtys_34 rfl ?_
 obtain⟨x0,x1,x2,x3,x4,x5,x6,x7⟩:=s
 simp only[S8.row,D4.row,front]
 exact ZS
theorem Kq (a b c d:UInt8):orW (orW (orW (a.toNat:Int) (b.toNat*256)) (c.toNat*65536)) (d.toNat*16777216)=(a.toNat:Int)+256*b.toNat+65536*c.toNat+16777216*d.toNat:=by
 have ha:=a.toNat_lt
 have hb:=b.toNat_lt
 have hc:=c.toNat_lt
 have hd:=d.toNat_lt
 have c1:(b.toNat:Int)*256=((b.toNat*256:Nat):Int):=Zo
 have c2:(c.toNat:Int)*65536=((c.toNat*65536:Nat):Int):=Zo
 have c3:(d.toNat:Int)*16777216=((d.toNat*16777216:Nat):Int):=Zo
 have o1:=Eg (x:=a.toNat) (y:=b.toNat) 8 Zo
 have o2:=Eg (x:=a.toNat+b.toNat*256) (y:=c.toNat) 16 Zo
 have o3:=Eg (x:=a.toNat+b.toNat*256+c.toNat*65536) (y:=d.toNat) 24 Zo
 rw[show(2:Nat)^8=256 from rfl] at o1
 rw[show(2:Nat)^16=65536 from rfl] at o2
 rw[show(2:Nat)^24=16777216 from rfl] at o3
 rw[c1,c2,c3,Fs Zo Zo,o1,Fs Zo Zo,o2,Fs Zo Zo,o3]
 omega
def four (s:ByteArray)(i:Nat):D4:=⟨wordAt s i,wordAt s (i+4),wordAt s (i+8),wordAt s (i+12)⟩
@[simp] theorem shl8 (w:Int):w*2^min 8 IntKind.u32.bits=w*256:=by rw[show(2:Int)^min 8 IntKind.u32.bits=256 from by decide+kernel]
@[simp] theorem shl16 (w:Int):w*2^min 16 IntKind.u32.bits=w*65536:=by rw[show(2:Int)^min 16 IntKind.u32.bits=65536 from by decide+kernel]
@[simp] theorem shl24 (w:Int):w*2^min 24 IntKind.u32.bits=w*16777216:=by rw[show(2:Int)^min 24 IntKind.u32.bits=16777216 from by decide+kernel]
def w4 (s:ByteArray)(i:Nat):Nat->List AV
 |0=>[uv 0,uv 0,uv 0,uv 0]
 |1=>[uv (wordAt s i),uv 0,uv 0,uv 0]
 |2=>[uv (wordAt s i),uv (wordAt s (i+4)),uv 0,uv 0]
 |3=>[uv (wordAt s i),uv (wordAt s (i+4)),uv (wordAt s (i+8)),uv 0]
 |_=>[uv (wordAt s i),uv (wordAt s (i+4)),uv (wordAt s (i+8)),uv (wordAt s (i+12))]
theorem d52 (s:ByteArray)(at_:Nat)(hs:s.size<=1048576)(ha:at_+16<=s.size):(lim P0 E47 X46).dat 32 [.sc (.string s),iv at_]=some [.agg (four s at_).row]:=by
 refine fnW Tryz.func32 rfl rfl Gga rfl rtys_32 rfl ?_
 repeat' (first|refine ZN ?_|refine Z2 ?_ ?_|(intro h h';try simp[*,-h] at h'))
 refine Ag (n:=4) (fun s0 m q=> ∃k:Nat,m=4 - k/\k<=4/\q.fr 8=iv k/\q.hp ⟨0,5,0⟩= .box 1 (w4 s at_ k) false/\q.fr 0=s0.fr 0/\q.fr 1=s0.fr 1/\q.fr 4=s0.fr 4/\q.fr 5=s0.fr 5/\q.hp ⟨0,4,0⟩=s0.hp ⟨0,4,0⟩) ⟨0,Zi,Zo,Zi,by simp[w4],Zi,Zi,Zi,Zi,Zi⟩ ?_
 rintro m ⟨fr,hp⟩ ⟨k,rfl,hk,hs8,hh5,hs0,hs1,hs4,hs5,hh4⟩
 simp at hs8 hs0 hs1 hs4 hs5 hh4
 simp only at hh5
 have hk4:k=0\/k=1\/k=2\/k=3\/k=4:=Zo
 rcases hk4 with rfl|rfl|rfl|rfl|rfl
 ·simp only[w4] at hh5
  obtain⟨b,hb⟩: ∃b:Nat,b=at_+0:=⟨_,rfl⟩
  have wb:IntKind.i64.wrap ((b:Int))=b:=by rw[Ad Zo Zo];try omega
  have wz:at_=b:=Zo
  obtain⟨B0,h0,e0⟩:=A0 (s:=s) (i:=b) Zo
  have v0:=B0.toNat_lt
  have u0:IntKind.u32.wrap (B0.toNat:Int)=B0.toNat:=by rw[IntKind.wrap_u32];omega
  obtain⟨B1,h1,e1⟩:=A0 (s:=s) (i:=b+1) Zo
  have v1:=B1.toNat_lt
  have u1:IntKind.u32.wrap (B1.toNat:Int)=B1.toNat:=by rw[IntKind.wrap_u32];omega
  have w1:IntKind.i64.wrap ((b:Int)+1)=(b:Int)+1:=Ad Zo Zo
  have p1:(0:Int)<=(b:Int)+1:=Zo
  have t1:((b:Int)+1).toNat=b+1:=Zo
  have s1:IntKind.u32.wrap ((B1.toNat:Int)*256)=B1.toNat*256:=by rw[IntKind.wrap_u32];omega
  obtain⟨B2,h2,e2⟩:=A0 (s:=s) (i:=b+2) Zo
  have v2:=B2.toNat_lt
  have u2:IntKind.u32.wrap (B2.toNat:Int)=B2.toNat:=by rw[IntKind.wrap_u32];omega
  have w2:IntKind.i64.wrap ((b:Int)+2)=(b:Int)+2:=Ad Zo Zo
  have p2:(0:Int)<=(b:Int)+2:=Zo
  have t2:((b:Int)+2).toNat=b+2:=Zo
  have s2:IntKind.u32.wrap ((B2.toNat:Int)*65536)=B2.toNat*65536:=by rw[IntKind.wrap_u32];omega
  obtain⟨B3,h3,e3⟩:=A0 (s:=s) (i:=b+3) Zo
  have v3:=B3.toNat_lt
  have u3:IntKind.u32.wrap (B3.toNat:Int)=B3.toNat:=by rw[IntKind.wrap_u32];omega
  have w3:IntKind.i64.wrap ((b:Int)+3)=(b:Int)+3:=Ad Zo Zo
  have p3:(0:Int)<=(b:Int)+3:=Zo
  have t3:((b:Int)+3).toNat=b+3:=Zo
  have s3:IntKind.u32.wrap ((B3.toNat:Int)*16777216)=B3.toNat*16777216:=by rw[IntKind.wrap_u32];omega
  have o:orW (orW (orW (B0.toNat:Int) (B1.toNat*256)) (B2.toNat*65536)) (B3.toNat*16777216)=wordAt s b:=by
   rw[Kq B0 B1 B2 B3]
   unfold wordAt
   rw[<-e0,<-e1,<-e2,<-e3]
  clear e0 e1 e2 e3 v0 v1 v2 v3 hb ha hs
  repeat' (first|refine ZN ?_|refine Z2 ?_ ?_|(intro h h';try simp[*,-h] at h'))
  all_goals exact⟨_,Zo,1,rfl,Zo,Zm,by simp[*,w4],Zm,Zm,Zm,Zm,Zm⟩
 ·simp only[w4] at hh5
  obtain⟨b,hb⟩: ∃b:Nat,b=at_+4:=⟨_,rfl⟩
  have wb:IntKind.i64.wrap ((at_:Int)+4)=b:=by rw[Ad Zo Zo];try omega
  have wz:at_+4=b:=Zo
  obtain⟨B0,h0,e0⟩:=A0 (s:=s) (i:=b) Zo
  have v0:=B0.toNat_lt
  have u0:IntKind.u32.wrap (B0.toNat:Int)=B0.toNat:=by rw[IntKind.wrap_u32];omega
  obtain⟨B1,h1,e1⟩:=A0 (s:=s) (i:=b+1) Zo
  have v1:=B1.toNat_lt
  have u1:IntKind.u32.wrap (B1.toNat:Int)=B1.toNat:=by rw[IntKind.wrap_u32];omega
  have w1:IntKind.i64.wrap ((b:Int)+1)=(b:Int)+1:=Ad Zo Zo
  have p1:(0:Int)<=(b:Int)+1:=Zo
  have t1:((b:Int)+1).toNat=b+1:=Zo
  have s1:IntKind.u32.wrap ((B1.toNat:Int)*256)=B1.toNat*256:=by rw[IntKind.wrap_u32];omega
  obtain⟨B2,h2,e2⟩:=A0 (s:=s) (i:=b+2) Zo
  have v2:=B2.toNat_lt
  have u2:IntKind.u32.wrap (B2.toNat:Int)=B2.toNat:=by rw[IntKind.wrap_u32];omega
  have w2:IntKind.i64.wrap ((b:Int)+2)=(b:Int)+2:=Ad Zo Zo
  have p2:(0:Int)<=(b:Int)+2:=Zo
  have t2:((b:Int)+2).toNat=b+2:=Zo
  have s2:IntKind.u32.wrap ((B2.toNat:Int)*65536)=B2.toNat*65536:=by rw[IntKind.wrap_u32];omega
  obtain⟨B3,h3,e3⟩:=A0 (s:=s) (i:=b+3) Zo
  have v3:=B3.toNat_lt
  have u3:IntKind.u32.wrap (B3.toNat:Int)=B3.toNat:=by rw[IntKind.wrap_u32];omega
  have w3:IntKind.i64.wrap ((b:Int)+3)=(b:Int)+3:=Ad Zo Zo
  have p3:(0:Int)<=(b:Int)+3:=Zo
  have t3:((b:Int)+3).toNat=b+3:=Zo
  have s3:IntKind.u32.wrap ((B3.toNat:Int)*16777216)=B3.toNat*16777216:=by rw[IntKind.wrap_u32];omega
  have o:orW (orW (orW (B0.toNat:Int) (B1.toNat*256)) (B2.toNat*65536)) (B3.toNat*16777216)=wordAt s b:=by
   rw[Kq B0 B1 B2 B3]
   unfold wordAt
   rw[<-e0,<-e1,<-e2,<-e3]
  clear e0 e1 e2 e3 v0 v1 v2 v3 hb ha hs
  repeat' (first|refine ZN ?_|refine Z2 ?_ ?_|(intro h h';try simp[*,-h] at h'))
  all_goals exact⟨_,Zo,2,rfl,Zo,Zm,by simp[*,w4],Zm,Zm,Zm,Zm,Zm⟩
 ·simp only[w4] at hh5
  obtain⟨b,hb⟩: ∃b:Nat,b=at_+8:=⟨_,rfl⟩
  have wb:IntKind.i64.wrap ((at_:Int)+8)=b:=by rw[Ad Zo Zo];try omega
  have wz:at_+8=b:=Zo
  obtain⟨B0,h0,e0⟩:=A0 (s:=s) (i:=b) Zo
  have v0:=B0.toNat_lt
  have u0:IntKind.u32.wrap (B0.toNat:Int)=B0.toNat:=by rw[IntKind.wrap_u32];omega
  obtain⟨B1,h1,e1⟩:=A0 (s:=s) (i:=b+1) Zo
  have v1:=B1.toNat_lt
  have u1:IntKind.u32.wrap (B1.toNat:Int)=B1.toNat:=by rw[IntKind.wrap_u32];omega
  have w1:IntKind.i64.wrap ((b:Int)+1)=(b:Int)+1:=Ad Zo Zo
  have p1:(0:Int)<=(b:Int)+1:=Zo
  have t1:((b:Int)+1).toNat=b+1:=Zo
  have s1:IntKind.u32.wrap ((B1.toNat:Int)*256)=B1.toNat*256:=by rw[IntKind.wrap_u32];omega
  obtain⟨B2,h2,e2⟩:=A0 (s:=s) (i:=b+2) Zo
  have v2:=B2.toNat_lt
  have u2:IntKind.u32.wrap (B2.toNat:Int)=B2.toNat:=by rw[IntKind.wrap_u32];omega
  have w2:IntKind.i64.wrap ((b:Int)+2)=(b:Int)+2:=Ad Zo Zo
  have p2:(0:Int)<=(b:Int)+2:=Zo
  have t2:((b:Int)+2).toNat=b+2:=Zo
  have s2:IntKind.u32.wrap ((B2.toNat:Int)*65536)=B2.toNat*65536:=by rw[IntKind.wrap_u32];omega
  obtain⟨B3,h3,e3⟩:=A0 (s:=s) (i:=b+3) Zo
  have v3:=B3.toNat_lt
  have u3:IntKind.u32.wrap (B3.toNat:Int)=B3.toNat:=by rw[IntKind.wrap_u32];omega
  have w3:IntKind.i64.wrap ((b:Int)+3)=(b:Int)+3:=Ad Zo Zo
  have p3:(0:Int)<=(b:Int)+3:=Zo
  have t3:((b:Int)+3).toNat=b+3:=Zo
  have s3:IntKind.u32.wrap ((B3.toNat:Int)*16777216)=B3.toNat*16777216:=by rw[IntKind.wrap_u32];omega
  have o:orW (orW (orW (B0.toNat:Int) (B1.toNat*256)) (B2.toNat*65536)) (B3.toNat*16777216)=wordAt s b:=by
   rw[Kq B0 B1 B2 B3]
   unfold wordAt
   rw[<-e0,<-e1,<-e2,<-e3]
  clear e0 e1 e2 e3 v0 v1 v2 v3 hb ha hs
  repeat' (first|refine ZN ?_|refine Z2 ?_ ?_|(intro h h';try simp[*,-h] at h'))
  all_goals exact⟨_,Zo,3,rfl,Zo,Zm,by simp[*,w4],Zm,Zm,Zm,Zm,Zm⟩
 ·simp only[w4] at hh5
  obtain⟨b,hb⟩: ∃b:Nat,b=at_+12:=⟨_,rfl⟩
  have wb:IntKind.i64.wrap ((at_:Int)+12)=b:=by rw[Ad Zo Zo];try omega
  have wz:at_+12=b:=Zo
  obtain⟨B0,h0,e0⟩:=A0 (s:=s) (i:=b) Zo
  have v0:=B0.toNat_lt
  have u0:IntKind.u32.wrap (B0.toNat:Int)=B0.toNat:=by rw[IntKind.wrap_u32];omega
  obtain⟨B1,h1,e1⟩:=A0 (s:=s) (i:=b+1) Zo
  have v1:=B1.toNat_lt
  have u1:IntKind.u32.wrap (B1.toNat:Int)=B1.toNat:=by rw[IntKind.wrap_u32];omega
  have w1:IntKind.i64.wrap ((b:Int)+1)=(b:Int)+1:=Ad Zo Zo
  have p1:(0:Int)<=(b:Int)+1:=Zo
  have t1:((b:Int)+1).toNat=b+1:=Zo
  have s1:IntKind.u32.wrap ((B1.toNat:Int)*256)=B1.toNat*256:=by rw[IntKind.wrap_u32];omega
  obtain⟨B2,h2,e2⟩:=A0 (s:=s) (i:=b+2) Zo
  have v2:=B2.toNat_lt
  have u2:IntKind.u32.wrap (B2.toNat:Int)=B2.toNat:=by rw[IntKind.wrap_u32];omega
  have w2:IntKind.i64.wrap ((b:Int)+2)=(b:Int)+2:=Ad Zo Zo
  have p2:(0:Int)<=(b:Int)+2:=Zo
  have t2:((b:Int)+2).toNat=b+2:=Zo
  have s2:IntKind.u32.wrap ((B2.toNat:Int)*65536)=B2.toNat*65536:=by rw[IntKind.wrap_u32];omega
  obtain⟨B3,h3,e3⟩:=A0 (s:=s) (i:=b+3) Zo
  have v3:=B3.toNat_lt
  have u3:IntKind.u32.wrap (B3.toNat:Int)=B3.toNat:=by rw[IntKind.wrap_u32];omega
  have w3:IntKind.i64.wrap ((b:Int)+3)=(b:Int)+3:=Ad Zo Zo
  have p3:(0:Int)<=(b:Int)+3:=Zo
  have t3:((b:Int)+3).toNat=b+3:=Zo
  have s3:IntKind.u32.wrap ((B3.toNat:Int)*16777216)=B3.toNat*16777216:=by rw[IntKind.wrap_u32];omega
  have o:orW (orW (orW (B0.toNat:Int) (B1.toNat*256)) (B2.toNat*65536)) (B3.toNat*16777216)=wordAt s b:=by
   rw[Kq B0 B1 B2 B3]
   unfold wordAt
   rw[<-e0,<-e1,<-e2,<-e3]
  clear e0 e1 e2 e3 v0 v1 v2 v3 hb ha hs
  repeat' (first|refine ZN ?_|refine Z2 ?_ ?_|(intro h h';try simp[*,-h] at h'))
  all_goals exact⟨_,Zo,4,rfl,Zo,Zm,by simp[*,w4],Zm,Zm,Zm,Zm,Zm⟩
 ·simp only[w4] at hh5
  unfold four
  simp only[D4.row]
  exact ZS
end
section
open Go Go.Ab
theorem Dia (l:List Int):(txtW l).size=4*l.length:=by
 show(toBytes (bys l)).toArray.size=_
 simp[toBytes,K3]
def zP (n:Nat):Nat:=(23 - n%16)%16
theorem Rs (n:Nat):(n+1+zP n)%16=8:=by unfold zP;omega
theorem zP_lt {n i:Nat}(h:i<zP n):(n+1+i)%16≠8:=by unfold zP at h;omega
theorem Py (n:Nat):zP n<16:=by unfold zP;omega
def padR (L:List UInt8):List UInt8:=L++128::List.replicate (zP L.length) 0
def padL (L:List UInt8):List UInt8:=padR L++toBytes (bys [(L.length:Int),0])
def padS (s:ByteArray):ByteArray:=⟨⟨padL s.data.toList⟩⟩
def spongeP (p:ByteArray):Nat->S8
 |0=>⟨1,0,0,0,0,0,0,0⟩
 |i+1=>takeP (spongeP p i) (four p (16*i))
def ofP (s:ByteArray):D4:=front (spongeP (padS s) ((padS s).size/16))
theorem Vd (L:List UInt8):(padR L).length=L.length+1+zP L.length:=by simp[padR];omega
theorem Kda (L:List UInt8):(padL L).length=L.length+1+zP L.length+8:=by
 unfold padL
 rw[List.length_append,Vd,L2,K3];rfl
theorem Qa (s:ByteArray):(padS s).size=s.size+1+zP s.size+8:=by
 rw[C4,C4 s];exact Kda _
theorem Pz (A T:List UInt8)(i:Nat)(h:i+4<=A.length):wordL (A++T) i=wordL A i:=by
 have e: ∀j,j<A.length->(A++T).getD j 0=A.getD j 0:=fun j hj=>by
  simp[List.getD_eq_getElem?_getD,List.getElem?_append_left hj]
 unfold wordL
 rw[e _ Zo,e _ Zo,e _ Zo,e _ Zo]
theorem Lqa (s:ByteArray)(i:Nat)(h:i+16<=s.size):four s i=four (padS s) i:=by
 rw[C4] at h
 have e: ∀j,j+4<=s.data.toList.length->wordAt (padS s) j=wordAt s j:=fun j hj=>by
  rw[D9,D9]
  show wordL (padL _) j=_
  unfold padL padR
  rw[List.append_assoc,Pz _ _ _ hj]
 unfold four
 rw[e _ Zo,e _ Zo,e _ Zo,e _ Zo]
theorem tail_eq (s:ByteArray)(w:Nat)(hw:w<=s.size):padL s.data.toList=s.data.toList.take w++((s.data.toList.drop w++128::List.replicate (zP s.size) 0)++toBytes (bys [(s.size:Int),0])):=by
 have e:s.data.toList=s.data.toList.take w++s.data.toList.drop w:=(List.take_append_drop w _).symm
 unfold padL padR
 rw[C4]
 generalize (s.data.toList).length=n
 rw[<-List.append_assoc,<-List.append_assoc,<-e]
theorem Eya (s:ByteArray)(w:Nat)(hw:w<=s.size)(t:ByteArray)(ht:t.data.toList=(s.data.toList.drop w++128::List.replicate (zP s.size) 0)++toBytes (bys [(s.size:Int),0]))(i:Nat):four t i=four (padS s) (w+i):=by
 have e: ∀j,wordAt (padS s) (w+j)=wordAt t j:=fun j=>by
  rw[D9,D9,ht]
  show wordL (padL _) (w+j)=_
  rw[tail_eq s w hw]
  have hl:(s.data.toList.take w).length=w:=by rw[List.length_take,<-C4];omega
  have:=Lc (s.data.toList.take w) ((s.data.toList.drop w++128::List.replicate (zP s.size) 0)++toBytes (bys [(s.size:Int),0])) j
  rwa [hl] at this
 unfold four
 rw[<-e,<-e,<-e,<-e,Nat.add_assoc,Nat.add_assoc,Nat.add_assoc]
abbrev rowU (l:List UInt8):List (List AV):=l.map fun b=>[.sc (.int .u8 b.toNat)]
theorem O2 : ∀l:List UInt8,bytesOfRows (rowU l)=some l
 |[]=>rfl
 |x::l=>by
  have:=O2 l
  unfold rowU at this⊢
  simp only[List.map_cons,bytesOfRows,this,Option.map_some]
  simp
theorem P8 (l:List UInt8)(b:UInt8)(n:Int)(h:n=b.toNat):rowU l++[[.sc (.int .u8 n)]]=rowU (l++[b]):=by subst h;simp
theorem Dja (l:List Int):(txtW l).data.toList=toBytes (bys l):=rfl
end
end Go.Proofs.YtpmoibjpjlhcgaaGreatDoor.Q
