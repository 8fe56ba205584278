/- A part of the proof: F8. -/
import Derived.KernelRfl
import Derived.Test.YtpmoibjpjlhcgaaGreatDoorProg
import Derived.Test.YtpmoibjpjlhcgaaGreatDoorY01
set_option linter.unusedSimpArgs false
set_option linter.unusedVariables false
namespace Go.Proofs.YtpmoibjpjlhcgaaGreatDoor
open Go Go.Ab
@[simp] theorem Tm :rtys Tryz.prog 8=[9,30]:=by kernel_rfl
@[simp] theorem Nc :Ad Tryz.f8=true:=by kernel_rfl
@[simp] theorem rtys_9 :rtys Tryz.prog 9=[9,3,30]:=by kernel_rfl
@[simp] theorem Jsa :Ad Tryz.f9=true:=by kernel_rfl
@[simp] theorem Ze :rtys Tryz.prog 13=[4]:=by kernel_rfl
@[simp] theorem O9 :Ad Tryz.f13=true:=by kernel_rfl
@[simp] theorem rtys_19 :rtys Tryz.prog 19=[9,30]:=by kernel_rfl
@[simp] theorem Dsa :Ad Tryz.f19=true:=by kernel_rfl
@[simp] theorem rtys_22 :rtys Tryz.prog 22=[54,3,30]:=by kernel_rfl
@[simp] theorem Dra :Ad Tryz.f22=true:=by kernel_rfl
@[simp] theorem Zd :rtys Tryz.prog 23=[58,30]:=by kernel_rfl
@[simp] theorem O8 :Ad Tryz.f23=true:=by kernel_rfl
@[simp] theorem rtys_24 :rtys Tryz.prog 24=[58,30]:=by kernel_rfl
@[simp] theorem Dqa :Ad Tryz.f24=true:=by kernel_rfl
@[simp] theorem rtys_25 :rtys Tryz.prog 25=[9,30]:=by kernel_rfl
@[simp] theorem jF8_0 :okFn Tryz.prog 8=true/\ptys Tryz.prog 8=[29,9]/\Aj Tryz.prog 8=true/\okFn Tryz.prog 9=true/\ptys Tryz.prog 9=[9]/\Aj Tryz.prog 9=true/\okFn Tryz.prog 13=true/\ptys Tryz.prog 13=[29,9]/\Aj Tryz.prog 13=true/\okFn Tryz.prog 19=true/\ptys Tryz.prog 19=[9]/\Aj Tryz.prog 19=true/\okFn Tryz.prog 22=true/\ptys Tryz.prog 22=[9]/\Aj Tryz.prog 22=false/\okFn Tryz.prog 23=true/\ptys Tryz.prog 23=[54,30,61]/\Aj Tryz.prog 23=false/\okFn Tryz.prog 24=true/\ptys Tryz.prog 24=[54]/\Aj Tryz.prog 24=false/\okFn Tryz.prog 25=true/\ptys Tryz.prog 25=[58,30,63]/\Aj Tryz.prog 25=true:=by repeat' (first|(with_reducible apply And.intro)|kernel_rfl)
@[simp] theorem Dpa :Ad Tryz.f25=true:=by kernel_rfl
@[simp] theorem rtys_26 :rtys Tryz.prog 26=[9,30]:=by kernel_rfl
@[simp] theorem Doa :Ad Tryz.f26=true:=by kernel_rfl
@[simp] theorem Zb :rtys Tryz.prog 33=[9]:=by kernel_rfl
@[simp] theorem O7 :Ad Tryz.f33=true:=by kernel_rfl
@[simp] theorem okFn_45 :okFn Tryz.prog 45=true:=by kernel_rfl
@[simp] theorem Pu :okFn Tryz.prog 46=true:=by kernel_rfl
@[simp] theorem Dja :Ad Tryz.f46=true:=by kernel_rfl
@[simp] theorem okFn_47 :okFn Tryz.prog 47=true:=by kernel_rfl
@[simp] theorem rtys_47 :rtys Tryz.prog 47=[54]:=by kernel_rfl
@[simp] theorem Dia :Ad Tryz.f47=true:=by kernel_rfl
@[simp] theorem rtys_48 :rtys Tryz.prog 48=[4]:=by kernel_rfl
@[simp] theorem Dha :Ad Tryz.f48=true:=by kernel_rfl
@[simp] theorem Za :rtys Tryz.prog 49=[99,30]:=by kernel_rfl
@[simp] theorem O6 :Ad Tryz.f49=true:=by kernel_rfl
@[simp] theorem Y9 :rtys Tryz.prog 50=[58,30]:=by kernel_rfl
@[simp] theorem O5 :Ad Tryz.f50=true:=by kernel_rfl
@[simp] theorem rtys_51 :rtys Tryz.prog 51=[58,30]:=by kernel_rfl
@[simp] theorem Dga :Ad Tryz.f51=true:=by kernel_rfl
@[simp] theorem rtys_52 :rtys Tryz.prog 52=[58,30]:=by kernel_rfl
@[simp] theorem Dfa :Ad Tryz.f52=true:=by kernel_rfl
@[simp] theorem rtys_53 :rtys Tryz.prog 53=[106]:=by kernel_rfl
@[simp] theorem jF8_1 :okFn Tryz.prog 26=true/\ptys Tryz.prog 26=[58]/\Aj Tryz.prog 26=true/\okFn Tryz.prog 33=true/\ptys Tryz.prog 33=[41]/\Aj Tryz.prog 33=true/\okFn Tryz.prog 48=true/\ptys Tryz.prog 48=[54]/\Aj Tryz.prog 48=true/\okFn Tryz.prog 49=true/\ptys Tryz.prog 49=[54]/\Aj Tryz.prog 49=false/\okFn Tryz.prog 50=true/\ptys Tryz.prog 50=[99,30,108]/\Aj Tryz.prog 50=false/\okFn Tryz.prog 51=true/\ptys Tryz.prog 51=[99]/\Aj Tryz.prog 51=false/\okFn Tryz.prog 52=true/\ptys Tryz.prog 52=[106]/\Aj Tryz.prog 52=false/\okFn Tryz.prog 53=true/\ptys Tryz.prog 53=[99]/\Aj Tryz.prog 53=false:=by repeat' (first|(with_reducible apply And.intro)|kernel_rfl)
@[simp] theorem Dea :Ad Tryz.f53=true:=by kernel_rfl
@[simp] theorem rtys_54 :rtys Tryz.prog 54=[4]:=by kernel_rfl
@[simp] theorem Dda :Ad Tryz.f54=true:=by kernel_rfl
@[simp] theorem Y8 :rtys Tryz.prog 56=[58,30]:=by kernel_rfl
@[simp] theorem rtys_71 :rtys Tryz.prog 71=[131,3,30]:=by kernel_rfl
@[simp] theorem C9a :Ad Tryz.f71=true:=by kernel_rfl
@[simp] theorem okFn_73 :okFn Tryz.prog 73=true:=by kernel_rfl
@[simp] theorem C8a :Ad Tryz.f73=true:=by kernel_rfl
@[simp] theorem okFn_74 :okFn Tryz.prog 74=true:=by kernel_rfl
@[simp] theorem C7a :Ad Tryz.f74=true:=by kernel_rfl
@[simp] theorem Zi :okFn Tryz.prog 75=true:=by kernel_rfl
@[simp] theorem rtys_75 :rtys Tryz.prog 75=[50]:=by kernel_rfl
@[simp] theorem C6a :Ad Tryz.f75=true:=by kernel_rfl
@[simp] theorem okFn_76 :okFn Tryz.prog 76=true:=by kernel_rfl
@[simp] theorem rtys_76 :rtys Tryz.prog 76=[141]:=by kernel_rfl
@[simp] theorem C5a :Ad Tryz.f76=true:=by kernel_rfl
@[simp] theorem okFn_77 :okFn Tryz.prog 77=true:=by kernel_rfl
@[simp] theorem C4a :Ad Tryz.f77=true:=by kernel_rfl
@[simp] theorem Pt :okFn Tryz.prog 78=true:=by kernel_rfl
@[simp] theorem rtys_78 :rtys Tryz.prog 78=[148]:=by kernel_rfl
@[simp] theorem C3a :Ad Tryz.f78=true:=by kernel_rfl
@[simp] theorem rtys_79 :rtys Tryz.prog 79=[4]:=by kernel_rfl
@[simp] theorem C2a :Ad Tryz.f79=true:=by kernel_rfl
@[simp] theorem rtys_80 :rtys Tryz.prog 80=[4]:=by kernel_rfl
@[simp] theorem C1a :Ad Tryz.f80=true:=by kernel_rfl
@[simp] theorem rtys_81 :rtys Tryz.prog 81=[4]:=by kernel_rfl
@[simp] theorem C0a :Ad Tryz.f81=true:=by kernel_rfl
@[simp] theorem rtys_82 :rtys Tryz.prog 82=[30]:=by kernel_rfl
@[simp] theorem Cza :Ad Tryz.f82=true:=by kernel_rfl
@[simp] theorem rtys_83 :rtys Tryz.prog 83=[153,3]:=by kernel_rfl
@[simp] theorem Cya :Ad Tryz.f83=true:=by kernel_rfl
@[simp] theorem rtys_84 :rtys Tryz.prog 84=[160]:=by kernel_rfl
@[simp] theorem jF8_2 :okFn Tryz.prog 54=true/\ptys Tryz.prog 54=[58]/\Aj Tryz.prog 54=true/\okFn Tryz.prog 71=true/\ptys Tryz.prog 71=[9]/\Aj Tryz.prog 71=false/\okFn Tryz.prog 79=true/\ptys Tryz.prog 79=[50]/\Aj Tryz.prog 79=true/\okFn Tryz.prog 80=true/\ptys Tryz.prog 80=[9]/\Aj Tryz.prog 80=true/\okFn Tryz.prog 81=true/\ptys Tryz.prog 81=[146,3]/\Aj Tryz.prog 81=true/\okFn Tryz.prog 82=true/\ptys Tryz.prog 82=[54]/\Aj Tryz.prog 82=true/\okFn Tryz.prog 83=true/\ptys Tryz.prog 83=[54]/\Aj Tryz.prog 83=false/\okFn Tryz.prog 84=true/\ptys Tryz.prog 84=[157,146]/\Aj Tryz.prog 84=false:=by repeat' (first|(with_reducible apply And.intro)|kernel_rfl)
@[simp] theorem Cxa :Ad Tryz.f84=true:=by kernel_rfl
@[simp] theorem rtys_85 :rtys Tryz.prog 85=[166]:=by kernel_rfl
@[simp] theorem Cwa :Ad Tryz.f85=true:=by kernel_rfl
@[simp] theorem okFn_86 :okFn Tryz.prog 86=true:=by kernel_rfl
@[simp] theorem Cva :Ad Tryz.f86=true:=by kernel_rfl
@[simp] theorem rtys_87 :rtys Tryz.prog 87=[23,30]:=by kernel_rfl
@[simp] theorem Cua :Ad Tryz.f87=true:=by kernel_rfl
@[simp] theorem rtys_88 :rtys Tryz.prog 88=[174]:=by kernel_rfl
@[simp] theorem Cta :Ad Tryz.f88=true:=by kernel_rfl
@[simp] theorem Ld :rtys Tryz.prog 95=[23]:=by kernel_rfl
@[simp] theorem G7 :Ad Tryz.f95=true:=by kernel_rfl
@[simp] theorem Gaa :rtys Tryz.prog 107=[4]:=by kernel_rfl
@[simp] theorem Yp :Ad Tryz.f107=true:=by kernel_rfl
@[simp] theorem Ma :rtys Tryz.prog 108=[9]:=by kernel_rfl
@[simp] theorem Ht :Ad Tryz.f108=true:=by kernel_rfl
@[simp] theorem F9a :rtys Tryz.prog 109=[4]:=by kernel_rfl
@[simp] theorem Yo :Ad Tryz.f109=true:=by kernel_rfl
@[simp] theorem F8a :rtys Tryz.prog 110=[141,30]:=by kernel_rfl
@[simp] theorem jF8_3 :okFn Tryz.prog 85=true/\ptys Tryz.prog 85=[106]/\Aj Tryz.prog 85=false/\okFn Tryz.prog 87=true/\ptys Tryz.prog 87=[118]/\Aj Tryz.prog 87=true/\okFn Tryz.prog 88=true/\ptys Tryz.prog 88=[163]/\Aj Tryz.prog 88=false/\okFn Tryz.prog 95=true/\ptys Tryz.prog 95=[23,3]/\Aj Tryz.prog 95=true/\okFn Tryz.prog 107=true/\ptys Tryz.prog 107=[9,9]/\Aj Tryz.prog 107=true/\okFn Tryz.prog 108=true/\ptys Tryz.prog 108=[9,207]/\Aj Tryz.prog 108=true/\okFn Tryz.prog 109=true/\ptys Tryz.prog 109=[5]/\Aj Tryz.prog 109=true/\okFn Tryz.prog 110=true/\ptys Tryz.prog 110=[9]/\Aj Tryz.prog 110=true:=by repeat' (first|(with_reducible apply And.intro)|kernel_rfl)
@[simp] theorem Yn :Ad Tryz.f110=true:=by kernel_rfl
@[simp] theorem okFn_111 :okFn Tryz.prog 111=true:=by kernel_rfl
@[simp] theorem Ym :Ad Tryz.f111=true:=by kernel_rfl
@[simp] theorem okFn_112 :okFn Tryz.prog 112=true:=by kernel_rfl
@[simp] theorem Yl :Ad Tryz.f112=true:=by kernel_rfl
@[simp] theorem okFn_113 :okFn Tryz.prog 113=true:=by kernel_rfl
@[simp] theorem F7a :rtys Tryz.prog 113=[146]:=by kernel_rfl
@[simp] theorem Yk :Ad Tryz.f113=true:=by kernel_rfl
@[simp] theorem F6a :rtys Tryz.prog 114=[4]:=by kernel_rfl
@[simp] theorem Yj :Ad Tryz.f114=true:=by kernel_rfl
@[simp] theorem F5a :rtys Tryz.prog 115=[4]:=by kernel_rfl
@[simp] theorem Yi :Ad Tryz.f115=true:=by kernel_rfl
@[simp] theorem F4a :rtys Tryz.prog 116=[4]:=by kernel_rfl
@[simp] theorem Yh :Ad Tryz.f116=true:=by kernel_rfl
@[simp] theorem F3a :rtys Tryz.prog 117=[30]:=by kernel_rfl
@[simp] theorem Yg :Ad Tryz.f117=true:=by kernel_rfl
@[simp] theorem F2a :rtys Tryz.prog 118=[30]:=by kernel_rfl
@[simp] theorem Yf :Ad Tryz.f118=true:=by kernel_rfl
@[simp] theorem F1a :rtys Tryz.prog 119=[159]:=by kernel_rfl
@[simp] theorem Ye :Ad Tryz.f119=true:=by kernel_rfl
@[simp] theorem F0a :rtys Tryz.prog 120=[219]:=by kernel_rfl
@[simp] theorem Yd :Ad Tryz.f120=true:=by kernel_rfl
@[simp] theorem Fza :rtys Tryz.prog 121=[27,4]:=by kernel_rfl
@[simp] theorem jF8_4 :okFn Tryz.prog 114=true/\ptys Tryz.prog 114=[9]/\Aj Tryz.prog 114=true/\okFn Tryz.prog 115=true/\ptys Tryz.prog 115=[215]/\Aj Tryz.prog 115=true/\okFn Tryz.prog 116=true/\ptys Tryz.prog 116=[213,3]/\Aj Tryz.prog 116=true/\okFn Tryz.prog 117=true/\ptys Tryz.prog 117=[54]/\Aj Tryz.prog 117=true/\okFn Tryz.prog 118=true/\ptys Tryz.prog 118=[54]/\Aj Tryz.prog 118=true/\okFn Tryz.prog 119=true/\ptys Tryz.prog 119=[157,9]/\Aj Tryz.prog 119=true/\okFn Tryz.prog 120=true/\ptys Tryz.prog 120=[157,213]/\Aj Tryz.prog 120=false/\okFn Tryz.prog 121=true/\ptys Tryz.prog 121=[106,3]/\Aj Tryz.prog 121=false:=by repeat' (first|(with_reducible apply And.intro)|kernel_rfl)
@[simp] theorem Yc :Ad Tryz.f121=true:=by kernel_rfl
@[simp] theorem Fya :rtys Tryz.prog 122=[225]:=by kernel_rfl
@[simp] theorem Yb :Ad Tryz.f122=true:=by kernel_rfl
@[simp] theorem okFn_123 :okFn Tryz.prog 123=true:=by kernel_rfl
@[simp] theorem Ya :Ad Tryz.f123=true:=by kernel_rfl
@[simp] theorem okFn_124 :okFn Tryz.prog 124=true:=by kernel_rfl
@[simp] theorem X9 :Ad Tryz.f124=true:=by kernel_rfl
@[simp] theorem Fxa :rtys Tryz.prog 125=[4]:=by kernel_rfl
@[simp] theorem X7 :Ad Tryz.f125=true:=by kernel_rfl
@[simp] theorem okFn_126 :okFn Tryz.prog 126=true:=by kernel_rfl
@[simp] theorem X6 :Ad Tryz.f126=true:=by kernel_rfl
@[simp] theorem okFn_127 :okFn Tryz.prog 127=true:=by kernel_rfl
@[simp] theorem X5 :Ad Tryz.f127=true:=by kernel_rfl
@[simp] theorem Fta :rtys Tryz.prog 155=[4]:=by kernel_rfl
@[simp] theorem Xx :Ad Tryz.f155=true:=by kernel_rfl
@[simp] theorem Fsa :rtys Tryz.prog 156=[4]:=by kernel_rfl
@[simp] theorem Xw :Ad Tryz.f156=true:=by kernel_rfl
@[simp] theorem Fra :rtys Tryz.prog 157=[141,30]:=by kernel_rfl
@[simp] theorem Xv :Ad Tryz.f157=true:=by kernel_rfl
@[simp] theorem Fqa :rtys Tryz.prog 158=[141,30]:=by kernel_rfl
@[simp] theorem Xu :Ad Tryz.f158=true:=by kernel_rfl
@[simp] theorem Fpa :rtys Tryz.prog 159=[4]:=by kernel_rfl
@[simp] theorem Xt :Ad Tryz.f159=true:=by kernel_rfl
@[simp] theorem Foa :rtys Tryz.prog 160=[141,30]:=by kernel_rfl
@[simp] theorem jF8_5 :okFn Tryz.prog 122=true/\ptys Tryz.prog 122=[]/\Aj Tryz.prog 122=false/\okFn Tryz.prog 125=true/\ptys Tryz.prog 125=[118]/\Aj Tryz.prog 125=true/\okFn Tryz.prog 155=true/\ptys Tryz.prog 155=[9,9]/\Aj Tryz.prog 155=true/\okFn Tryz.prog 156=true/\ptys Tryz.prog 156=[5]/\Aj Tryz.prog 156=true/\okFn Tryz.prog 157=true/\ptys Tryz.prog 157=[9]/\Aj Tryz.prog 157=true/\okFn Tryz.prog 158=true/\ptys Tryz.prog 158=[9]/\Aj Tryz.prog 158=true/\okFn Tryz.prog 159=true/\ptys Tryz.prog 159=[5]/\Aj Tryz.prog 159=true/\okFn Tryz.prog 160=true/\ptys Tryz.prog 160=[9]/\Aj Tryz.prog 160=true:=by repeat' (first|(with_reducible apply And.intro)|kernel_rfl)
@[simp] theorem Xs :Ad Tryz.f160=true:=by kernel_rfl
@[simp] theorem Fna :rtys Tryz.prog 161=[4]:=by kernel_rfl
@[simp] theorem Xr :Ad Tryz.f161=true:=by kernel_rfl
@[simp] theorem okFn_162 :okFn Tryz.prog 162=true:=by kernel_rfl
@[simp] theorem Fma :rtys Tryz.prog 162=[215]:=by kernel_rfl
@[simp] theorem Xq :Ad Tryz.f162=true:=by kernel_rfl
@[simp] theorem Fla :rtys Tryz.prog 163=[4]:=by kernel_rfl
@[simp] theorem Xp :Ad Tryz.f163=true:=by kernel_rfl
@[simp] theorem Fka :rtys Tryz.prog 164=[4]:=by kernel_rfl
@[simp] theorem Xo :Ad Tryz.f164=true:=by kernel_rfl
@[simp] theorem Fja :rtys Tryz.prog 165=[4]:=by kernel_rfl
@[simp] theorem Xn :Ad Tryz.f165=true:=by kernel_rfl
@[simp] theorem Fia :rtys Tryz.prog 166=[290,4]:=by kernel_rfl
@[simp] theorem Xm :Ad Tryz.f166=true:=by kernel_rfl
@[simp] theorem Fha :rtys Tryz.prog 167=[290,4]:=by kernel_rfl
@[simp] theorem Xl :Ad Tryz.f167=true:=by kernel_rfl
@[simp] theorem okFn_168 :okFn Tryz.prog 168=true:=by kernel_rfl
@[simp] theorem Xk :Ad Tryz.f168=true:=by kernel_rfl
@[simp] theorem okFn_169 :okFn Tryz.prog 169=true:=by kernel_rfl
@[simp] theorem Xj :Ad Tryz.f169=true:=by kernel_rfl
@[simp] theorem Fga :rtys Tryz.prog 170=[300]:=by kernel_rfl
@[simp] theorem Xi :Ad Tryz.f170=true:=by kernel_rfl
@[simp] theorem Gqa :okFn Tryz.prog 171=true:=by kernel_rfl
@[simp] theorem Xh :Ad Tryz.f171=true:=by kernel_rfl
@[simp] theorem Xg :Ad Tryz.f172=true:=by kernel_rfl
@[simp] theorem Xf :Ad Tryz.f173=true:=by kernel_rfl
@[simp] theorem okFn_174 :okFn Tryz.prog 174=true:=by kernel_rfl
@[simp] theorem Xe :Ad Tryz.f174=true:=by kernel_rfl
@[simp] theorem okFn_175 :okFn Tryz.prog 175=true:=by kernel_rfl
@[simp] theorem Xd :Ad Tryz.f175=true:=by kernel_rfl
@[simp] theorem okFn_176 :okFn Tryz.prog 176=true:=by kernel_rfl
@[simp] theorem Xc :Ad Tryz.f176=true:=by kernel_rfl
@[simp] theorem jF8_6 :okFn Tryz.prog 161=true/\ptys Tryz.prog 161=[5]/\Aj Tryz.prog 161=true/\okFn Tryz.prog 163=true/\ptys Tryz.prog 163=[9]/\Aj Tryz.prog 163=true/\okFn Tryz.prog 164=true/\ptys Tryz.prog 164=[9,4]/\Aj Tryz.prog 164=true/\okFn Tryz.prog 165=true/\ptys Tryz.prog 165=[288]/\Aj Tryz.prog 165=true/\okFn Tryz.prog 166=true/\ptys Tryz.prog 166=[54]/\Aj Tryz.prog 166=false/\okFn Tryz.prog 167=true/\ptys Tryz.prog 167=[148]/\Aj Tryz.prog 167=false/\okFn Tryz.prog 170=true/\ptys Tryz.prog 170=[295,9]/\Aj Tryz.prog 170=true/\okFn Tryz.prog 172=true/\okFn Tryz.prog 173=true/\okFn Tryz.prog 177=true:=by repeat' (first|(with_reducible apply And.intro)|kernel_rfl)
@[simp] theorem Ffa :rtys Tryz.prog 177=[3,4]:=by kernel_rfl
@[simp] theorem Xb :Ad Tryz.f177=true:=by kernel_rfl
@[simp] theorem Fea :rtys Tryz.prog 178=[27]:=by kernel_rfl
@[simp] theorem Xa :Ad Tryz.f178=true:=by kernel_rfl
@[simp] theorem okFn_179 :okFn Tryz.prog 179=true:=by kernel_rfl
@[simp] theorem W9 :Ad Tryz.f179=true:=by kernel_rfl
@[simp] theorem okFn_180 :okFn Tryz.prog 180=true:=by kernel_rfl
@[simp] theorem W8 :Ad Tryz.f180=true:=by kernel_rfl
@[simp] theorem okFn_181 :okFn Tryz.prog 181=true:=by kernel_rfl
@[simp] theorem W7 :Ad Tryz.f181=true:=by kernel_rfl
@[simp] theorem okFn_182 :okFn Tryz.prog 182=true:=by kernel_rfl
@[simp] theorem W6 :Ad Tryz.f182=true:=by kernel_rfl
@[simp] theorem okFn_183 :okFn Tryz.prog 183=true:=by kernel_rfl
@[simp] theorem W5 :Ad Tryz.f183=true:=by kernel_rfl
@[simp] theorem okFn_184 :okFn Tryz.prog 184=true:=by kernel_rfl
@[simp] theorem W4 :Ad Tryz.f184=true:=by kernel_rfl
@[simp] theorem okFn_185 :okFn Tryz.prog 185=true:=by kernel_rfl
@[simp] theorem W0 :Ad Tryz.f185=true:=by kernel_rfl
@[simp] theorem okFn_186 :okFn Tryz.prog 186=true:=by kernel_rfl
@[simp] theorem Wz :Ad Tryz.f186=true:=by kernel_rfl
@[simp] theorem okFn_187 :okFn Tryz.prog 187=true:=by kernel_rfl
@[simp] theorem Wy :Ad Tryz.f187=true:=by kernel_rfl
@[simp] theorem okFn_188 :okFn Tryz.prog 188=true:=by kernel_rfl
@[simp] theorem Wx :Ad Tryz.f188=true:=by kernel_rfl
@[simp] theorem okFn_189 :okFn Tryz.prog 189=true:=by kernel_rfl
@[simp] theorem Ww :Ad Tryz.f189=true:=by kernel_rfl
@[simp] theorem okFn_190 :okFn Tryz.prog 190=true:=by kernel_rfl
@[simp] theorem Wv :Ad Tryz.f190=true:=by kernel_rfl
@[simp] theorem okFn_191 :okFn Tryz.prog 191=true:=by kernel_rfl
@[simp] theorem Wu :Ad Tryz.f191=true:=by kernel_rfl
@[simp] theorem okFn_192 :okFn Tryz.prog 192=true:=by kernel_rfl
@[simp] theorem Wt :Ad Tryz.f192=true:=by kernel_rfl
@[simp] theorem okFn_193 :okFn Tryz.prog 193=true:=by kernel_rfl
@[simp] theorem Ws :Ad Tryz.f193=true:=by kernel_rfl
@[simp] theorem okFn_194 :okFn Tryz.prog 194=true:=by kernel_rfl
@[simp] theorem Wn :Ad Tryz.f194=true:=by kernel_rfl
@[simp] theorem okFn_195 :okFn Tryz.prog 195=true:=by kernel_rfl
@[simp] theorem Wm :Ad Tryz.f195=true:=by kernel_rfl
@[simp] theorem okFn_196 :okFn Tryz.prog 196=true:=by kernel_rfl
@[simp] theorem Wl :Ad Tryz.f196=true:=by kernel_rfl
@[simp] theorem okFn_197 :okFn Tryz.prog 197=true:=by kernel_rfl
@[simp] theorem Wk :Ad Tryz.f197=true:=by kernel_rfl
@[simp] theorem okFn_198 :okFn Tryz.prog 198=true:=by kernel_rfl
@[simp] theorem Wj :Ad Tryz.f198=true:=by kernel_rfl
@[simp] theorem Fda :rtys Tryz.prog 199=[4]:=by kernel_rfl
@[simp] theorem Wi :Ad Tryz.f199=true:=by kernel_rfl
@[simp] theorem Fca :rtys Tryz.prog 200=[321]:=by kernel_rfl
@[simp] theorem Wh :Ad Tryz.f200=true:=by kernel_rfl
@[simp] theorem Fba :rtys Tryz.prog 201=[4]:=by kernel_rfl
@[simp] theorem Wg :Ad Tryz.f201=true:=by kernel_rfl
@[simp] theorem okFn_202 :okFn Tryz.prog 202=true:=by kernel_rfl
@[simp] theorem Wf :Ad Tryz.f202=true:=by kernel_rfl
@[simp] theorem okFn_203 :okFn Tryz.prog 203=true:=by kernel_rfl
@[simp] theorem Ng :Ad Tryz.f203=true:=by kernel_rfl
@[simp] theorem okFn_238 :okFn Tryz.prog 238=true:=by kernel_rfl
@[simp] theorem E9a :rtys Tryz.prog 238=[213]:=by kernel_rfl
@[simp] theorem Wc :Ad Tryz.f238=true:=by kernel_rfl
@[simp] theorem Mm :okFn Tryz.prog 239=true:=by kernel_rfl
@[simp] theorem E8a :rtys Tryz.prog 239=[288]:=by kernel_rfl
@[simp] theorem Wb :Ad Tryz.f239=true:=by kernel_rfl
@[simp] theorem okFn_240 :okFn Tryz.prog 240=true:=by kernel_rfl
@[simp] theorem E7a :rtys Tryz.prog 240=[146]:=by kernel_rfl
@[simp] theorem Wa :Ad Tryz.f240=true:=by kernel_rfl
@[simp] theorem okFn_241 :okFn Tryz.prog 241=true:=by kernel_rfl
@[simp] theorem E6a :rtys Tryz.prog 241=[215]:=by kernel_rfl
@[simp] theorem V9 :Ad Tryz.f241=true:=by kernel_rfl
@[simp] theorem okFn_242 :okFn Tryz.prog 242=true:=by kernel_rfl
@[simp] theorem V8 :Ad Tryz.f242=true:=by kernel_rfl
@[simp] theorem okFn_243 :okFn Tryz.prog 243=true:=by kernel_rfl
@[simp] theorem V7 :Ad Tryz.f243=true:=by kernel_rfl
@[simp] theorem okFn_244 :okFn Tryz.prog 244=true:=by kernel_rfl
@[simp] theorem V6 :Ad Tryz.f244=true:=by kernel_rfl
@[simp] theorem okFn_245 :okFn Tryz.prog 245=true:=by kernel_rfl
@[simp] theorem V5 :Ad Tryz.f245=true:=by kernel_rfl
@[simp] theorem E5a :rtys Tryz.prog 246=[3]:=by kernel_rfl
@[simp] theorem V4 :Ad Tryz.f246=true:=by kernel_rfl
@[simp] theorem V3 :Ad Tryz.f247=true:=by kernel_rfl
@[simp] theorem V2 :Ad Tryz.f248=true:=by kernel_rfl
@[simp] theorem V1 :Ad Tryz.f249=true:=by kernel_rfl
@[simp] theorem V0 :Ad Tryz.f250=true:=by kernel_rfl
@[simp] theorem Vz :Ad Tryz.f251=true:=by kernel_rfl
@[simp] theorem Vy :Ad Tryz.f252=true:=by kernel_rfl
@[simp] theorem jF8_7 :ptys Tryz.prog 177=[106,3,315,3]/\Aj Tryz.prog 177=true/\okFn Tryz.prog 178=true/\ptys Tryz.prog 178=[315,3]/\Aj Tryz.prog 178=false/\okFn Tryz.prog 199=true/\ptys Tryz.prog 199=[3]/\Aj Tryz.prog 199=true/\okFn Tryz.prog 200=true/\ptys Tryz.prog 200=[3]/\Aj Tryz.prog 200=true/\okFn Tryz.prog 201=true/\ptys Tryz.prog 201=[3,3,4]/\Aj Tryz.prog 201=true/\okFn Tryz.prog 246=true/\ptys Tryz.prog 246=[288]/\Aj Tryz.prog 246=true/\okFn Tryz.prog 247=true/\okFn Tryz.prog 248=true/\okFn Tryz.prog 249=true/\okFn Tryz.prog 250=true/\okFn Tryz.prog 251=true/\okFn Tryz.prog 252=true/\okFn Tryz.prog 253=true:=by repeat' (first|(with_reducible apply And.intro)|kernel_rfl)
@[simp] theorem E4a :rtys Tryz.prog 253=[3]:=by kernel_rfl
@[simp] theorem Vx :Ad Tryz.f253=true:=by kernel_rfl
@[simp] theorem okFn_254 :okFn Tryz.prog 254=true:=by kernel_rfl
@[simp] theorem Vw :Ad Tryz.f254=true:=by kernel_rfl
@[simp] theorem okFn_255 :okFn Tryz.prog 255=true:=by kernel_rfl
@[simp] theorem Vv :Ad Tryz.f255=true:=by kernel_rfl
@[simp] theorem okFn_256 :okFn Tryz.prog 256=true:=by kernel_rfl
@[simp] theorem Vu :Ad Tryz.f256=true:=by kernel_rfl
@[simp] theorem okFn_290 :okFn Tryz.prog 290=true:=by kernel_rfl
@[simp] theorem E1a :rtys Tryz.prog 290=[288]:=by kernel_rfl
@[simp] theorem Vq :Ad Tryz.f290=true:=by kernel_rfl
@[simp] theorem E0a :rtys Tryz.prog 291=[288,3]:=by kernel_rfl
@[simp] theorem Vp :Ad Tryz.f291=true:=by kernel_rfl
@[simp] theorem okFn_292 :okFn Tryz.prog 292=true:=by kernel_rfl
@[simp] theorem Eza :rtys Tryz.prog 292=[213]:=by kernel_rfl
@[simp] theorem Vo :Ad Tryz.f292=true:=by kernel_rfl
@[simp] theorem Vn :Ad Tryz.f293=true:=by kernel_rfl
@[simp] theorem okFn_294 :okFn Tryz.prog 294=true:=by kernel_rfl
@[simp] theorem Nf :Ad Tryz.f294=true:=by kernel_rfl
@[simp] theorem okFn_295 :okFn Tryz.prog 295=true:=by kernel_rfl
@[simp] theorem Vm :Ad Tryz.f295=true:=by kernel_rfl
@[simp] theorem Ewa :rtys Tryz.prog 322=[288]:=by kernel_rfl
@[simp] theorem Vj :Ad Tryz.f322=true:=by kernel_rfl
@[simp] theorem G8a :isAggB Tryz.prog 4=false:=by kernel_rfl
@[simp] theorem jF8_8 :ptys Tryz.prog 253=[4]/\Aj Tryz.prog 253=true/\okFn Tryz.prog 291=true/\ptys Tryz.prog 291=[9]/\Aj Tryz.prog 291=false/\okFn Tryz.prog 293=true/\okFn Tryz.prog 322=true/\ptys Tryz.prog 322=[3]/\Aj Tryz.prog 322=false/\Tryz.prog.cellsOf 3=1/\Tryz.prog.bytesOf 3=8/\slel Tryz.prog 3=none/\isAggB Tryz.prog 3=false/\tOk Tryz.prog 3=true/\intK Tryz.prog 3=some IntKind.i64/\zrow Tryz.prog 3=some [AV.sc (Value.int IntKind.i64 0)]/\tcs Tryz.prog 3=[3]/\zok Tryz.prog 3=true/\zeros Tryz.prog 3=some [Value.int IntKind.i64 0]/\(Tryz.prog.info? 3).isSome=true/\Tryz.prog.cellsOf 4=1/\Tryz.prog.bytesOf 4=1/\slel Tryz.prog 4=none/\tOk Tryz.prog 4=true:=by repeat' (first|(with_reducible apply And.intro)|kernel_rfl)
@[simp] theorem jF8_9 :zrow Tryz.prog 4=some [AV.sc (Value.bool false)]/\tcs Tryz.prog 4=[4]/\zok Tryz.prog 4=true/\zeros Tryz.prog 4=some [Value.bool false]/\(Tryz.prog.info? 4).isSome=true/\Tryz.prog.cellsOf 5=1/\Tryz.prog.bytesOf 5=1/\isAggB Tryz.prog 5=false/\intK Tryz.prog 5=some IntKind.u8/\zrow Tryz.prog 5=some [AV.sc (Value.int IntKind.u8 0)]/\tcs Tryz.prog 5=[5]/\zok Tryz.prog 5=true/\Tryz.prog.cellsOf 9=1/\Tryz.prog.bytesOf 9=16/\slel Tryz.prog 9=none/\isAggB Tryz.prog 9=false/\tOk Tryz.prog 9=true/\strB Tryz.prog 9=true/\zrow Tryz.prog 9=some [AV.sc (Value.string {data:={toList:=[]}})]/\tcs Tryz.prog 9=[9]/\zok Tryz.prog 9=true/\(Tryz.prog.info? 9).isSome=true/\Tryz.prog.cellsOf 23=1/\Tryz.prog.bytesOf 23=4:=by repeat' (first|(with_reducible apply And.intro)|kernel_rfl)
@[simp] theorem jF8_10 :slel Tryz.prog 23=none/\isAggB Tryz.prog 23=false/\tOk Tryz.prog 23=true/\intK Tryz.prog 23=some IntKind.u32/\zrow Tryz.prog 23=some [AV.sc (Value.int IntKind.u32 0)]/\tcs Tryz.prog 23=[23]/\zok Tryz.prog 23=true/\(Tryz.prog.info? 23).isSome=true/\Tryz.prog.cellsOf 24=4/\isAggB Tryz.prog 24=true/\At Tryz.prog 24=some (4,23)/\tcs Tryz.prog 24=[23,23,23,23]/\zeros Tryz.prog 24=some [Value.int IntKind.u32 0,Value.int IntKind.u32 0,Value.int IntKind.u32 0,Value.int IntKind.u32 0]/\(Tryz.prog.info? 24).isSome=true/\Tryz.prog.cellsOf 25=4/\isAggB Tryz.prog 25=true/\At Tryz.prog 25=some (4,23)/\A9 Tryz.prog 25=true/\tcs Tryz.prog 25=[23,23,23,23]/\zeros Tryz.prog 25=some [Value.int IntKind.u32 0,Value.int IntKind.u32 0,Value.int IntKind.u32 0,Value.int IntKind.u32 0]/\(Tryz.prog.info? 25).isSome=true/\Tryz.prog.cellsOf 27=1/\Tryz.prog.bytesOf 27=24/\slel Tryz.prog 27=some 3:=by repeat' (first|(with_reducible apply And.intro)|kernel_rfl)
@[simp] theorem Ol :isAggB Tryz.prog 30=false:=by kernel_rfl
@[simp] theorem jF8_11 :isAggB Tryz.prog 27=false/\tOk Tryz.prog 27=true/\zrow Tryz.prog 27=some [AV.sl false 1 []]/\tcs Tryz.prog 27=[27]/\srcT Tryz.prog 27=true/\zok Tryz.prog 27=true/\(Tryz.prog.info? 27).isSome=true/\Tryz.prog.cellsOf 29=9/\isAggB Tryz.prog 29=true/\At Tryz.prog 29=none/\A9 Tryz.prog 29=true/\tcs Tryz.prog 29=[3,27,9,3,23,23,23,23,9]/\flds Tryz.prog 29=[(0,1,3),(1,1,27),(2,1,9),(3,1,3),(4,4,25),(8,1,9)]/\zeros Tryz.prog 29=some [Value.int IntKind.i64 0,Value.slice none 0 0,Value.string {data:={toList:=[]}},Value.int IntKind.i64 0,Value.int IntKind.u32 0,Value.int IntKind.u32 0,Value.int IntKind.u32 0,Value.int IntKind.u32 0,Value.string {data:={toList:=[]}}]/\(Tryz.prog.info? 29).isSome=true/\Tryz.prog.cellsOf 30=1/\tcs Tryz.prog 30=[30]/\zeros Tryz.prog 30=some [Value.int IntKind.i64 0]/\(Tryz.prog.info? 30).isSome=true/\intK Tryz.prog 40=some IntKind.u64/\Tryz.prog.cellsOf 41=1/\slel Tryz.prog 41=some 23/\isAggB Tryz.prog 41=false/\tcs Tryz.prog 41=[41]:=by repeat' (first|(with_reducible apply And.intro)|kernel_rfl)
@[simp] theorem jF8_12 :srcT Tryz.prog 41=true/\(Tryz.prog.info? 41).isSome=true/\intK Tryz.prog 44=some IntKind.u64/\Tryz.prog.cellsOf 50=1/\slel Tryz.prog 50=some 9/\isAggB Tryz.prog 50=false/\tcs Tryz.prog 50=[50]/\srcT Tryz.prog 50=true/\(Tryz.prog.info? 50).isSome=true/\Tryz.prog.cellsOf 51=1/\slel Tryz.prog 51=some 145/\isAggB Tryz.prog 51=false/\tcs Tryz.prog 51=[51]/\srcT Tryz.prog 51=true/\(Tryz.prog.info? 51).isSome=true/\Tryz.prog.cellsOf 52=1/\slel Tryz.prog 52=some 148/\isAggB Tryz.prog 52=false/\tcs Tryz.prog 52=[52]/\srcT Tryz.prog 52=true/\(Tryz.prog.info? 52).isSome=true/\Tryz.prog.cellsOf 54=3/\isAggB Tryz.prog 54=true/\At Tryz.prog 54=none:=by repeat' (first|(with_reducible apply And.intro)|kernel_rfl)
@[simp] theorem Oj :isAggB Tryz.prog 58=true:=by kernel_rfl
@[simp] theorem tcs_58 :tcs Tryz.prog 58=[41,3]:=by kernel_rfl
@[simp] theorem jF8_13 :A9 Tryz.prog 54=true/\tcs Tryz.prog 54=[50,51,52]/\flds Tryz.prog 54=[(0,1,50),(1,1,51),(2,1,52)]/\zeros Tryz.prog 54=some [Value.slice none 0 0,Value.slice none 0 0,Value.slice none 0 0]/\(Tryz.prog.info? 54).isSome=true/\Tryz.prog.cellsOf 58=2/\At Tryz.prog 58=none/\A9 Tryz.prog 58=true/\flds Tryz.prog 58=[(0,1,41),(1,1,3)]/\zeros Tryz.prog 58=some [Value.slice none 0 0,Value.int IntKind.i64 0]/\(Tryz.prog.info? 58).isSome=true/\Tryz.prog.cellsOf 61=1/\isAggB Tryz.prog 61=false/\tcs Tryz.prog 61=[61]/\Tryz.prog.cellsOf 63=1/\isAggB Tryz.prog 63=false/\tcs Tryz.prog 63=[63]/\Tryz.prog.cellsOf 73=1/\slel Tryz.prog 73=some 5/\isAggB Tryz.prog 73=false/\strB Tryz.prog 73=false/\tcs Tryz.prog 73=[73]/\srcT Tryz.prog 73=true/\(Tryz.prog.info? 73).isSome=true:=by repeat' (first|(with_reducible apply And.intro)|kernel_rfl)
@[simp] theorem jF8_14 :Tryz.prog.cellsOf 88=3/\isAggB Tryz.prog 88=true/\At Tryz.prog 88=none/\A9 Tryz.prog 88=true/\tcs Tryz.prog 88=[3,9,3]/\flds Tryz.prog 88=[(0,1,3),(1,1,9),(2,1,3)]/\zeros Tryz.prog 88=some [Value.int IntKind.i64 0,Value.string {data:={toList:=[]}},Value.int IntKind.i64 0]/\(Tryz.prog.info? 88).isSome=true/\Tryz.prog.cellsOf 97=1/\slel Tryz.prog 97=some 163/\isAggB Tryz.prog 97=false/\tcs Tryz.prog 97=[97]/\srcT Tryz.prog 97=true/\(Tryz.prog.info? 97).isSome=true/\Tryz.prog.cellsOf 99=2/\isAggB Tryz.prog 99=true/\At Tryz.prog 99=none/\A9 Tryz.prog 99=true/\tcs Tryz.prog 99=[3,97]/\flds Tryz.prog 99=[(0,1,3),(1,1,97)]/\zeros Tryz.prog 99=some [Value.int IntKind.i64 0,Value.slice none 0 0]/\(Tryz.prog.info? 99).isSome=true/\Tryz.prog.cellsOf 104=1/\slel Tryz.prog 104=some 177:=by repeat' (first|(with_reducible apply And.intro)|kernel_rfl)
@[simp] theorem jF8_15 :isAggB Tryz.prog 104=false/\tcs Tryz.prog 104=[104]/\srcT Tryz.prog 104=true/\(Tryz.prog.info? 104).isSome=true/\Tryz.prog.cellsOf 106=2/\isAggB Tryz.prog 106=true/\At Tryz.prog 106=none/\A9 Tryz.prog 106=true/\tcs Tryz.prog 106=[3,104]/\flds Tryz.prog 106=[(0,1,3),(1,1,104)]/\zeros Tryz.prog 106=some [Value.int IntKind.i64 0,Value.slice none 0 0]/\(Tryz.prog.info? 106).isSome=true/\Tryz.prog.cellsOf 108=1/\isAggB Tryz.prog 108=false/\tcs Tryz.prog 108=[108]/\Tryz.prog.cellsOf 118=4/\Tryz.prog.bytesOf 118=32/\isAggB Tryz.prog 118=true/\tOk Tryz.prog 118=true/\At Tryz.prog 118=none/\zrow Tryz.prog 118=some [AV.sc (Value.int IntKind.i64 0),AV.sc (Value.int IntKind.i64 0),AV.sc (Value.int IntKind.i64 0),AV.sc (Value.int IntKind.i64 0)]/\A9 Tryz.prog 118=true/\tcs Tryz.prog 118=[3,3,3,3]/\zok Tryz.prog 118=true:=by repeat' (first|(with_reducible apply And.intro)|kernel_rfl)
@[simp] theorem jF8_16 :flds Tryz.prog 118=[(0,1,3),(1,1,3),(2,1,3),(3,1,3)]/\zeros Tryz.prog 118=some [Value.int IntKind.i64 0,Value.int IntKind.i64 0,Value.int IntKind.i64 0,Value.int IntKind.i64 0]/\(Tryz.prog.info? 118).isSome=true/\Tryz.prog.cellsOf 131=1/\slel Tryz.prog 131=some 141/\isAggB Tryz.prog 131=false/\tcs Tryz.prog 131=[131]/\srcT Tryz.prog 131=true/\Tryz.prog.cellsOf 135=1/\At Tryz.prog 135=none/\A9 Tryz.prog 135=true/\tcs Tryz.prog 135=[3]/\flds Tryz.prog 135=[(0,1,3)]/\zeros Tryz.prog 135=some [Value.int IntKind.i64 0]/\(Tryz.prog.info? 135).isSome=true/\Tryz.prog.cellsOf 137=3/\At Tryz.prog 137=none/\A9 Tryz.prog 137=true/\tcs Tryz.prog 137=[131,3,3]/\flds Tryz.prog 137=[(0,1,131),(1,1,3),(2,1,3)]/\zeros Tryz.prog 137=some [Value.slice none 0 0,Value.int IntKind.i64 0,Value.int IntKind.i64 0]/\Tryz.prog.cellsOf 141=4/\Tryz.prog.bytesOf 141=40/\isAggB Tryz.prog 141=true:=by repeat' (first|(with_reducible apply And.intro)|kernel_rfl)
@[simp] theorem jF8_17 :tOk Tryz.prog 141=true/\At Tryz.prog 141=none/\zrow Tryz.prog 141=some [AV.sc (Value.int IntKind.i64 0),AV.sc (Value.string {data:={toList:=[]}}),AV.sc (Value.int IntKind.u32 0),AV.sc (Value.int IntKind.i64 0)]/\A9 Tryz.prog 141=true/\tcs Tryz.prog 141=[3,9,23,3]/\zok Tryz.prog 141=true/\flds Tryz.prog 141=[(0,1,3),(1,1,9),(2,1,23),(3,1,3)]/\zeros Tryz.prog 141=some [Value.int IntKind.i64 0,Value.string {data:={toList:=[]}},Value.int IntKind.u32 0,Value.int IntKind.i64 0]/\(Tryz.prog.info? 141).isSome=true/\Tryz.prog.cellsOf 145=2/\Tryz.prog.bytesOf 145=24/\isAggB Tryz.prog 145=true/\tOk Tryz.prog 145=true/\At Tryz.prog 145=none/\zrow Tryz.prog 145=some [AV.sc (Value.string {data:={toList:=[]}}),AV.sc (Value.int IntKind.i64 0)]/\A9 Tryz.prog 145=true/\tcs Tryz.prog 145=[9,3]/\zok Tryz.prog 145=true/\flds Tryz.prog 145=[(0,1,9),(1,1,3)]/\zeros Tryz.prog 145=some [Value.string {data:={toList:=[]}},Value.int IntKind.i64 0]/\(Tryz.prog.info? 145).isSome=true/\Tryz.prog.cellsOf 146=1/\slel Tryz.prog 146=some 215/\isAggB Tryz.prog 146=false:=by repeat' (first|(with_reducible apply And.intro)|kernel_rfl)
@[simp] theorem jF8_18 :tcs Tryz.prog 146=[146]/\srcT Tryz.prog 146=true/\(Tryz.prog.info? 146).isSome=true/\Tryz.prog.cellsOf 148=5/\Tryz.prog.bytesOf 148=96/\isAggB Tryz.prog 148=true/\tOk Tryz.prog 148=true/\zrow Tryz.prog 148=some [AV.sc (Value.string {data:={toList:=[]}}),AV.sl false 1 [],AV.sl false 1 [],AV.sc (Value.bool false),AV.sl false 5 []]/\tcs Tryz.prog 148=[9,50,50,4,146]/\zok Tryz.prog 148=true/\flds Tryz.prog 148=[(0,1,9),(1,1,50),(2,1,50),(3,1,4),(4,1,146)]/\zeros Tryz.prog 148=some [Value.string {data:={toList:=[]}},Value.slice none 0 0,Value.slice none 0 0,Value.bool false,Value.slice none 0 0]/\(Tryz.prog.info? 148).isSome=true/\Tryz.prog.cellsOf 153=1/\isAggB Tryz.prog 153=false/\tcs Tryz.prog 153=[153]/\Tryz.prog.cellsOf 157=2/\isAggB Tryz.prog 157=true/\At Tryz.prog 157=none/\A9 Tryz.prog 157=true/\tcs Tryz.prog 157=[153,153]/\flds Tryz.prog 157=[(0,1,153),(1,1,153)]/\zeros Tryz.prog 157=some [Value.map none,Value.map none]/\(Tryz.prog.info? 157).isSome=true:=by repeat' (first|(with_reducible apply And.intro)|kernel_rfl)
@[simp] theorem jF8_19 :Tryz.prog.cellsOf 159=2/\isAggB Tryz.prog 159=true/\At Tryz.prog 159=none/\zrow Tryz.prog 159=some [AV.sc (Value.int IntKind.i64 0),AV.sc (Value.int IntKind.i64 0)]/\A9 Tryz.prog 159=true/\tcs Tryz.prog 159=[3,3]/\zok Tryz.prog 159=true/\flds Tryz.prog 159=[(0,1,3),(1,1,3)]/\zeros Tryz.prog 159=some [Value.int IntKind.i64 0,Value.int IntKind.i64 0]/\(Tryz.prog.info? 159).isSome=true/\Tryz.prog.cellsOf 160=1/\slel Tryz.prog 160=some 222/\isAggB Tryz.prog 160=false/\tcs Tryz.prog 160=[160]/\srcT Tryz.prog 160=true/\Tryz.prog.cellsOf 163=5/\Tryz.prog.bytesOf 163=56/\isAggB Tryz.prog 163=true/\tOk Tryz.prog 163=true/\At Tryz.prog 163=none/\zrow Tryz.prog 163=some [AV.sc (Value.int IntKind.i64 0),AV.sc (Value.int IntKind.i64 0),AV.sc (Value.int IntKind.i64 0),AV.sc (Value.bool false),AV.sl false 6 []]/\A9 Tryz.prog 163=true/\tcs Tryz.prog 163=[3,3,3,4,160]/\zok Tryz.prog 163=true:=by repeat' (first|(with_reducible apply And.intro)|kernel_rfl)
@[simp] theorem jF8_20 :flds Tryz.prog 163=[(0,1,3),(1,1,3),(2,1,3),(3,1,4),(4,1,160)]/\zeros Tryz.prog 163=some [Value.int IntKind.i64 0,Value.int IntKind.i64 0,Value.int IntKind.i64 0,Value.bool false,Value.slice none 0 0]/\(Tryz.prog.info? 163).isSome=true/\Tryz.prog.cellsOf 164=1/\slel Tryz.prog 164=some 27/\isAggB Tryz.prog 164=false/\tcs Tryz.prog 164=[164]/\srcT Tryz.prog 164=true/\(Tryz.prog.info? 164).isSome=true/\Tryz.prog.cellsOf 166=4/\isAggB Tryz.prog 166=true/\At Tryz.prog 166=none/\A9 Tryz.prog 166=true/\tcs Tryz.prog 166=[164,27,27,3]/\flds Tryz.prog 166=[(0,1,164),(1,1,27),(2,1,27),(3,1,3)]/\zeros Tryz.prog 166=some [Value.slice none 0 0,Value.slice none 0 0,Value.slice none 0 0,Value.int IntKind.i64 0]/\(Tryz.prog.info? 166).isSome=true/\Tryz.prog.cellsOf 169=1/\slel Tryz.prog 169=some 118/\isAggB Tryz.prog 169=false/\tcs Tryz.prog 169=[169]/\srcT Tryz.prog 169=true/\(Tryz.prog.info? 169).isSome=true/\Tryz.prog.cellsOf 170=1:=by repeat' (first|(with_reducible apply And.intro)|kernel_rfl)
@[simp] theorem jF8_21 :slel Tryz.prog 170=some 230/\isAggB Tryz.prog 170=false/\tcs Tryz.prog 170=[170]/\srcT Tryz.prog 170=true/\(Tryz.prog.info? 170).isSome=true/\Tryz.prog.cellsOf 172=12/\At Tryz.prog 172=none/\A9 Tryz.prog 172=true/\tcs Tryz.prog 172=[3,104,164,27,27,3,169,27,164,170,3,3]/\flds Tryz.prog 172=[(0,2,106),(2,4,166),(6,1,169),(7,1,27),(8,1,164),(9,1,170),(10,1,3),(11,1,3)]/\zeros Tryz.prog 172=some [Value.int IntKind.i64 0,Value.slice none 0 0,Value.slice none 0 0,Value.slice none 0 0,Value.slice none 0 0,Value.int IntKind.i64 0,Value.slice none 0 0,Value.slice none 0 0,Value.slice none 0 0,Value.slice none 0 0,Value.int IntKind.i64 0,Value.int IntKind.i64 0]/\Tryz.prog.cellsOf 174=1/\slel Tryz.prog 174=some 315/\isAggB Tryz.prog 174=false/\tcs Tryz.prog 174=[174]/\srcT Tryz.prog 174=true/\(Tryz.prog.info? 174).isSome=true/\Tryz.prog.cellsOf 177=5/\Tryz.prog.bytesOf 177=56/\isAggB Tryz.prog 177=true/\tOk Tryz.prog 177=true/\At Tryz.prog 177=none/\zrow Tryz.prog 177=some [AV.sc (Value.int IntKind.i64 0),AV.sc (Value.int IntKind.i64 0),AV.sc (Value.int IntKind.i64 0),AV.sc (Value.bool false),AV.sl false 4 []]/\A9 Tryz.prog 177=true:=by repeat' (first|(with_reducible apply And.intro)|kernel_rfl)
@[simp] theorem jF8_22 :tcs Tryz.prog 177=[3,3,3,4,174]/\zok Tryz.prog 177=true/\flds Tryz.prog 177=[(0,1,3),(1,1,3),(2,1,3),(3,1,4),(4,1,174)]/\zeros Tryz.prog 177=some [Value.int IntKind.i64 0,Value.int IntKind.i64 0,Value.int IntKind.i64 0,Value.bool false,Value.slice none 0 0]/\(Tryz.prog.info? 177).isSome=true/\Tryz.prog.cellsOf 207=1/\isAggB Tryz.prog 207=false/\tcs Tryz.prog 207=[207]/\Tryz.prog.cellsOf 213=1/\slel Tryz.prog 213=some 288/\isAggB Tryz.prog 213=false/\tcs Tryz.prog 213=[213]/\srcT Tryz.prog 213=true/\(Tryz.prog.info? 213).isSome=true/\Tryz.prog.cellsOf 215=5/\Tryz.prog.bytesOf 215=96/\isAggB Tryz.prog 215=true/\tOk Tryz.prog 215=true/\At Tryz.prog 215=none/\zrow Tryz.prog 215=some [AV.sc (Value.int IntKind.i64 0),AV.sc (Value.string {data:={toList:=[]}}),AV.sl false 5 [],AV.sl false 5 [],AV.sl false 5 []]/\A9 Tryz.prog 215=true/\tcs Tryz.prog 215=[3,9,213,146,146]/\zok Tryz.prog 215=true/\flds Tryz.prog 215=[(0,1,3),(1,1,9),(2,1,213),(3,1,146),(4,1,146)]:=by repeat' (first|(with_reducible apply And.intro)|kernel_rfl)
@[simp] theorem jF8_23 :zeros Tryz.prog 215=some [Value.int IntKind.i64 0,Value.string {data:={toList:=[]}},Value.slice none 0 0,Value.slice none 0 0,Value.slice none 0 0]/\(Tryz.prog.info? 215).isSome=true/\Tryz.prog.cellsOf 219=1/\slel Tryz.prog 219=some 309/\isAggB Tryz.prog 219=false/\tcs Tryz.prog 219=[219]/\srcT Tryz.prog 219=true/\Tryz.prog.cellsOf 222=6/\Tryz.prog.bytesOf 222=96/\tOk Tryz.prog 222=true/\At Tryz.prog 222=none/\zrow Tryz.prog 222=some [AV.sc (Value.int IntKind.i64 0),AV.sc (Value.int IntKind.i64 0),AV.sc (Value.int IntKind.i64 0),AV.sl false 6 [],AV.sl false 6 [],AV.sl false 6 []]/\A9 Tryz.prog 222=true/\tcs Tryz.prog 222=[3,3,3,219,160,160]/\zok Tryz.prog 222=true/\flds Tryz.prog 222=[(0,1,3),(1,1,3),(2,1,3),(3,1,219),(4,1,160),(5,1,160)]/\zeros Tryz.prog 222=some [Value.int IntKind.i64 0,Value.int IntKind.i64 0,Value.int IntKind.i64 0,Value.slice none 0 0,Value.slice none 0 0,Value.slice none 0 0]/\Tryz.prog.cellsOf 225=1/\isAggB Tryz.prog 225=false/\tcs Tryz.prog 225=[225]/\Tryz.prog.cellsOf 230=3/\Tryz.prog.bytesOf 230=24/\isAggB Tryz.prog 230=true/\tOk Tryz.prog 230=true:=by repeat' (first|(with_reducible apply And.intro)|kernel_rfl)
@[simp] theorem jF8_24 :At Tryz.prog 230=none/\zrow Tryz.prog 230=some [AV.sc (Value.int IntKind.i64 0),AV.sc (Value.int IntKind.i64 0),AV.sc (Value.int IntKind.i64 0)]/\A9 Tryz.prog 230=true/\tcs Tryz.prog 230=[3,3,3]/\zok Tryz.prog 230=true/\flds Tryz.prog 230=[(0,1,3),(1,1,3),(2,1,3)]/\zeros Tryz.prog 230=some [Value.int IntKind.i64 0,Value.int IntKind.i64 0,Value.int IntKind.i64 0]/\(Tryz.prog.info? 230).isSome=true/\Tryz.prog.cellsOf 232=2/\At Tryz.prog 232=none/\A9 Tryz.prog 232=true/\tcs Tryz.prog 232=[4,174]/\flds Tryz.prog 232=[(0,1,4),(1,1,174)]/\zeros Tryz.prog 232=some [Value.bool false,Value.slice none 0 0]/\(Tryz.prog.info? 232).isSome=true/\slel Tryz.prog 284=none/\At Tryz.prog 284=some (24,9)/\Tryz.prog.cellsOf 288=5/\Tryz.prog.bytesOf 288=64/\isAggB Tryz.prog 288=true/\tOk Tryz.prog 288=true/\At Tryz.prog 288=none/\zrow Tryz.prog 288=some [AV.sc (Value.int IntKind.i64 0),AV.sc (Value.int IntKind.i64 0),AV.sc (Value.int IntKind.u32 0),AV.sc (Value.string {data:={toList:=[]}}),AV.sl false 5 []]/\A9 Tryz.prog 288=true:=by repeat' (first|(with_reducible apply And.intro)|kernel_rfl)
@[simp] theorem jF8_25 :tcs Tryz.prog 288=[3,3,23,9,213]/\zok Tryz.prog 288=true/\flds Tryz.prog 288=[(0,1,3),(1,1,3),(2,1,23),(3,1,9),(4,1,213)]/\zeros Tryz.prog 288=some [Value.int IntKind.i64 0,Value.int IntKind.i64 0,Value.int IntKind.u32 0,Value.string {data:={toList:=[]}},Value.slice none 0 0]/\(Tryz.prog.info? 288).isSome=true/\Tryz.prog.cellsOf 290=1/\isAggB Tryz.prog 290=false/\tcs Tryz.prog 290=[290]/\zeros Tryz.prog 290=some [Value.map none]/\(Tryz.prog.info? 290).isSome=true/\Tryz.prog.cellsOf 295=2/\isAggB Tryz.prog 295=true/\At Tryz.prog 295=none/\A9 Tryz.prog 295=true/\tcs Tryz.prog 295=[290,290]/\flds Tryz.prog 295=[(0,1,290),(1,1,290)]/\zeros Tryz.prog 295=some [Value.map none,Value.map none]/\(Tryz.prog.info? 295).isSome=true/\Tryz.prog.cellsOf 298=3/\At Tryz.prog 298=none/\A9 Tryz.prog 298=true/\tcs Tryz.prog 298=[3,9,3]/\flds Tryz.prog 298=[(0,1,3),(1,1,9),(2,1,3)]/\zeros Tryz.prog 298=some [Value.int IntKind.i64 0,Value.string {data:={toList:=[]}},Value.int IntKind.i64 0]:=by repeat' (first|(with_reducible apply And.intro)|kernel_rfl)
@[simp] theorem jF8_26 :Tryz.prog.cellsOf 300=2/\isAggB Tryz.prog 300=true/\At Tryz.prog 300=none/\zrow Tryz.prog 300=some [AV.sc (Value.int IntKind.i64 0),AV.sc (Value.int IntKind.i64 0)]/\A9 Tryz.prog 300=true/\tcs Tryz.prog 300=[3,3]/\zok Tryz.prog 300=true/\flds Tryz.prog 300=[(0,1,3),(1,1,3)]/\zeros Tryz.prog 300=some [Value.int IntKind.i64 0,Value.int IntKind.i64 0]/\(Tryz.prog.info? 300).isSome=true/\Tryz.prog.cellsOf 302=1/\isAggB Tryz.prog 302=false/\tcs Tryz.prog 302=[302]/\Tryz.prog.cellsOf 309=6/\Tryz.prog.bytesOf 309=64/\tOk Tryz.prog 309=true/\At Tryz.prog 309=none/\zrow Tryz.prog 309=some [AV.sc (Value.int IntKind.i64 0),AV.sc (Value.int IntKind.i64 0),AV.sc (Value.int IntKind.u32 0),AV.sc (Value.int IntKind.i64 0),AV.sc (Value.int IntKind.i64 0),AV.sl false 6 []]/\A9 Tryz.prog 309=true/\tcs Tryz.prog 309=[3,3,23,3,3,219]/\zok Tryz.prog 309=true/\flds Tryz.prog 309=[(0,1,3),(1,1,3),(2,1,23),(3,1,3),(4,1,3),(5,1,219)]/\zeros Tryz.prog 309=some [Value.int IntKind.i64 0,Value.int IntKind.i64 0,Value.int IntKind.u32 0,Value.int IntKind.i64 0,Value.int IntKind.i64 0,Value.slice none 0 0]/\Tryz.prog.cellsOf 311=1:=by repeat' (first|(with_reducible apply And.intro)|kernel_rfl)
@[simp] theorem jF8_27 :tcs Tryz.prog 311=[27]/\flds Tryz.prog 311=[(0,1,27)]/\zeros Tryz.prog 311=some [Value.slice none 0 0]/\Tryz.prog.cellsOf 315=4/\Tryz.prog.bytesOf 315=32/\isAggB Tryz.prog 315=true/\tOk Tryz.prog 315=true/\At Tryz.prog 315=none/\zrow Tryz.prog 315=some [AV.sc (Value.int IntKind.i64 0),AV.sc (Value.int IntKind.i64 0),AV.sc (Value.int IntKind.i64 0),AV.sc (Value.int IntKind.u32 0)]/\A9 Tryz.prog 315=true/\tcs Tryz.prog 315=[3,3,3,23]/\zok Tryz.prog 315=true/\flds Tryz.prog 315=[(0,1,3),(1,1,3),(2,1,3),(3,1,23)]/\zeros Tryz.prog 315=some [Value.int IntKind.i64 0,Value.int IntKind.i64 0,Value.int IntKind.i64 0,Value.int IntKind.u32 0]/\(Tryz.prog.info? 315).isSome=true/\Tryz.prog.cellsOf 318=1/\isAggB Tryz.prog 318=false/\zrow Tryz.prog 318=some [AV.sc Value.nilFunc]/\tcs Tryz.prog 318=[318]/\zok Tryz.prog 318=true/\Tryz.prog.cellsOf 321=4/\isAggB Tryz.prog 321=true/\At Tryz.prog 321=none/\A9 Tryz.prog 321=true:=by repeat' (first|(with_reducible apply And.intro)|kernel_rfl)
@[simp] theorem jF8_28 :tcs Tryz.prog 321=[9,4,4,3]/\flds Tryz.prog 321=[(0,1,9),(1,1,4),(2,1,4),(3,1,3)]/\zeros Tryz.prog 321=some [Value.string {data:={toList:=[]}},Value.bool false,Value.bool false,Value.int IntKind.i64 0]/\(Tryz.prog.info? 321).isSome=true/\Tryz.prog.cellsOf 324=1/\isAggB Tryz.prog 324=false/\tcs Tryz.prog 324=[324]/\slel Tryz.prog 370=none/\At Tryz.prog 370=some (10,9)/\Tryz.prog.cellsOf 374=1/\isAggB Tryz.prog 374=false/\tcs Tryz.prog 374=[374]/\zeros Tryz.prog 374=some [Value.nilFunc]/\(Tryz.prog.info? 374).isSome=true/\Tryz.prog.cellsOf 375=1/\isAggB Tryz.prog 375=false/\tcs Tryz.prog 375=[375]/\zeros Tryz.prog 375=some [Value.nilFunc]/\(Tryz.prog.info? 375).isSome=true/\isAggB Tryz.prog 376=false/\Tryz.prog.cellsOf 377=1/\isAggB Tryz.prog 377=false/\tOk Tryz.prog 377=true/\tcs Tryz.prog 377=[377]:=by repeat' (first|(with_reducible apply And.intro)|kernel_rfl)
@[simp] theorem jF8_29 :(Tryz.prog.info? 377).isSome=true/\At Tryz.prog 378=some (10,377)/\Tryz.prog.cellsOf 380=11/\At Tryz.prog 380=none/\A9 Tryz.prog 380=true/\tcs Tryz.prog 380=[376,377,377,377,377,377,377,377,377,377,377]/\flds Tryz.prog 380=[(0,1,376),(1,10,378)]/\zeros Tryz.prog 380=some [Value.map none,Value.nilFunc,Value.nilFunc,Value.nilFunc,Value.nilFunc,Value.nilFunc,Value.nilFunc,Value.nilFunc,Value.nilFunc,Value.nilFunc,Value.nilFunc]:=by repeat' (first|(with_reducible apply And.intro)|kernel_rfl)
end Go.Proofs.YtpmoibjpjlhcgaaGreatDoor
