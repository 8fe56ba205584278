/- A part of the proof: Hf. -/
import Derived.Test.YtpmoibjpjlhcgaaGreatDoorY07
set_option linter.unusedSimpArgs false
set_option linter.unusedVariables false
namespace Go.Proofs.YtpmoibjpjlhcgaaGreatDoor
open Go Go.Ab
theorem rvs_8 :Tryz.f8.results.toList=[.tmp 4,.tmp 5]:=rfl
theorem rvs_9 :Tryz.f9.results.toList=[.tmp 2,.tmp 3,.tmp 4]:=rfl
theorem rvs_13 :Tryz.f13.results.toList=[.tmp 4]:=rfl
theorem rvs_19 :Tryz.f19.results.toList=[.tmp 2,.tmp 3]:=rfl
theorem rvs_22 :Tryz.f22.results.toList=[.cell 2 54,.tmp 3,.tmp 4]:=rfl
theorem rvs_23 :Tryz.f23.results.toList=[.cell 6 58,.tmp 7]:=rfl
theorem rvs_24 :Tryz.f24.results.toList=[.cell 2 58,.tmp 3]:=rfl
theorem rvs_25 :Tryz.f25.results.toList=[.tmp 6,.tmp 7]:=rfl
theorem rvs_26 :Tryz.f26.results.toList=[.tmp 2,.tmp 3]:=rfl
theorem rvs_33 :Tryz.f33.results.toList=[.tmp 2]:=rfl
theorem rvs_46 :Tryz.f46.results.toList=[]:=rfl
theorem rvs_47 :Tryz.f47.results.toList=[.cell 2 54]:=rfl
theorem rvs_48 :Tryz.f48.results.toList=[.tmp 2]:=rfl
theorem rvs_49 :Tryz.f49.results.toList=[.cell 2 99,.tmp 3]:=rfl
theorem rvs_50 :Tryz.f50.results.toList=[.cell 6 58,.tmp 7]:=rfl
theorem rvs_51 :Tryz.f51.results.toList=[.cell 2 58,.tmp 3]:=rfl
theorem rvs_52 :Tryz.f52.results.toList=[.cell 2 58,.tmp 3]:=rfl
theorem rvs_53 :Tryz.f53.results.toList=[.cell 2 106]:=rfl
theorem rvs_54 :Tryz.f54.results.toList=[.tmp 2]:=rfl
theorem rvs_71 :Tryz.f71.results.toList=[.tmp 2,.tmp 3,.tmp 4]:=rfl
theorem rvs_73 :Tryz.f73.results.toList=[]:=rfl
theorem rvs_74 :Tryz.f74.results.toList=[.tmp 4]:=rfl
theorem rvs_75 :Tryz.f75.results.toList=[.tmp 2]:=rfl
theorem rvs_76 :Tryz.f76.results.toList=[.cell 4 141]:=rfl
theorem rvs_77 :Tryz.f77.results.toList=[]:=rfl
theorem rvs_78 :Tryz.f78.results.toList=[.cell 2 148]:=rfl
theorem rvs_79 :Tryz.f79.results.toList=[.tmp 2]:=rfl
theorem rvs_80 :Tryz.f80.results.toList=[.tmp 2]:=rfl
theorem rvs_81 :Tryz.f81.results.toList=[.tmp 4]:=rfl
theorem rvs_82 :Tryz.f82.results.toList=[.tmp 2]:=rfl
theorem rvs_83 :Tryz.f83.results.toList=[.tmp 2,.tmp 3]:=rfl
theorem rvs_84 :Tryz.f84.results.toList=[.tmp 4]:=rfl
theorem rvs_85 :Tryz.f85.results.toList=[.cell 2 166]:=rfl
theorem rvs_86 :Tryz.f86.results.toList=[.tmp 2]:=rfl
theorem rvs_87 :Tryz.f87.results.toList=[.tmp 2,.tmp 3]:=rfl
theorem rvs_88 :Tryz.f88.results.toList=[.tmp 2]:=rfl
theorem rvs_107 :Tryz.f107.results.toList=[.tmp 4]:=rfl
theorem Po :Tryz.f108.results.toList=[.tmp 4]:=rfl
theorem rvs_109 :Tryz.f109.results.toList=[.tmp 2]:=rfl
theorem rvs_110 :Tryz.f110.results.toList=[.cell 2 141,.tmp 3]:=rfl
theorem rvs_111 :Tryz.f111.results.toList=[.tmp 2]:=rfl
theorem rvs_112 :Tryz.f112.results.toList=[.tmp 2]:=rfl
theorem rvs_113 :Tryz.f113.results.toList=[.tmp 2]:=rfl
theorem rvs_114 :Tryz.f114.results.toList=[.tmp 2]:=rfl
theorem rvs_115 :Tryz.f115.results.toList=[.tmp 2]:=rfl
theorem rvs_116 :Tryz.f116.results.toList=[.tmp 4]:=rfl
theorem rvs_117 :Tryz.f117.results.toList=[.tmp 2]:=rfl
theorem rvs_118 :Tryz.f118.results.toList=[.tmp 2]:=rfl
theorem rvs_119 :Tryz.f119.results.toList=[.cell 4 159]:=rfl
theorem rvs_120 :Tryz.f120.results.toList=[.tmp 4]:=rfl
theorem rvs_121 :Tryz.f121.results.toList=[.tmp 4,.tmp 5]:=rfl
theorem rvs_122 :Tryz.f122.results.toList=[.tmp 0]:=rfl
theorem rvs_123 :Tryz.f123.results.toList=[]:=rfl
theorem rvs_124 :Tryz.f124.results.toList=[]:=rfl
theorem rvs_125 :Tryz.f125.results.toList=[.tmp 2]:=rfl
theorem rvs_126 :Tryz.f126.results.toList=[]:=rfl
theorem rvs_127 :Tryz.f127.results.toList=[]:=rfl
theorem rvs_155 :Tryz.f155.results.toList=[.tmp 4]:=rfl
theorem rvs_156 :Tryz.f156.results.toList=[.tmp 2]:=rfl
theorem rvs_157 :Tryz.f157.results.toList=[.cell 2 141,.tmp 3]:=rfl
theorem rvs_158 :Tryz.f158.results.toList=[.cell 2 141,.tmp 3]:=rfl
theorem rvs_159 :Tryz.f159.results.toList=[.tmp 2]:=rfl
theorem rvs_160 :Tryz.f160.results.toList=[.cell 2 141,.tmp 3]:=rfl
theorem rvs_161 :Tryz.f161.results.toList=[.tmp 2]:=rfl
theorem rvs_162 :Tryz.f162.results.toList=[.cell 2 215]:=rfl
theorem rvs_163 :Tryz.f163.results.toList=[.tmp 2]:=rfl
theorem rvs_164 :Tryz.f164.results.toList=[.tmp 4]:=rfl
theorem rvs_165 :Tryz.f165.results.toList=[.tmp 2]:=rfl
theorem rvs_166 :Tryz.f166.results.toList=[.tmp 2,.tmp 3]:=rfl
theorem rvs_167 :Tryz.f167.results.toList=[.tmp 2,.tmp 3]:=rfl
theorem rvs_168 :Tryz.f168.results.toList=[]:=rfl
theorem rvs_169 :Tryz.f169.results.toList=[]:=rfl
theorem rvs_170 :Tryz.f170.results.toList=[.cell 4 300]:=rfl
theorem rvs_172 :Tryz.f172.results.toList=[.tmp 4]:=rfl
theorem rvs_173 :Tryz.f173.results.toList=[.tmp 6]:=rfl
theorem rvs_174 :Tryz.f174.results.toList=[]:=rfl
theorem rvs_175 :Tryz.f175.results.toList=[.tmp 2]:=rfl
theorem rvs_176 :Tryz.f176.results.toList=[.tmp 2]:=rfl
theorem rvs_177 :Tryz.f177.results.toList=[.tmp 8,.tmp 9]:=rfl
theorem rvs_178 :Tryz.f178.results.toList=[.tmp 4]:=rfl
theorem rvs_179 :Tryz.f179.results.toList=[]:=rfl
theorem rvs_180 :Tryz.f180.results.toList=[]:=rfl
theorem rvs_181 :Tryz.f181.results.toList=[]:=rfl
theorem rvs_182 :Tryz.f182.results.toList=[]:=rfl
theorem rvs_183 :Tryz.f183.results.toList=[]:=rfl
theorem rvs_184 :Tryz.f184.results.toList=[]:=rfl
theorem rvs_185 :Tryz.f185.results.toList=[]:=rfl
theorem rvs_186 :Tryz.f186.results.toList=[]:=rfl
theorem rvs_187 :Tryz.f187.results.toList=[]:=rfl
theorem rvs_188 :Tryz.f188.results.toList=[]:=rfl
theorem rvs_189 :Tryz.f189.results.toList=[]:=rfl
theorem rvs_190 :Tryz.f190.results.toList=[]:=rfl
theorem rvs_191 :Tryz.f191.results.toList=[]:=rfl
theorem rvs_192 :Tryz.f192.results.toList=[]:=rfl
theorem rvs_193 :Tryz.f193.results.toList=[]:=rfl
theorem rvs_194 :Tryz.f194.results.toList=[]:=rfl
theorem rvs_195 :Tryz.f195.results.toList=[]:=rfl
theorem rvs_196 :Tryz.f196.results.toList=[]:=rfl
theorem rvs_197 :Tryz.f197.results.toList=[]:=rfl
theorem rvs_198 :Tryz.f198.results.toList=[]:=rfl
theorem rvs_199 :Tryz.f199.results.toList=[.tmp 2]:=rfl
theorem rvs_200 :Tryz.f200.results.toList=[.cell 2 321]:=rfl
theorem rvs_201 :Tryz.f201.results.toList=[.tmp 6]:=rfl
theorem rvs_202 :Tryz.f202.results.toList=[]:=rfl
theorem Y7 :Tryz.f203.results.toList=[]:=rfl
theorem rvs_238 :Tryz.f238.results.toList=[.tmp 2]:=rfl
theorem rvs_239 :Tryz.f239.results.toList=[.cell 4 288]:=rfl
theorem rvs_240 :Tryz.f240.results.toList=[.tmp 2]:=rfl
theorem rvs_241 :Tryz.f241.results.toList=[.cell 2 215]:=rfl
theorem rvs_242 :Tryz.f242.results.toList=[]:=rfl
theorem rvs_243 :Tryz.f243.results.toList=[]:=rfl
theorem rvs_244 :Tryz.f244.results.toList=[]:=rfl
theorem rvs_245 :Tryz.f245.results.toList=[]:=rfl
theorem rvs_246 :Tryz.f246.results.toList=[.tmp 2]:=rfl
theorem rvs_247 :Tryz.f247.results.toList=[.tmp 4]:=rfl
theorem rvs_248 :Tryz.f248.results.toList=[.tmp 4]:=rfl
theorem rvs_249 :Tryz.f249.results.toList=[.tmp 4]:=rfl
theorem rvs_250 :Tryz.f250.results.toList=[.tmp 4]:=rfl
theorem rvs_251 :Tryz.f251.results.toList=[.tmp 4]:=rfl
theorem rvs_252 :Tryz.f252.results.toList=[.tmp 6]:=rfl
theorem rvs_253 :Tryz.f253.results.toList=[.tmp 2]:=rfl
theorem rvs_254 :Tryz.f254.results.toList=[]:=rfl
theorem rvs_255 :Tryz.f255.results.toList=[]:=rfl
theorem rvs_256 :Tryz.f256.results.toList=[.tmp 4]:=rfl
theorem rvs_290 :Tryz.f290.results.toList=[.cell 2 288]:=rfl
theorem rvs_291 :Tryz.f291.results.toList=[.cell 2 288,.tmp 3]:=rfl
theorem rvs_292 :Tryz.f292.results.toList=[.tmp 2]:=rfl
theorem rvs_293 :Tryz.f293.results.toList=[.tmp 4]:=rfl
theorem Y6 :Tryz.f294.results.toList=[]:=rfl
theorem rvs_295 :Tryz.f295.results.toList=[]:=rfl
theorem rvs_322 :Tryz.f322.results.toList=[.cell 2 288]:=rfl
@[simp] theorem jHf_0 :E47.hp 9=false/\E47.hp 22=false/\E47.hp 23=false/\E47.hp 24=false/\E47.hp 25=false/\E47.hp 26=false/\E47.hp 33=false/\E47.hp 46=true/\E47.hp 48=false/\E47.hp 49=false/\E47.hp 50=false/\E47.hp 51=false/\E47.hp 52=false/\E47.hp 53=false/\E47.hp 54=false/\E47.hp 71=false/\E47.hp 75=true/\E47.hp 78=true/\E47.hp 79=false/\E47.hp 80=false/\E47.hp 81=false/\E47.hp 82=false/\E47.hp 83=false/\E47.hp 84=false:=⟨rfl,rfl,rfl,rfl,rfl,rfl,rfl,rfl,rfl,rfl,rfl,rfl,rfl,rfl,rfl,rfl,rfl,rfl,rfl,rfl,rfl,rfl,rfl,rfl⟩
@[simp] theorem jHf_1 :E47.hp 85=false/\E47.hp 87=false/\E47.hp 88=false/\E47.hp 95=false/\E47.hp 107=false/\E47.hp 108=false/\E47.hp 109=false/\E47.hp 110=false/\E47.hp 114=false/\E47.hp 115=false/\E47.hp 116=false/\E47.hp 117=false/\E47.hp 118=false/\E47.hp 119=false/\E47.hp 120=false/\E47.hp 121=false/\E47.hp 122=false/\E47.hp 123=true/\E47.hp 125=false/\E47.hp 155=false/\E47.hp 156=false/\E47.hp 157=false/\E47.hp 158=false/\E47.hp 159=false:=⟨rfl,rfl,rfl,rfl,rfl,rfl,rfl,rfl,rfl,rfl,rfl,rfl,rfl,rfl,rfl,rfl,rfl,rfl,rfl,rfl,rfl,rfl,rfl,rfl⟩
@[simp] theorem jHf_2 :E47.hp 160=false/\E47.hp 161=false/\E47.hp 163=false/\E47.hp 164=false/\E47.hp 165=false/\E47.hp 166=false/\E47.hp 167=false/\E47.hp 170=false/\E47.hp 172=true/\E47.hp 173=true/\E47.hp 177=false/\E47.hp 178=false/\E47.hp 190=true/\E47.hp 199=false/\E47.hp 200=false/\E47.hp 201=false/\E47.hp 203=true/\E47.hp 239=true/\E47.hp 246=false/\E47.hp 247=true/\E47.hp 248=true/\E47.hp 249=true/\E47.hp 250=true/\E47.hp 251=true:=⟨rfl,rfl,rfl,rfl,rfl,rfl,rfl,rfl,rfl,rfl,rfl,rfl,rfl,rfl,rfl,rfl,rfl,rfl,rfl,rfl,rfl,rfl,rfl,rfl⟩
@[simp] theorem jHf_3 :E47.hp 252=true/\E47.hp 253=false/\E47.hp 291=false/\E47.hp 293=true/\E47.hp 322=false:=⟨rfl,rfl,rfl,rfl,rfl⟩
end Go.Proofs.YtpmoibjpjlhcgaaGreatDoor
