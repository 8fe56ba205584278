/- A part of the proof: Ri, Ua, Oa, Ob. -/
import Derived.Test.YtpedpkegmalgmaaGreatDoorZ10
import Derived.Test.YtpedpkegmalgmaaGreatDoorZ12
import Derived.Test.YtpedpkegmalgmaaGreatDoorZ13
import Derived.Lib.Hide
set_option linter.unusedSimpArgs false
set_option linter.unusedVariables false
set_option maxRecDepth 200000
set_option maxHeartbeats 8000000
namespace Go.Proofs.YtpedpkegmalgmaaGreatDoor
section
open Go Go.Ab
def hpA :List Nat:=[19,20,21,22,24,25,26,52,70,96,97,98,104,105,117,118,119,121,122,123,124,136,137,138,139,140,141,142,153,155,156,160,164,167,168,169,177,178,179,180,184,185,186,189,190,191,192,193,194,199,200,202,203,211,217,218,221,226,227,228,229,230,231,232,235,236,238,243,244,245,246,248,254,255,256,257,258,259,260,261,262,263,264,265,266,267,268,269,270,271,272,273,277,278,279,280,281,282,283,284,285,286,288,289,290,291,292,293,297,299,300,301,302,303,306,308,309,310,311,312,313,314,315,316,317,320,321,322,323,325,326,328,329,330,331,332,333,335,336,337,338,339,340,342,343,348,349,351,352,353,354,363,364,365,366,367,378,380,382]
def EA :Cfg:={eq:=fun t=>t==24||t==34,hp:=fun f=>hpA.contains f,inl:=fun f=>[221,177,184].contains f,bx:=fun t=>[240,246,270,235,317,326].contains t,yl:=fun _=>false,ws:=70}
theorem EA_law :ELaw Tryz.prog EA:=by
 refine⟨fun t ht w x y us vs b h1 h2 h=>?_,fun _=>rfl⟩
 have ht2:t=24∨t=34:=by simpa[EA] using ht
 rcases ht2 with rfl|rfl
 ·exact array_law (by kernel_rfl) (by kernel_rfl) (by kernel_rfl) w x y us vs b h1 h2 h
 ·exact struct_law (by kernel_rfl) (by kernel_rfl) (by kernel_rfl) (by kernel_rfl) (by kernel_rfl) w x y us vs b h1 h2 h
def fce (n:Int)(f:Int→Option (List AV)):Option (List AV):=match n.toNat+1 with
 |0=>none
 |_+1=>f n
def lit4 (d:Q.D4):Option (List AV):=fce d.d0 fun a=>fce d.d1 fun b=>fce d.d2 fun c=>fce d.d3 fun e=>some [.agg [uv a,uv b,uv c,uv e]]
theorem lit4_eq (d:Q.D4):lit4 d=some [.agg d.row]:=rfl
def rd4 :AV→Option Q.D4
 | .agg [.sc (.int .u32 a),.sc (.int .u32 b),.sc (.int .u32 c),.sc (.int .u32 d)]=>some ⟨a,b,c,d⟩
 |_=>none
theorem rd4_eq {x:AV}{p:Q.D4}(h:rd4 x=some p):x= .agg p.row:=by
 unfold rd4 at h
 split at h
 ·cases h;rfl
 ·cases h
def XD :Orc:=⟨fun f a=>match a with
 |[.sc (.string s)]=>if (f==28||f==34)&&decide (s.size≤1000000) then lit4 (Q.ofP s) else none
 |[x,y]=>if f==33||f==37 then(match rd4 x,rd4 y with|some p,some q=>lit4 (Q.pairP p q)|_,_=>none) else none
 |_=>none,fun _ _ _ _ _=>none⟩
theorem XD_ok :OrcOk Tryz.prog XD:=by
 refine⟨fun f a r h=>?_,fun _ _ _ _ _ _ _ h=>nomatch h⟩
 simp only[XD] at h
 split at h
 ·rename_i s
  split at h
  ·rename_i hc
   simp only[Bool.and_eq_true,Bool.or_eq_true,beq_iff_eq,decide_eq_true_eq] at hc
   rw[lit4_eq] at h
   cases h
   obtain⟨hf|hf,hs⟩:=hc
   ·subst hf;exact L46r_ok.1 _ _ _ (Q.d27 s hs)
   ·subst hf;exact L46r_ok.1 _ _ _ (Q.d34 s hs)
  ·cases h
 ·rename_i x y
  split at h
  ·rename_i hc
   simp only[Bool.or_eq_true,beq_iff_eq] at hc
   split at h
   ·rename_i p q hp hq
    rw[lit4_eq] at h
    cases h
    rw[rd4_eq hp,rd4_eq hq]
    obtain hf|hf:=hc
    ·subst hf;exact L46r_ok.1 _ _ _ (Q.d33 p q)
    ·subst hf;exact L46r_ok.1 _ _ _ (Q.d37 p q)
   ·cases h
  ·cases h
 ·cases h
def srcA :ByteArray:=⟨#[102,117,110,99,32,109,97,105,110,40,41,32,123,32,112,117,116,40,39,104,39,41,59,32,112,117,116,40,39,105,39,41,59,32,125]⟩
def binA :ByteArray:=⟨#[104,105]⟩
def pzA (k:Int):AV:= .agg [iv k,.sl false 1 [],tv ⟨#[]⟩,iv 0,uv 0,uv 0,uv 0,uv 0,tv ⟨#[]⟩]
def saA :List AV:=[uv 3589047133,uv 3549922436,uv 2911926221,uv 98228837]++[iv 0,.sl false 4 [[uv 3720311765,uv 3355430862,uv 106809698,uv 3646503560],[uv 1242540699,uv 68341604,uv 2794308440,uv 1340293046],[uv 3396309139,uv 68341604,uv 2794308440,uv 1340293046],[uv 628716992,uv 3951660276,uv 3930972986,uv 3908968203],[uv 2104469472,uv 3009800320,uv 1942577991,uv 332914921],[uv 13746531,uv 3355430862,uv 106809698,uv 3646503560],[uv 3619883078,uv 845841939,uv 239381800,uv 3640732516],[uv 1787188574,uv 947287506,uv 3950757117,uv 3350304957],[uv 422536421,uv 1579329498,uv 840828413,uv 3714164508],[uv 3372904979,uv 3009800320,uv 1942577991,uv 332914921],[uv 3409616163,uv 68341604,uv 2794308440,uv 1340293046],[uv 3220657983,uv 1969232946,uv 3493842354,uv 453650536],[uv 630895607,uv 68341604,uv 2794308440,uv 1340293046],[uv 2159652269,uv 1464014828,uv 645815143,uv 1615191184],[uv 2367757399,uv 2169802557,uv 2002924848,uv 616227216],[uv 463227923,uv 4157669793,uv 3933790160,uv 2244688493],[uv 1981703245,uv 1969232946,uv 3493842354,uv 453650536],[uv 575555318,uv 3009800320,uv 1942577991,uv 332914921],[uv 1360988812,uv 3951660276,uv 3930972986,uv 3908968203],[uv 931977259,uv 1464014828,uv 645815143,uv 1615191184],[uv 2493713073,uv 947287506,uv 3950757117,uv 3350304957],[uv 765614253,uv 947287506,uv 3950757117,uv 3350304957],[uv 3283780422,uv 947287506,uv 3950757117,uv 3350304957],[uv 1702642518,uv 3037547900,uv 4091958367,uv 1904584872],[uv 3121301728,uv 3816230895,uv 1872614766,uv 1556485170],[uv 2759823044,uv 1579329498,uv 840828413,uv 3714164508],[uv 3902007696,uv 3009800320,uv 1942577991,uv 332914921],[uv 3954020341,uv 2169802557,uv 2002924848,uv 616227216],[uv 2329307822,uv 68341604,uv 2794308440,uv 1340293046],[uv 1433179484,uv 1464014828,uv 645815143,uv 1615191184],[uv 3265044935,uv 3009800320,uv 1942577991,uv 332914921],[uv 2416785624,uv 845841939,uv 239381800,uv 3640732516],[uv 2445399947,uv 1464014828,uv 645815143,uv 1615191184],[uv 1858307957,uv 1464014828,uv 645815143,uv 1615191184],[uv 3189900792,uv 3951660276,uv 3930972986,uv 3908968203]],.sl false 4 [[uv 1801958269,uv 1907289946,uv 2271014956,uv 1393973132]]]
def sbA :List AV:=[uv 3589047133,uv 3549922436,uv 2911926221,uv 98228837]++[iv 1,.sl false 4 [[uv 3410643344,uv 2169802557,uv 2002924848,uv 616227216],[uv 2128080582,uv 3037547900,uv 4091958367,uv 1904584872],[uv 2666170835,uv 3037547900,uv 4091958367,uv 1904584872],[uv 699948871,uv 1969232946,uv 3493842354,uv 453650536],[uv 2533027269,uv 4157669793,uv 3933790160,uv 2244688493],[uv 1881971536,uv 2169802557,uv 2002924848,uv 616227216],[uv 473338993,uv 1464014828,uv 645815143,uv 1615191184],[uv 3124658446,uv 3355430862,uv 106809698,uv 3646503560],[uv 1857479322,uv 613828584,uv 1734600712,uv 2558120244],[uv 3086184218,uv 1579329498,uv 840828413,uv 3714164508],[uv 943287343,uv 613828584,uv 1734600712,uv 2558120244],[uv 1520054320,uv 1579329498,uv 840828413,uv 3714164508],[uv 766662046,uv 526657288,uv 1096075028,uv 2854606790],[uv 1082495393,uv 3009800320,uv 1942577991,uv 332914921],[uv 3822968489,uv 68341604,uv 2794308440,uv 1340293046],[uv 3889595162,uv 1969232946,uv 3493842354,uv 453650536],[uv 2122195113,uv 845841939,uv 239381800,uv 3640732516],[uv 2875104462,uv 4157669793,uv 3933790160,uv 2244688493],[uv 1279810308,uv 947287506,uv 3950757117,uv 3350304957],[uv 2420192601,uv 2169802557,uv 2002924848,uv 616227216],[uv 3280946830,uv 3355430862,uv 106809698,uv 3646503560],[uv 2342597700,uv 947287506,uv 3950757117,uv 3350304957],[uv 691800418,uv 1464014828,uv 645815143,uv 1615191184],[uv 277453432,uv 1579329498,uv 840828413,uv 3714164508],[uv 2172724915,uv 526657288,uv 1096075028,uv 2854606790],[uv 4210385789,uv 3355430862,uv 106809698,uv 3646503560],[uv 2789410469,uv 1579329498,uv 840828413,uv 3714164508],[uv 723450018,uv 3037547900,uv 4091958367,uv 1904584872],[uv 3686239343,uv 947287506,uv 3950757117,uv 3350304957],[uv 1144651079,uv 947287506,uv 3950757117,uv 3350304957],[uv 3627995591,uv 4157669793,uv 3933790160,uv 2244688493],[uv 2929092185,uv 68341604,uv 2794308440,uv 1340293046],[uv 2184982965,uv 1969232946,uv 3493842354,uv 453650536],[uv 1785972253,uv 4157669793,uv 3933790160,uv 2244688493],[uv 2908070717,uv 3009800320,uv 1942577991,uv 332914921]],.sl false 4 [[uv 720850131,uv 1907289946,uv 2271014956,uv 1393973132]]]
def saR :List AV:=[uv 3589047133,uv 3549922436,uv 2911926221,uv 98228837]++[iv 0,.vec 4 [[uv 3720311765,uv 3355430862,uv 106809698,uv 3646503560],[uv 1242540699,uv 68341604,uv 2794308440,uv 1340293046],[uv 3396309139,uv 68341604,uv 2794308440,uv 1340293046],[uv 628716992,uv 3951660276,uv 3930972986,uv 3908968203],[uv 2104469472,uv 3009800320,uv 1942577991,uv 332914921],[uv 13746531,uv 3355430862,uv 106809698,uv 3646503560],[uv 3619883078,uv 845841939,uv 239381800,uv 3640732516],[uv 1787188574,uv 947287506,uv 3950757117,uv 3350304957],[uv 422536421,uv 1579329498,uv 840828413,uv 3714164508],[uv 3372904979,uv 3009800320,uv 1942577991,uv 332914921],[uv 3409616163,uv 68341604,uv 2794308440,uv 1340293046],[uv 3220657983,uv 1969232946,uv 3493842354,uv 453650536],[uv 630895607,uv 68341604,uv 2794308440,uv 1340293046],[uv 2159652269,uv 1464014828,uv 645815143,uv 1615191184],[uv 2367757399,uv 2169802557,uv 2002924848,uv 616227216],[uv 463227923,uv 4157669793,uv 3933790160,uv 2244688493],[uv 1981703245,uv 1969232946,uv 3493842354,uv 453650536],[uv 575555318,uv 3009800320,uv 1942577991,uv 332914921],[uv 1360988812,uv 3951660276,uv 3930972986,uv 3908968203],[uv 931977259,uv 1464014828,uv 645815143,uv 1615191184],[uv 2493713073,uv 947287506,uv 3950757117,uv 3350304957],[uv 765614253,uv 947287506,uv 3950757117,uv 3350304957],[uv 3283780422,uv 947287506,uv 3950757117,uv 3350304957],[uv 1702642518,uv 3037547900,uv 4091958367,uv 1904584872],[uv 3121301728,uv 3816230895,uv 1872614766,uv 1556485170],[uv 2759823044,uv 1579329498,uv 840828413,uv 3714164508],[uv 3902007696,uv 3009800320,uv 1942577991,uv 332914921],[uv 3954020341,uv 2169802557,uv 2002924848,uv 616227216],[uv 2329307822,uv 68341604,uv 2794308440,uv 1340293046],[uv 1433179484,uv 1464014828,uv 645815143,uv 1615191184],[uv 3265044935,uv 3009800320,uv 1942577991,uv 332914921],[uv 2416785624,uv 845841939,uv 239381800,uv 3640732516],[uv 2445399947,uv 1464014828,uv 645815143,uv 1615191184],[uv 1858307957,uv 1464014828,uv 645815143,uv 1615191184],[uv 3189900792,uv 3951660276,uv 3930972986,uv 3908968203]],.vec 4 [[uv 1801958269,uv 1907289946,uv 2271014956,uv 1393973132]]]
def sbR :List AV:=[uv 3589047133,uv 3549922436,uv 2911926221,uv 98228837]++[iv 1,.vec 4 [[uv 3410643344,uv 2169802557,uv 2002924848,uv 616227216],[uv 2128080582,uv 3037547900,uv 4091958367,uv 1904584872],[uv 2666170835,uv 3037547900,uv 4091958367,uv 1904584872],[uv 699948871,uv 1969232946,uv 3493842354,uv 453650536],[uv 2533027269,uv 4157669793,uv 3933790160,uv 2244688493],[uv 1881971536,uv 2169802557,uv 2002924848,uv 616227216],[uv 473338993,uv 1464014828,uv 645815143,uv 1615191184],[uv 3124658446,uv 3355430862,uv 106809698,uv 3646503560],[uv 1857479322,uv 613828584,uv 1734600712,uv 2558120244],[uv 3086184218,uv 1579329498,uv 840828413,uv 3714164508],[uv 943287343,uv 613828584,uv 1734600712,uv 2558120244],[uv 1520054320,uv 1579329498,uv 840828413,uv 3714164508],[uv 766662046,uv 526657288,uv 1096075028,uv 2854606790],[uv 1082495393,uv 3009800320,uv 1942577991,uv 332914921],[uv 3822968489,uv 68341604,uv 2794308440,uv 1340293046],[uv 3889595162,uv 1969232946,uv 3493842354,uv 453650536],[uv 2122195113,uv 845841939,uv 239381800,uv 3640732516],[uv 2875104462,uv 4157669793,uv 3933790160,uv 2244688493],[uv 1279810308,uv 947287506,uv 3950757117,uv 3350304957],[uv 2420192601,uv 2169802557,uv 2002924848,uv 616227216],[uv 3280946830,uv 3355430862,uv 106809698,uv 3646503560],[uv 2342597700,uv 947287506,uv 3950757117,uv 3350304957],[uv 691800418,uv 1464014828,uv 645815143,uv 1615191184],[uv 277453432,uv 1579329498,uv 840828413,uv 3714164508],[uv 2172724915,uv 526657288,uv 1096075028,uv 2854606790],[uv 4210385789,uv 3355430862,uv 106809698,uv 3646503560],[uv 2789410469,uv 1579329498,uv 840828413,uv 3714164508],[uv 723450018,uv 3037547900,uv 4091958367,uv 1904584872],[uv 3686239343,uv 947287506,uv 3950757117,uv 3350304957],[uv 1144651079,uv 947287506,uv 3950757117,uv 3350304957],[uv 3627995591,uv 4157669793,uv 3933790160,uv 2244688493],[uv 2929092185,uv 68341604,uv 2794308440,uv 1340293046],[uv 2184982965,uv 1969232946,uv 3493842354,uv 453650536],[uv 1785972253,uv 4157669793,uv 3933790160,uv 2244688493],[uv 2908070717,uv 3009800320,uv 1942577991,uv 332914921]],.vec 4 [[uv 720850131,uv 1907289946,uv 2271014956,uv 1393973132]]]
def a30 :List AV:=[.agg [uv 1,uv 0,uv 0,uv 0],iv 1,iv 0,.agg ([uv 3179587875,uv 3504450657,uv 2612116070,uv 737224359]++[uv 336810658,uv 4274699114,uv 2640510715,uv 3381526180])]
def a31 :List AV:=[.agg [uv 1,uv 0,uv 0,uv 0],iv 1,iv 1,.agg (iv 2::[uv 2672614199,uv 3987153544,uv 246179894,uv 3565587617])]
def a44 :List AV:=[tv srcA,tv binA,pzA 1,pzA 2,iv 1000000]
def a60 (d r:List AV):List AV:=[.agg [.sl false 4 [[uv 3589047133,uv 3549922436,uv 2911926221,uv 98228837]],iv 1],.agg d,.sl false 7 [r]]
def lkA :List AV:=[uv 3328347347,uv 2019582366,uv 136393530,uv 3079233933]
def hdA :List AV:=[uv 2594236700,uv 1195898976,uv 3728327447,uv 4235867110]
def r44 :List AV:=[.agg [iv 0,iv (-1),iv (-1)]]
def r60 :List AV:=[.vec 1 [[iv 0]]]
def XA :Orc:=orX (oneX 30 a30 [.agg saR]) (orX (oneX 31 a31 [.agg sbR]) (orX (oneX 44 a44 r44) (orX (oneX 60 (a60 lkA saA) r60) (orX (oneX 60 (a60 hdA sbA) r60) XD))))
theorem alive_x :(lim Tryz.prog EA XA).dat 5 []=some [bv true]:=lim_dat.2 ⟨80,by kernel_rfl⟩
theorem alive_s (h30:SemD Tryz.prog 30 a30 [.agg saR])(h31:SemD Tryz.prog 31 a31 [.agg sbR])(h44:SemD Tryz.prog 44 a44 r44)(h1:SemD Tryz.prog 60 (a60 lkA saA) r60)(h2:SemD Tryz.prog 60 (a60 hdA sbA) r60):SemD Tryz.prog 5 [] [bv true]:=
 (lim_ok mixed6 EA_law (orX_ok (oneX_ok h30) (orX_ok (oneX_ok h31) (orX_ok (oneX_ok h44) (orX_ok (oneX_ok h1) (orX_ok (oneX_ok h2) XD_ok)))))).1 _ _ _ alive_x
end
section
open Go Go.Ab
def EK :Cfg:={eq:=fun t=>t==24,hp:=fun f=>f==97||f==98||f==105,yl:=fun _=>false}
@[simp] theorem EK_eq (t:Nat):EK.eq t=(t==24):=rfl
@[simp] theorem EK_hp (f:Nat):EK.hp f=(f==97||f==98||f==105):=rfl
@[simp] theorem EK_off :EK.off=0:=rfl
@[simp] theorem EK_ws :EK.ws=0:=rfl
@[simp] theorem EK_cl :EK.cl=false:=rfl
@[simp] theorem EK_frz (f:Nat):EK.frz f=false:=rfl
@[simp] theorem EK_inl (f:Nat):EK.inl f=false:=rfl
@[simp] theorem EK_bx (t:Nat):EK.bx t=false:=rfl
theorem EK_law :ELaw Tryz.prog EK:=by
 refine⟨fun t ht w x y us vs b h1 h2 h=>?_,fun _=>rfl⟩
 simp only[EK_eq,beq_iff_eq] at ht
 subst ht
 exact array_law (by kernel_rfl) (by kernel_rfl) (by kernel_rfl) w x y us vs b h1 h2 h
def walkP (d:Q.D4):Nat→Q.D4
 |0=>d
 |n+1=>Q.pairP (walkP d n) ⟨0,0,0,1⟩
theorem walkP_one (d:Q.D4): ∀n,walkP d (n+1)=walkP (Q.pairP d ⟨0,0,0,1⟩) n
 |0=>rfl
 |n+1=>by rw[walkP,walkP_one d n];rfl
attribute [-simp] Prog.bind getCs putCs
attribute [local simp ↓] run_bind
attribute [local simp ↓] runF_bind
attribute [local simp] run_getCsN runF_getCsN runF_putCsN facetsC facetsW facetsH putCs_one run_putCsN
theorem walk_r {X:Orc}(hX: ∀a,X.dat 80 a=none)(hP: ∀a b:Q.D4,(lim Tryz.prog EK X).dat 37 [.agg a.row,.agg b.row]=some [.agg (Q.pairP a b).row])(x:Q.D4)(n:Nat)(hn:n≤1048576):(lim Tryz.prog EK X).dat 80 [.agg [uv x.d0,uv x.d1,uv x.d2,uv x.d3],iv n]=some [.agg [uv (walkP x n).d0,uv (walkP x n).d1,uv (walkP x n).d2,uv (walkP x n).d3]]:=by
 refine fnW (P:=Tryz.prog) (E:=EK) (X:=X) Tryz.func80 (hX _) rfl bodyOk_80 rfl rtys_80 rvs_80 ?_
 have hs: ∀k,(lim Tryz.prog EK X).dat 37 [.agg [uv (walkP x k).d0,uv (walkP x k).d1,uv (walkP x k).d2,uv (walkP x k).d3],.agg [uv 0,uv 0,uv 0,uv 1]]=some [.agg [uv (walkP x (k+1)).d0,uv (walkP x (k+1)).d1,uv (walkP x (k+1)).d2,uv (walkP x (k+1)).d3]]:=fun k=>hP (walkP x k) ⟨0,0,0,1⟩
 replace hs:=Lib.hid hs
 clear hP
 repeat' (first|(refine ZN ?_)|(refine Z2 ?_ ?_)|(intro h h';try simp[*,-h] at h'))
 refine W_loopS (n:=n) (fun s0 m q=> ∃k:Nat,m=n - k∧k≤n∧q.fr 5=iv k∧q.hp ⟨0,2,0⟩= .box 1 [uv (walkP x k).d0,uv (walkP x k).d1,uv (walkP x k).d2,uv (walkP x k).d3] false∧q.fr 1=s0.fr 1∧q.fr 2=s0.fr 2∧q.fr 4=s0.fr 4∧q.hp ⟨0,4,0⟩=s0.hp ⟨0,4,0⟩) ⟨0,by omega,by omega,by simp,by simp[walkP],by simp,by simp,by simp,by simp⟩ ?_
 rintro m ⟨fr,hp⟩ ⟨k,rfl,hk,hsl,hbx,k0,k1,k2,k3⟩
 simp at hsl hbx k0 k1 k2 k3
 by_cases hlt:k<n
 ·have hlI:(k:Int)<n:=by omega
  have hw:=wrapN (k:=k) (by omega)
  have h:=hs.out k
  repeat' (first|(refine ZN ?_)|(refine Z2 ?_ ?_)|(intro h h';try simp[*,-h] at h'))
  all_goals exact⟨n - (k+1),by omega,k+1,rfl,by omega,by simp[*],by simp[*],by simp[*],by simp[*],by simp[*],by simp[*]⟩
 ·obtain rfl:k=n:=by omega
  repeat' (first|(refine ZN ?_)|(refine Z2 ?_ ?_)|(intro h h';try simp[*,-h] at h'))
  all_goals rfl
theorem walk_p {X:Orc}(hX: ∀a,X.dat 104 a=none)(hP: ∀a b:Q.D4,(lim Tryz.prog EK X).dat 33 [.agg a.row,.agg b.row]=some [.agg (Q.pairP a b).row])(x:Q.D4)(n:Nat)(hn:n≤1048576):(lim Tryz.prog EK X).dat 104 [.agg [uv x.d0,uv x.d1,uv x.d2,uv x.d3],iv n,.dp [uv 0,uv 0,uv 0,uv 1] 0]=some [.agg [uv (walkP x n).d0,uv (walkP x n).d1,uv (walkP x n).d2,uv (walkP x n).d3]]:=by
 refine fnW (P:=Tryz.prog) (E:=EK) (X:=X) Tryz.func104 (hX _) rfl bodyOk_104 rfl rtys_104 rvs_104 ?_
 have hs: ∀k,(lim Tryz.prog EK X).dat 33 [.agg [uv (walkP x k).d0,uv (walkP x k).d1,uv (walkP x k).d2,uv (walkP x k).d3],.agg [uv 0,uv 0,uv 0,uv 1]]=some [.agg [uv (walkP x (k+1)).d0,uv (walkP x (k+1)).d1,uv (walkP x (k+1)).d2,uv (walkP x (k+1)).d3]]:=fun k=>hP (walkP x k) ⟨0,0,0,1⟩
 replace hs:=Lib.hid hs
 clear hP
 repeat' (first|(refine ZN ?_)|(refine Z2 ?_ ?_)|(intro h h';try simp[*,-h] at h'))
 refine W_loopS (n:=n) (fun s0 m q=> ∃k:Nat,m=n - k∧k≤n∧q.fr 7=iv k∧q.hp ⟨0,3,0⟩= .box 1 [uv (walkP x k).d0,uv (walkP x k).d1,uv (walkP x k).d2,uv (walkP x k).d3] false∧q.fr 6=s0.fr 6∧q.fr 3=s0.fr 3∧q.fr 2=s0.fr 2∧q.fr 5=s0.fr 5∧q.hp ⟨0,5,0⟩=s0.hp ⟨0,5,0⟩) ⟨0,by omega,by omega,by simp,by simp[walkP],by simp,by simp,by simp,by simp,by simp⟩ ?_
 rintro m ⟨fr,hp⟩ ⟨k,rfl,hk,hsl,hbx,k0,k1,k2,k3,k4⟩
 simp at hsl hbx k0 k1 k2 k3 k4
 by_cases hlt:k<n
 ·have hlI:(k:Int)<n:=by omega
  have hw:=wrapN (k:=k) (by omega)
  have h:=hs.out k
  repeat' (first|(refine ZN ?_)|(refine Z2 ?_ ?_)|(intro h h';try simp[*,-h] at h'))
  all_goals exact⟨n - (k+1),by omega,k+1,rfl,by omega,by simp[*],by simp[*],by simp[*],by simp[*],by simp[*],by simp[*],by simp[*]⟩
 ·obtain rfl:k=n:=by omega
  repeat' (first|(refine ZN ?_)|(refine Z2 ?_ ?_)|(intro h h';try simp[*,-h] at h'))
  all_goals rfl
theorem XD_no {f:Nat}(h1:f≠28)(h2:f≠34)(h3:f≠33)(h4:f≠37)(a:List AV):XD.dat f a=none:=by
 simp only[XD]
 split
 ·rw[if_neg];simp[h1,h2]
 ·rw[if_neg];simp[h3,h4]
 ·rfl
theorem rd4_row (a:Q.D4):rd4 (.agg a.row)=some a:=by cases a;rfl
theorem XD_two {f:Nat}(hf:(f==33||f==37)=true)(a b:Q.D4):XD.dat f [.agg a.row,.agg b.row]=some [.agg (Q.pairP a b).row]:=by
 have e:XD.dat f [.agg a.row,.agg b.row]=lit4 (Q.pairP a b):=by
  simp only[XD]
  rw[if_pos hf,rd4_row,rd4_row]
 rw[e,lit4_eq]
theorem XD_pairR (a b:Q.D4):(lim Tryz.prog EK XD).dat 37 [.agg a.row,.agg b.row]=some [.agg (Q.pairP a b).row]:=lim_base_dat (XD_two (by decide) a b)
theorem XD_pair (a b:Q.D4):(lim Tryz.prog EK XD).dat 33 [.agg a.row,.agg b.row]=some [.agg (Q.pairP a b).row]:=lim_base_dat (XD_two (by decide) a b)
theorem LKD_ok :OrcOk Tryz.prog (lim Tryz.prog EK XD):=lim_ok mixed6 EK_law XD_ok
theorem walk_rs (x:Q.D4)(n:Nat)(hn:n≤1048576):SemD Tryz.prog 80 [.agg x.row,iv n] [.agg (walkP x n).row]:=LKD_ok.1 _ _ _ (walk_r (XD_no (by decide) (by decide) (by decide) (by decide)) XD_pairR x n hn)
theorem walk_ps (x:Q.D4)(n:Nat)(hn:n≤1048576):SemD Tryz.prog 104 [.agg x.row,iv n,.dp [uv 0,uv 0,uv 0,uv 1] 0] [.agg (walkP x n).row]:=LKD_ok.1 _ _ _ (walk_p (XD_no (by decide) (by decide) (by decide) (by decide)) XD_pair x n hn)
def tel (n:Int)(f:Int→Option (List AV)):Option (List AV):=match n with
 | .ofNat m=>match m+1 with
  |0=>none
  |k+1=>f (.ofNat k)
 | .negSucc m=>f (.negSucc m)
theorem tel_eq (n:Int)(f:Int→Option (List AV)):tel n f=f n:=by cases n<;>rfl
def walkT :Nat→Q.D4→Option (List AV)
 |0,d=>some [.agg [uv d.d0,uv d.d1,uv d.d2,uv d.d3]]
 |n+1,d=>(fun e:Q.D4=>tel e.d0 fun a=>tel e.d1 fun b=>tel e.d2 fun c=>tel e.d3 fun g=>walkT n ⟨a,b,c,g⟩) (Q.pairP d ⟨0,0,0,1⟩)
theorem walkT_eq : ∀n d,walkT n d=some [.agg (walkP d n).row]
 |0,d=>rfl
 |n+1,d=>by
  simp only[walkT,tel_eq]
  rw[walkP_one]
  exact walkT_eq n _
def XW :Orc:=⟨fun f a=>match a with
 |[x,.sc (.int .i64 n)]=>if f==80&&decide (0≤n)&&decide (n≤15) then(match rd4 x with|some p=>walkT n.toNat p|none=>none) else XD.dat f a
 |[x,.sc (.int .i64 n),.dp [.sc (.int .u32 0),.sc (.int .u32 0),.sc (.int .u32 0),.sc (.int .u32 1)] 0]=>if f==104&&decide (0≤n)&&decide (n≤15) then(match rd4 x with|some p=>walkT n.toNat p|none=>none) else XD.dat f a
 |_=>XD.dat f a,fun _ _ _ _ _=>none⟩
theorem XW_ok :OrcOk Tryz.prog XW:=by
 refine⟨fun f a r h=>?_,fun _ _ _ _ _ _ _ h=>nomatch h⟩
 simp only[XW] at h
 split at h
 ·rename_i x n
  split at h
  ·rename_i hc
   simp only[Bool.and_eq_true,beq_iff_eq,decide_eq_true_eq] at hc
   obtain⟨⟨rfl,h0⟩,h15⟩:=hc
   split at h
   ·rename_i q hq
    rw[walkT_eq] at h
    cases h
    rw[rd4_eq hq]
    obtain⟨m,rfl⟩:=Int.eq_ofNat_of_zero_le h0
    exact walk_rs q m (by omega)
   ·cases h
  ·exact XD_ok.1 _ _ _ h
 ·rename_i x n
  split at h
  ·rename_i hc
   simp only[Bool.and_eq_true,beq_iff_eq,decide_eq_true_eq] at hc
   obtain⟨⟨rfl,h0⟩,h15⟩:=hc
   split at h
   ·rename_i q hq
    rw[walkT_eq] at h
    cases h
    rw[rd4_eq hq]
    obtain⟨m,rfl⟩:=Int.eq_ofNat_of_zero_le h0
    exact walk_ps q m (by omega)
   ·cases h
  ·exact XD_ok.1 _ _ _ h
 ·exact XD_ok.1 _ _ _ h
end
section
open Go Go.Ab
/-! ### as the operations give them -/
def rawD (w:Int)(k:Nat):Int:=IntKind.i64.wrap (IntKind.u32.wrap ((BitVec.ofInt IntKind.u32.bits (w.fdiv (2^min k IntKind.u32.bits))&&&BitVec.ofInt IntKind.u32.bits 15).toNat))
def rawSum (l:List Int):Int:=l.foldl (fun s d=>IntKind.i64.wrap (s+IntKind.i64.wrap (15 - d))) 0
def rawE (s:Int)(k:Nat):Int:=IntKind.i64.wrap ((BitVec.ofInt IntKind.i64.bits (s.fdiv (2^min k IntKind.i64.bits))&&&BitVec.ofInt IntKind.i64.bits 15).toNat)
def rawF (s:Int):Int:=IntKind.i64.wrap ((BitVec.ofInt IntKind.i64.bits s&&&BitVec.ofInt IntKind.i64.bits 15).toNat)
def atsP :List Nat:=[28,24,20,16,12,8,4,0]
def rawDs (m:Q.D4):List Int:=atsP.map (rawD m.d0)++(atsP.map (rawD m.d1)++(atsP.map (rawD m.d2)++atsP.map (rawD m.d3)))
def rawSteps (m:Q.D4):List Int:=rawDs m++[rawE (rawSum (rawDs m)) 8,rawE (rawSum (rawDs m)) 4,rawF (rawSum (rawDs m))]
theorem stepsX (m:Q.D4):(lim Tryz.prog EK XD).dat 94 [.agg m.row]=some [.vec 1 ((rawSteps m).map fun n=>[iv n])]:=lim_dat.2 ⟨200,by kernel_rfl⟩
/-! ### plainly -/
def digN (w:Int)(k:Nat):Nat:=(w/2^k%16).toNat
def digsP (m:Q.D4):List Nat:=atsP.map (digN m.d0)++(atsP.map (digN m.d1)++(atsP.map (digN m.d2)++atsP.map (digN m.d3)))
def sumN (l:List Nat)(s:Nat):Nat:=l.foldl (fun s d=>s+(15 - d)) s
def stepsP (m:Q.D4):List Nat:=digsP m++[sumN (digsP m) 0/256%16,sumN (digsP m) 0/16%16,sumN (digsP m) 0%16]
theorem and15 (x:Nat):x&&&15=x%16:=Nat.and_two_pow_sub_one_eq_mod x 4
theorem and32 (v:Int):((BitVec.ofInt 32 v&&&BitVec.ofInt 32 15).toNat:Int)=v%16:=by
 rw[BitVec.toNat_and,BitVec.toNat_ofInt,BitVec.toNat_ofInt]
 have e:((15:Int)%((2^32:Nat):Int)).toNat=15:=by decide+kernel
 rw[e,and15]
 have:((2^32:Nat):Int)=4294967296:=by decide+kernel
 rw[this]
 omega
theorem and64 (v:Int):((BitVec.ofInt 64 v&&&BitVec.ofInt 64 15).toNat:Int)=v%16:=by
 rw[BitVec.toNat_and,BitVec.toNat_ofInt,BitVec.toNat_ofInt]
 have e:((15:Int)%((2^64:Nat):Int)).toNat=15:=by decide+kernel
 rw[e,and15]
 have:((2^64:Nat):Int)=18446744073709551616:=by decide+kernel
 rw[this]
 omega
theorem digN_lt (w:Int)(k:Nat):digN w k≤15:=by unfold digN;omega
theorem rawD_eq (w:Int)(k:Nat)(hk:k≤31):rawD w k=(digN w k:Int):=by
 unfold rawD
 rw[show min k IntKind.u32.bits=k from by show min k 32=k;omega,Int.fdiv_eq_ediv_of_nonneg _ (Int.pow_nonneg (by omega))]
 show IntKind.i64.wrap (IntKind.u32.wrap ((BitVec.ofInt 32 (w/2^k)&&&BitVec.ofInt 32 15).toNat:Int))=_
 rw[and32]
 unfold digN
 rw[IntKind.wrap_u32,wrap64 (by omega) (by omega)]
 omega
theorem rawDs_eq (m:Q.D4):rawDs m=(digsP m).map fun n:Nat=>(n:Int):=by
 simp[rawDs,digsP,atsP,rawD_eq]
theorem digsP_le (m:Q.D4): ∀d∈digsP m,d≤15:=by
 intro d hd
 simp only[digsP,List.mem_append,List.mem_map] at hd
 rcases hd with⟨k,_,rfl⟩|⟨k,_,rfl⟩|⟨k,_,rfl⟩|⟨k,_,rfl⟩<;>exact digN_lt _ _
theorem rawSum_eq : ∀(l:List Nat) (s:Nat),(∀d∈l,d≤15)→s+15*l.length≤1000000→(l.map fun n:Nat=>(n:Int)).foldl (fun s d=>IntKind.i64.wrap (s+IntKind.i64.wrap (15 - d))) (s:Int)=(sumN l s:Int)
 |[],s,_,_=>by simp[sumN]
 |d::l,s,h,hs=>by
  have hd:=h d (by simp)
  simp only[List.length_cons] at hs
  have ih:=rawSum_eq l (s+(15 - d)) (fun x hx=>h x (by simp[hx])) (by omega)
  have e:IntKind.i64.wrap ((s:Int)+IntKind.i64.wrap (15 - (d:Int)))=((s+(15 - d):Nat):Int):=by
   rw[wrap64 (n:=15 - (d:Int)) (by omega) (by omega),wrap64 (by omega) (by omega)];omega
  simp only[List.map_cons,List.foldl_cons,e,ih]
  rfl
theorem digsP_len (m:Q.D4):(digsP m).length=32:=rfl
theorem rawE_eq (s:Nat)(k:Nat)(hk:k≤60):rawE s k=((s/2^k%16:Nat):Int):=by
 unfold rawE
 rw[show min k IntKind.i64.bits=k from by show min k 64=k;omega,Int.fdiv_eq_ediv_of_nonneg _ (Int.pow_nonneg (by omega))]
 show IntKind.i64.wrap ((BitVec.ofInt 64 ((s:Int)/2^k)&&&BitVec.ofInt 64 15).toNat:Int)=_
 rw[and64,wrap64 (by omega) (by omega)]
 norm_cast
theorem rawF_eq (s:Nat):rawF s=((s%16:Nat):Int):=by
 unfold rawF
 show IntKind.i64.wrap ((BitVec.ofInt 64 (s:Int)&&&BitVec.ofInt 64 15).toNat:Int)=_
 rw[and64,wrap64 (by omega) (by omega)]
 omega
theorem rawSteps_eq (m:Q.D4):rawSteps m=(stepsP m).map fun n:Nat=>(n:Int):=by
 have hs:rawSum (rawDs m)=(sumN (digsP m) 0:Int):=by
  rw[rawDs_eq]
  exact rawSum_eq _ 0 (digsP_le m) (by rw[digsP_len];omega)
 unfold rawSteps stepsP
 rw[hs,rawE_eq _ 8 (by omega),rawE_eq _ 4 (by omega),rawF_eq,rawDs_eq]
 simp
abbrev rowN (l:List Nat):List (List AV):=l.map fun(n:Nat)=>[iv (n:Int)]
theorem stepsE (m:Q.D4):(lim Tryz.prog EK XD).dat 94 [.agg m.row]=some [.vec 1 (rowN (stepsP m))]:=by
 rw[stepsX,rawSteps_eq,List.map_map];rfl
theorem stepsP_len (m:Q.D4):(stepsP m).length=35:=rfl
theorem stepsP_le (m:Q.D4): ∀d∈stepsP m,d≤15:=by
 intro d hd
 unfold stepsP at hd
 rcases List.mem_append.1 hd with h|h
 ·exact digsP_le m d h
 ·simp only[List.mem_cons,List.not_mem_nil,or_false] at h
  omega
def stepAt (m:Q.D4)(i:Nat):Nat:=(stepsP m).getD i 0
theorem stepAt_le (m:Q.D4)(i:Nat):stepAt m i≤15:=by
 unfold stepAt
 rw[List.getD_eq_getElem?_getD]
 cases h:(stepsP m)[i]? with
 |none=>simp
 |some d=>exact stepsP_le m d (List.mem_of_getElem? h)
theorem stepAt_row (m:Q.D4)(i:Nat)(hi:i<35):(rowN (stepsP m))[i]?=some [iv (stepAt m i)]:=by
 unfold stepAt
 rw[List.getD_eq_getElem?_getD,List.getElem?_map]
 have:i<(stepsP m).length:=by rw[stepsP_len];exact hi
 rw[List.getElem?_eq_getElem this];rfl
def d4z :Q.D4:=⟨0,0,0,0⟩
abbrev rowG (l:List Q.D4):List (List AV):=l.map Q.D4.row
def togetherP (en:Nat→Q.D4):Nat→Q.D4
 |0=>⟨35,0,0,0⟩
 |n+1=>Q.pairP (togetherP en n) (en n)
theorem row_injD {p q:Q.D4}(h:p.row=q.row):p=q:=by
 cases p;cases q;simpa[Q.D4.row] using h
theorem rowG_inj : ∀{l m:List Q.D4},rowG l=rowG m→l=m
 |[],[],_=>rfl
 |[],_::_,h=>by simp at h
 |_::_,[],h=>by simp at h
 |a::l,b::m,h=>by
  simp only[List.map_cons,List.cons.injEq] at h
  rw[row_injD h.1,rowG_inj h.2]
def reachP (m:Q.D4)(l:List Q.D4):Q.D4:=togetherP (fun i=>walkP (l.getD i d4z) (15 - stepAt m i)) 35
attribute [-simp] Prog.bind getCs putCs
attribute [local simp ↓] run_bind
attribute [local simp ↓] runF_bind
attribute [local simp] run_getCsN runF_getCsN runF_putCsN facetsC facetsW facetsH putCs_one run_putCsN
theorem alongE :(lim Tryz.prog EK XD).dat 93 []=some [.fn 104 [.dp [uv 0,uv 0,uv 0,uv 1] 0]]:=by
 refine fnW (P:=Tryz.prog) (E:=EK) (X:=XD) Tryz.func93 (XD_no (by decide) (by decide) (by decide) (by decide) _) rfl bodyOk_93 rfl rtys_93 rvs_93 ?_
 repeat' (first|(refine ZN ?_)|(refine Z2 ?_ ?_)|(intro h h';try simp[*,-h] at h'))
 all_goals rfl
theorem reach1E (m:Q.D4)(l:List Q.D4)(hl:l.length=35)(i:Nat)(hi:i<35):(lim Tryz.prog EK XD).dat 96 [iv i,.dp [.fn 104 [.dp [uv 0,uv 0,uv 0,uv 1] 0]] 0,.dp [.sl false 4 (rowG l)] 0,.dp [.sl false 1 (rowN (stepsP m))] 0]=some [.agg [uv (walkP (l.getD i d4z) (15 - stepAt m i)).d0,uv (walkP (l.getD i d4z) (15 - stepAt m i)).d1,uv (walkP (l.getD i d4z) (15 - stepAt m i)).d2,uv (walkP (l.getD i d4z) (15 - stepAt m i)).d3]]:=by
 refine fnW (P:=Tryz.prog) (E:=EK) (X:=XD) Tryz.func96 (XD_no (by decide) (by decide) (by decide) (by decide) _) rfl bodyOk_96 rfl rtys_96 rvs_96 ?_
 have hlI:(i:Int)<35:=by omega
 have hG:=stepAt_row m i hi
 have hG2: ∀h,(rowN (stepsP m))[i]'h=[iv (stepAt m i)]:=fun h=>by rw[List.getElem?_eq_getElem h] at hG;exact Option.some.inj hG
 have hNl:(rowN (stepsP m)).length=35:=rfl
 have hL:(rowG l)[i]?=some (l.getD i d4z).row:=by
  have:i<l.length:=by omega
  rw[List.getElem?_map,List.getElem?_eq_getElem this,List.getD_eq_getElem?_getD,List.getElem?_eq_getElem this];rfl
 have hL2: ∀h,(rowG l)[i]'h=(l.getD i d4z).row:=fun h=>by rw[List.getElem?_eq_getElem h] at hL;exact Option.some.inj hL
 have hLl:(rowG l).length=35:=by rw[List.length_map,hl]
 have h77:(lim Tryz.prog EK XD).dat 104 [.agg [uv (l.getD i d4z).d0,uv (l.getD i d4z).d1,uv (l.getD i d4z).d2,uv (l.getD i d4z).d3],iv ((15 - stepAt m i:Nat):Int),.dp [uv 0,uv 0,uv 0,uv 1] 0]=some [.agg [uv (walkP (l.getD i d4z) (15 - stepAt m i)).d0,uv (walkP (l.getD i d4z) (15 - stepAt m i)).d1,uv (walkP (l.getD i d4z) (15 - stepAt m i)).d2,uv (walkP (l.getD i d4z) (15 - stepAt m i)).d3]]:=walk_p (XD_no (by decide) (by decide) (by decide) (by decide)) XD_pair (l.getD i d4z) (15 - stepAt m i) (by omega)
 have hle:=stepAt_le m i
 have hsub:IntKind.i64.wrap (15 - (stepAt m i:Int))=((15 - stepAt m i:Nat):Int):=by rw[wrap64 (by omega) (by omega)];omega
 simp only[Q.D4.row] at hL hL2
 generalize l.getD i d4z=x at*
 generalize 15 - stepAt m i=nn at*
 generalize stepAt m i=nk at*
 generalize walkP x nn=z at*
 generalize rowG l=RG at*
 generalize rowN (stepsP m)=RS at*
 clear hl
 repeat' (first|(refine ZN ?_)|(refine Z2 ?_ ?_)|(intro h h';try simp[*,-h] at h'))
 all_goals rfl
theorem togetherE (m:Q.D4)(l:List Q.D4)(en:Nat→Q.D4)(h69: ∀i:Nat,i<35→(lim Tryz.prog EK XD).dat 96 [iv i,.dp [.fn 104 [.dp [uv 0,uv 0,uv 0,uv 1] 0]] 0,.dp [.sl false 4 (rowG l)] 0,.dp [.sl false 1 (rowN (stepsP m))] 0]=some [.agg [uv (en i).d0,uv (en i).d1,uv (en i).d2,uv (en i).d3]]):(lim Tryz.prog EK XD).dat 95 [.fn 96 [.dp [.fn 104 [.dp [uv 0,uv 0,uv 0,uv 1] 0]] 0,.dp [.sl false 4 (rowG l)] 0,.dp [.sl false 1 (rowN (stepsP m))] 0]]=some [.agg [uv (togetherP en 35).d0,uv (togetherP en 35).d1,uv (togetherP en 35).d2,uv (togetherP en 35).d3]]:=by
 refine fnW (P:=Tryz.prog) (E:=EK) (X:=XD) Tryz.func95 (XD_no (by decide) (by decide) (by decide) (by decide) _) rfl bodyOk_95 rfl rtys_95 rvs_95 ?_
 have h33: ∀k,(lim Tryz.prog EK XD).dat 33 [.agg [uv (togetherP en k).d0,uv (togetherP en k).d1,uv (togetherP en k).d2,uv (togetherP en k).d3],.agg [uv (en k).d0,uv (en k).d1,uv (en k).d2,uv (en k).d3]]=some [.agg [uv (togetherP en (k+1)).d0,uv (togetherP en (k+1)).d1,uv (togetherP en (k+1)).d2,uv (togetherP en (k+1)).d3]]:=fun k=>XD_pair _ _
 replace h33:=Lib.hid h33
 replace h69:=Lib.hid h69
 repeat' (first|(refine ZN ?_)|(refine Z2 ?_ ?_)|(intro h h';try simp[*,-h] at h'))
 refine W_loopS (n:=35) (fun s0 mm q=> ∃k:Nat,mm=35 - k∧k≤35∧q.fr 6=iv k∧q.hp ⟨0,3,0⟩= .box 1 [uv (togetherP en k).d0,uv (togetherP en k).d1,uv (togetherP en k).d2,uv (togetherP en k).d3] false∧q.fr 0=s0.fr 0∧q.fr 3=s0.fr 3∧q.fr 2=s0.fr 2∧q.hp ⟨0,2,0⟩=s0.hp ⟨0,2,0⟩) ⟨0,by omega,by omega,by simp,by simp[togetherP],by simp,by simp,by simp,by simp⟩ ?_
 rintro mm ⟨fr,hp⟩ ⟨k,rfl,hk,hs6,hb3,hs0,hs3,hs2,hb2⟩
 simp at hs6 hb3 hs0 hs3 hs2 hb2
 by_cases hlt:k<35
 ·have hlI:(k:Int)<35:=by omega
  have hw:=wrapN (k:=k) (by omega)
  have h:=h33.out k
  have h':=h69.out k hlt
  repeat' (first|(refine ZN ?_)|(refine Z2 ?_ ?_)|(intro h h';try simp[*,-h] at h'))
  all_goals exact⟨35 - (k+1),by omega,k+1,rfl,by omega,by simp[*],by simp[*],by simp[*],by simp[*],by simp[*],by simp[*]⟩
 ·obtain rfl:k=35:=by omega
  repeat' (first|(refine ZN ?_)|(refine Z2 ?_ ?_)|(intro h h';try simp[*,-h] at h'))
  all_goals rfl
theorem reachE (m:Q.D4)(l:List Q.D4)(hl:l.length=35):(lim Tryz.prog EK XD).dat 85 [.agg m.row,.sl false 4 (rowG l)]=some [.agg (reachP m l).row,bv true]:=by
 refine fnW (P:=Tryz.prog) (E:=EK) (X:=XD) Tryz.func85 (XD_no (by decide) (by decide) (by decide) (by decide) _) rfl bodyOk_85 rfl rtys_85 rvs_85 ?_
 have h62:=alongE
 have h63:=stepsE m
 have h67:(lim Tryz.prog EK XD).dat 95 [.fn 96 [.dp [.fn 104 [.dp [uv 0,uv 0,uv 0,uv 1] 0]] 0,.dp [.sl false 4 (rowG l)] 0,.dp [.sl false 1 (rowN (stepsP m))] 0]]=some [.agg [uv (reachP m l).d0,uv (reachP m l).d1,uv (reachP m l).d2,uv (reachP m l).d3]]:=togetherE m l _ (reach1E m l hl)
 have hLl:(rowG l).length=35:=by rw[List.length_map,hl]
 have hNl:(rowN (stepsP m)).length=35:=rfl
 have hNt:(rowN (stepsP m)).take 35=rowN (stepsP m):=rfl
 generalize reachP m l=y at*
 generalize rowG l=RG at*
 generalize rowN (stepsP m)=RS at*
 obtain⟨m0,m1,m2,m3⟩:=m
 simp only[Q.D4.row] at*
 clear hl
 repeat' (first|(refine ZN ?_)|(refine Z2 ?_ ?_)|(intro h h';try simp[*,-h] at h'))
 all_goals rfl
theorem reachN (m:Q.D4)(l:List Q.D4)(hl:l.length≠35):(lim Tryz.prog EK XD).dat 85 [.agg m.row,.sl false 4 (rowG l)]=some [.agg d4z.row,bv false]:=by
 refine fnW (P:=Tryz.prog) (E:=EK) (X:=XD) Tryz.func85 (XD_no (by decide) (by decide) (by decide) (by decide) _) rfl bodyOk_85 rfl rtys_85 rvs_85 ?_
 have hLl:(rowG l).length=l.length:=List.length_map ..
 have hne: ¬((l.length:Int)=35):=by omega
 generalize rowG l=RG at*
 generalize l.length=ln at*
 obtain⟨m0,m1,m2,m3⟩:=m
 simp only[Q.D4.row] at*
 clear hl
 repeat' (first|(refine ZN ?_)|(refine Z2 ?_ ?_)|(intro h h';try simp[*,-h] at h'))
 all_goals rfl
def keyB (m:Q.D4)(l:List Q.D4):Q.D4×Bool:=if l.length=35 then(reachP m l,true) else(d4z,false)
theorem reach_s (m:Q.D4)(l:List Q.D4):SemD Tryz.prog 85 [.agg m.row,.sl false 4 (rowG l)] [.agg (keyB m l).1.row,bv (keyB m l).2]:=by
 by_cases h:l.length=35
 ·have e:keyB m l=(reachP m l,true):=if_pos h
  rw[e]
  exact LKD_ok.1 _ _ _ (reachE m l h)
 ·have e:keyB m l=(d4z,false):=if_neg h
  rw[e]
  exact LKD_ok.1 _ _ _ (reachN m l h)
end
section
open Go Go.Ab
def XS :Orc:=⟨fun f a=>match a with
 |[.agg [.sc (.int .u32 a0),.sc (.int .u32 a1),.sc (.int .u32 a2),.sc (.int .u32 a3)],.agg [.sc (.int .u32 b0),.sc (.int .u32 b1),.sc (.int .u32 b2),.sc (.int .u32 b3)]]=>if f==33 then some [.agg (Q.pairP ⟨a0,a1,a2,a3⟩ ⟨b0,b1,b2,b3⟩).row] else none
 |_=>none,fun _ _ _ _ _=>none⟩
theorem XS_ok :OrcOk Tryz.prog XS:=by
 refine⟨fun f a r h=>?_,fun _ _ _ _ _ _ _ h=>nomatch h⟩
 simp only[XS] at h
 split at h
 ·split at h
  ·rename_i hf
   cases h
   simp only[beq_iff_eq] at hf
   subst hf
   exact XD_ok.1 _ _ _ (XD_two (by decide) ⟨_,_,_,_⟩ ⟨_,_,_,_⟩)
  ·cases h
 ·cases h
theorem LKS_ok :OrcOk Tryz.prog (lim Tryz.prog EK XS):=lim_ok mixed6 EK_law XS_ok
theorem XS_no {f:Nat}(h:f≠33)(a:List AV):XS.dat f a=none:=by
 simp only[XS]
 split
 ·rw[if_neg];simp[h]
 ·rfl
def clP (leaf:Q.D4)(l:Nat→Q.D4):Nat→Nat→Q.D4
 |0,_=>leaf
 |p+1,i=>if i<2^p then Q.pairP (clP leaf l p i) (l p) else Q.pairP (l p) (clP leaf l p (i - 2^p))
def eqR (a b:Q.D4):Bool:=a.d0==b.d0&&(a.d1==b.d1&&(a.d2==b.d2&&(a.d3==b.d3&&true)))
theorem way_0_0 (root leaf:Q.D4)(l:Nat→Q.D4):(lim Tryz.prog EK XS).dat 86 [.agg root.row,iv 1,iv 0,.agg leaf.row,.sl false 4 []]=some [bv (eqR (clP leaf l 0 0) root)]:=lim_dat.2 ⟨40,by kernel_rfl⟩
theorem way_1_0 (root leaf:Q.D4)(l:Nat→Q.D4):(lim Tryz.prog EK XS).dat 86 [.agg root.row,iv 2,iv 0,.agg leaf.row,.sl false 4 [(l 0).row]]=some [bv (eqR (clP leaf l 1 0) root)]:=lim_dat.2 ⟨40,by kernel_rfl⟩
theorem way_1_1 (root leaf:Q.D4)(l:Nat→Q.D4):(lim Tryz.prog EK XS).dat 86 [.agg root.row,iv 2,iv 1,.agg leaf.row,.sl false 4 [(l 0).row]]=some [bv (eqR (clP leaf l 1 1) root)]:=lim_dat.2 ⟨40,by kernel_rfl⟩
theorem way_2_0 (root leaf:Q.D4)(l:Nat→Q.D4):(lim Tryz.prog EK XS).dat 86 [.agg root.row,iv 4,iv 0,.agg leaf.row,.sl false 4 [(l 0).row,(l 1).row]]=some [bv (eqR (clP leaf l 2 0) root)]:=lim_dat.2 ⟨40,by kernel_rfl⟩
theorem way_2_1 (root leaf:Q.D4)(l:Nat→Q.D4):(lim Tryz.prog EK XS).dat 86 [.agg root.row,iv 4,iv 1,.agg leaf.row,.sl false 4 [(l 0).row,(l 1).row]]=some [bv (eqR (clP leaf l 2 1) root)]:=lim_dat.2 ⟨40,by kernel_rfl⟩
theorem way_2_2 (root leaf:Q.D4)(l:Nat→Q.D4):(lim Tryz.prog EK XS).dat 86 [.agg root.row,iv 4,iv 2,.agg leaf.row,.sl false 4 [(l 0).row,(l 1).row]]=some [bv (eqR (clP leaf l 2 2) root)]:=lim_dat.2 ⟨40,by kernel_rfl⟩
theorem way_2_3 (root leaf:Q.D4)(l:Nat→Q.D4):(lim Tryz.prog EK XS).dat 86 [.agg root.row,iv 4,iv 3,.agg leaf.row,.sl false 4 [(l 0).row,(l 1).row]]=some [bv (eqR (clP leaf l 2 3) root)]:=lim_dat.2 ⟨40,by kernel_rfl⟩
theorem way_3_0 (root leaf:Q.D4)(l:Nat→Q.D4):(lim Tryz.prog EK XS).dat 86 [.agg root.row,iv 8,iv 0,.agg leaf.row,.sl false 4 [(l 0).row,(l 1).row,(l 2).row]]=some [bv (eqR (clP leaf l 3 0) root)]:=lim_dat.2 ⟨40,by kernel_rfl⟩
theorem way_3_1 (root leaf:Q.D4)(l:Nat→Q.D4):(lim Tryz.prog EK XS).dat 86 [.agg root.row,iv 8,iv 1,.agg leaf.row,.sl false 4 [(l 0).row,(l 1).row,(l 2).row]]=some [bv (eqR (clP leaf l 3 1) root)]:=lim_dat.2 ⟨40,by kernel_rfl⟩
theorem way_3_2 (root leaf:Q.D4)(l:Nat→Q.D4):(lim Tryz.prog EK XS).dat 86 [.agg root.row,iv 8,iv 2,.agg leaf.row,.sl false 4 [(l 0).row,(l 1).row,(l 2).row]]=some [bv (eqR (clP leaf l 3 2) root)]:=lim_dat.2 ⟨40,by kernel_rfl⟩
theorem way_3_3 (root leaf:Q.D4)(l:Nat→Q.D4):(lim Tryz.prog EK XS).dat 86 [.agg root.row,iv 8,iv 3,.agg leaf.row,.sl false 4 [(l 0).row,(l 1).row,(l 2).row]]=some [bv (eqR (clP leaf l 3 3) root)]:=lim_dat.2 ⟨40,by kernel_rfl⟩
theorem way_3_4 (root leaf:Q.D4)(l:Nat→Q.D4):(lim Tryz.prog EK XS).dat 86 [.agg root.row,iv 8,iv 4,.agg leaf.row,.sl false 4 [(l 0).row,(l 1).row,(l 2).row]]=some [bv (eqR (clP leaf l 3 4) root)]:=lim_dat.2 ⟨40,by kernel_rfl⟩
theorem way_3_5 (root leaf:Q.D4)(l:Nat→Q.D4):(lim Tryz.prog EK XS).dat 86 [.agg root.row,iv 8,iv 5,.agg leaf.row,.sl false 4 [(l 0).row,(l 1).row,(l 2).row]]=some [bv (eqR (clP leaf l 3 5) root)]:=lim_dat.2 ⟨40,by kernel_rfl⟩
theorem way_3_6 (root leaf:Q.D4)(l:Nat→Q.D4):(lim Tryz.prog EK XS).dat 86 [.agg root.row,iv 8,iv 6,.agg leaf.row,.sl false 4 [(l 0).row,(l 1).row,(l 2).row]]=some [bv (eqR (clP leaf l 3 6) root)]:=lim_dat.2 ⟨40,by kernel_rfl⟩
theorem way_3_7 (root leaf:Q.D4)(l:Nat→Q.D4):(lim Tryz.prog EK XS).dat 86 [.agg root.row,iv 8,iv 7,.agg leaf.row,.sl false 4 [(l 0).row,(l 1).row,(l 2).row]]=some [bv (eqR (clP leaf l 3 7) root)]:=lim_dat.2 ⟨40,by kernel_rfl⟩
theorem way_4_0 (root leaf:Q.D4)(l:Nat→Q.D4):(lim Tryz.prog EK XS).dat 86 [.agg root.row,iv 16,iv 0,.agg leaf.row,.sl false 4 [(l 0).row,(l 1).row,(l 2).row,(l 3).row]]=some [bv (eqR (clP leaf l 4 0) root)]:=lim_dat.2 ⟨40,by kernel_rfl⟩
theorem way_4_1 (root leaf:Q.D4)(l:Nat→Q.D4):(lim Tryz.prog EK XS).dat 86 [.agg root.row,iv 16,iv 1,.agg leaf.row,.sl false 4 [(l 0).row,(l 1).row,(l 2).row,(l 3).row]]=some [bv (eqR (clP leaf l 4 1) root)]:=lim_dat.2 ⟨40,by kernel_rfl⟩
theorem way_4_2 (root leaf:Q.D4)(l:Nat→Q.D4):(lim Tryz.prog EK XS).dat 86 [.agg root.row,iv 16,iv 2,.agg leaf.row,.sl false 4 [(l 0).row,(l 1).row,(l 2).row,(l 3).row]]=some [bv (eqR (clP leaf l 4 2) root)]:=lim_dat.2 ⟨40,by kernel_rfl⟩
theorem way_4_3 (root leaf:Q.D4)(l:Nat→Q.D4):(lim Tryz.prog EK XS).dat 86 [.agg root.row,iv 16,iv 3,.agg leaf.row,.sl false 4 [(l 0).row,(l 1).row,(l 2).row,(l 3).row]]=some [bv (eqR (clP leaf l 4 3) root)]:=lim_dat.2 ⟨40,by kernel_rfl⟩
theorem way_4_4 (root leaf:Q.D4)(l:Nat→Q.D4):(lim Tryz.prog EK XS).dat 86 [.agg root.row,iv 16,iv 4,.agg leaf.row,.sl false 4 [(l 0).row,(l 1).row,(l 2).row,(l 3).row]]=some [bv (eqR (clP leaf l 4 4) root)]:=lim_dat.2 ⟨40,by kernel_rfl⟩
theorem way_4_5 (root leaf:Q.D4)(l:Nat→Q.D4):(lim Tryz.prog EK XS).dat 86 [.agg root.row,iv 16,iv 5,.agg leaf.row,.sl false 4 [(l 0).row,(l 1).row,(l 2).row,(l 3).row]]=some [bv (eqR (clP leaf l 4 5) root)]:=lim_dat.2 ⟨40,by kernel_rfl⟩
theorem way_4_6 (root leaf:Q.D4)(l:Nat→Q.D4):(lim Tryz.prog EK XS).dat 86 [.agg root.row,iv 16,iv 6,.agg leaf.row,.sl false 4 [(l 0).row,(l 1).row,(l 2).row,(l 3).row]]=some [bv (eqR (clP leaf l 4 6) root)]:=lim_dat.2 ⟨40,by kernel_rfl⟩
theorem way_4_7 (root leaf:Q.D4)(l:Nat→Q.D4):(lim Tryz.prog EK XS).dat 86 [.agg root.row,iv 16,iv 7,.agg leaf.row,.sl false 4 [(l 0).row,(l 1).row,(l 2).row,(l 3).row]]=some [bv (eqR (clP leaf l 4 7) root)]:=lim_dat.2 ⟨40,by kernel_rfl⟩
theorem way_4_8 (root leaf:Q.D4)(l:Nat→Q.D4):(lim Tryz.prog EK XS).dat 86 [.agg root.row,iv 16,iv 8,.agg leaf.row,.sl false 4 [(l 0).row,(l 1).row,(l 2).row,(l 3).row]]=some [bv (eqR (clP leaf l 4 8) root)]:=lim_dat.2 ⟨40,by kernel_rfl⟩
theorem way_4_9 (root leaf:Q.D4)(l:Nat→Q.D4):(lim Tryz.prog EK XS).dat 86 [.agg root.row,iv 16,iv 9,.agg leaf.row,.sl false 4 [(l 0).row,(l 1).row,(l 2).row,(l 3).row]]=some [bv (eqR (clP leaf l 4 9) root)]:=lim_dat.2 ⟨40,by kernel_rfl⟩
theorem way_4_10 (root leaf:Q.D4)(l:Nat→Q.D4):(lim Tryz.prog EK XS).dat 86 [.agg root.row,iv 16,iv 10,.agg leaf.row,.sl false 4 [(l 0).row,(l 1).row,(l 2).row,(l 3).row]]=some [bv (eqR (clP leaf l 4 10) root)]:=lim_dat.2 ⟨40,by kernel_rfl⟩
theorem way_4_11 (root leaf:Q.D4)(l:Nat→Q.D4):(lim Tryz.prog EK XS).dat 86 [.agg root.row,iv 16,iv 11,.agg leaf.row,.sl false 4 [(l 0).row,(l 1).row,(l 2).row,(l 3).row]]=some [bv (eqR (clP leaf l 4 11) root)]:=lim_dat.2 ⟨40,by kernel_rfl⟩
theorem way_4_12 (root leaf:Q.D4)(l:Nat→Q.D4):(lim Tryz.prog EK XS).dat 86 [.agg root.row,iv 16,iv 12,.agg leaf.row,.sl false 4 [(l 0).row,(l 1).row,(l 2).row,(l 3).row]]=some [bv (eqR (clP leaf l 4 12) root)]:=lim_dat.2 ⟨40,by kernel_rfl⟩
theorem way_4_13 (root leaf:Q.D4)(l:Nat→Q.D4):(lim Tryz.prog EK XS).dat 86 [.agg root.row,iv 16,iv 13,.agg leaf.row,.sl false 4 [(l 0).row,(l 1).row,(l 2).row,(l 3).row]]=some [bv (eqR (clP leaf l 4 13) root)]:=lim_dat.2 ⟨40,by kernel_rfl⟩
theorem way_4_14 (root leaf:Q.D4)(l:Nat→Q.D4):(lim Tryz.prog EK XS).dat 86 [.agg root.row,iv 16,iv 14,.agg leaf.row,.sl false 4 [(l 0).row,(l 1).row,(l 2).row,(l 3).row]]=some [bv (eqR (clP leaf l 4 14) root)]:=lim_dat.2 ⟨40,by kernel_rfl⟩
theorem way_4_15 (root leaf:Q.D4)(l:Nat→Q.D4):(lim Tryz.prog EK XS).dat 86 [.agg root.row,iv 16,iv 15,.agg leaf.row,.sl false 4 [(l 0).row,(l 1).row,(l 2).row,(l 3).row]]=some [bv (eqR (clP leaf l 4 15) root)]:=lim_dat.2 ⟨40,by kernel_rfl⟩
attribute [-simp] Prog.bind getCs putCs
attribute [local simp ↓] run_bind
attribute [local simp ↓] runF_bind
attribute [local simp] run_getCsN runF_getCsN runF_putCsN facetsC facetsW facetsH putCs_one run_putCsN
theorem way_out (root leaf:Q.D4)(n i:Int)(P:List (List AV))(h:i<0∨n≤i):(lim Tryz.prog EK XS).dat 86 [.agg root.row,iv n,iv i,.agg leaf.row,.sl false 4 P]=some [bv false]:=by
 refine fnW (P:=Tryz.prog) (E:=EK) (X:=XS) Tryz.func86 (XS_no (by decide) _) rfl bodyOk_86 rfl rtys_86 rvs_86 ?_
 obtain⟨r0,r1,r2,r3⟩:=root
 obtain⟨f0,f1,f2,f3⟩:=leaf
 simp only[Q.D4.row]
 by_cases h1:1000<n
 ·repeat' (first|(refine ZN ?_)|(refine Z2 ?_ ?_)|(intro h h';try simp[*,-h] at h'))
  all_goals rfl
 ·by_cases h2:i<0
  ·repeat' (first|(refine ZN ?_)|(refine Z2 ?_ ?_)|(intro h h';try simp[*,-h] at h'))
   all_goals rfl
  ·have h3:n≤i:=by omega
   repeat' (first|(refine ZN ?_)|(refine Z2 ?_ ?_)|(intro h h';try simp[*,-h] at h'))
   all_goals rfl
theorem wayS_0 (root leaf:Q.D4)(i:Int): ∃v,SemD Tryz.prog 86 [.agg root.row,iv 1,iv i,.agg leaf.row,.sl false 4 []] [bv v]:=by
 by_cases h:i<0∨1≤i
 ·exact⟨_,LKS_ok.1 _ _ _ (way_out root leaf 1 i _ h)⟩
 ·have hi:i=0:=by omega
  rcases hi with rfl
  ·exact⟨_,LKS_ok.1 _ _ _ (way_0_0 root leaf (fun k=>[].getD k d4z))⟩
theorem wayS_1 (root leaf:Q.D4)(i:Int)(a:Q.D4): ∃v,SemD Tryz.prog 86 [.agg root.row,iv 2,iv i,.agg leaf.row,.sl false 4 [a.row]] [bv v]:=by
 by_cases h:i<0∨2≤i
 ·exact⟨_,LKS_ok.1 _ _ _ (way_out root leaf 2 i _ h)⟩
 ·have hi:i=0∨i=1:=by omega
  rcases hi with rfl|rfl
  ·exact⟨_,LKS_ok.1 _ _ _ (way_1_0 root leaf (fun k=>[a].getD k d4z))⟩
  ·exact⟨_,LKS_ok.1 _ _ _ (way_1_1 root leaf (fun k=>[a].getD k d4z))⟩
theorem wayS_2 (root leaf:Q.D4)(i:Int)(a b:Q.D4): ∃v,SemD Tryz.prog 86 [.agg root.row,iv 4,iv i,.agg leaf.row,.sl false 4 [a.row,b.row]] [bv v]:=by
 by_cases h:i<0∨4≤i
 ·exact⟨_,LKS_ok.1 _ _ _ (way_out root leaf 4 i _ h)⟩
 ·have hi:i=0∨i=1∨i=2∨i=3:=by omega
  rcases hi with rfl|rfl|rfl|rfl
  ·exact⟨_,LKS_ok.1 _ _ _ (way_2_0 root leaf (fun k=>[a,b].getD k d4z))⟩
  ·exact⟨_,LKS_ok.1 _ _ _ (way_2_1 root leaf (fun k=>[a,b].getD k d4z))⟩
  ·exact⟨_,LKS_ok.1 _ _ _ (way_2_2 root leaf (fun k=>[a,b].getD k d4z))⟩
  ·exact⟨_,LKS_ok.1 _ _ _ (way_2_3 root leaf (fun k=>[a,b].getD k d4z))⟩
theorem wayS_3 (root leaf:Q.D4)(i:Int)(a b c:Q.D4): ∃v,SemD Tryz.prog 86 [.agg root.row,iv 8,iv i,.agg leaf.row,.sl false 4 [a.row,b.row,c.row]] [bv v]:=by
 by_cases h:i<0∨8≤i
 ·exact⟨_,LKS_ok.1 _ _ _ (way_out root leaf 8 i _ h)⟩
 ·have hi:i=0∨i=1∨i=2∨i=3∨i=4∨i=5∨i=6∨i=7:=by omega
  rcases hi with rfl|rfl|rfl|rfl|rfl|rfl|rfl|rfl
  ·exact⟨_,LKS_ok.1 _ _ _ (way_3_0 root leaf (fun k=>[a,b,c].getD k d4z))⟩
  ·exact⟨_,LKS_ok.1 _ _ _ (way_3_1 root leaf (fun k=>[a,b,c].getD k d4z))⟩
  ·exact⟨_,LKS_ok.1 _ _ _ (way_3_2 root leaf (fun k=>[a,b,c].getD k d4z))⟩
  ·exact⟨_,LKS_ok.1 _ _ _ (way_3_3 root leaf (fun k=>[a,b,c].getD k d4z))⟩
  ·exact⟨_,LKS_ok.1 _ _ _ (way_3_4 root leaf (fun k=>[a,b,c].getD k d4z))⟩
  ·exact⟨_,LKS_ok.1 _ _ _ (way_3_5 root leaf (fun k=>[a,b,c].getD k d4z))⟩
  ·exact⟨_,LKS_ok.1 _ _ _ (way_3_6 root leaf (fun k=>[a,b,c].getD k d4z))⟩
  ·exact⟨_,LKS_ok.1 _ _ _ (way_3_7 root leaf (fun k=>[a,b,c].getD k d4z))⟩
theorem wayS_4 (root leaf:Q.D4)(i:Int)(a b c d:Q.D4): ∃v,SemD Tryz.prog 86 [.agg root.row,iv 16,iv i,.agg leaf.row,.sl false 4 [a.row,b.row,c.row,d.row]] [bv v]:=by
 by_cases h:i<0∨16≤i
 ·exact⟨_,LKS_ok.1 _ _ _ (way_out root leaf 16 i _ h)⟩
 ·have hi:i=0∨i=1∨i=2∨i=3∨i=4∨i=5∨i=6∨i=7∨i=8∨i=9∨i=10∨i=11∨i=12∨i=13∨i=14∨i=15:=by omega
  rcases hi with rfl|rfl|rfl|rfl|rfl|rfl|rfl|rfl|rfl|rfl|rfl|rfl|rfl|rfl|rfl|rfl
  ·exact⟨_,LKS_ok.1 _ _ _ (way_4_0 root leaf (fun k=>[a,b,c,d].getD k d4z))⟩
  ·exact⟨_,LKS_ok.1 _ _ _ (way_4_1 root leaf (fun k=>[a,b,c,d].getD k d4z))⟩
  ·exact⟨_,LKS_ok.1 _ _ _ (way_4_2 root leaf (fun k=>[a,b,c,d].getD k d4z))⟩
  ·exact⟨_,LKS_ok.1 _ _ _ (way_4_3 root leaf (fun k=>[a,b,c,d].getD k d4z))⟩
  ·exact⟨_,LKS_ok.1 _ _ _ (way_4_4 root leaf (fun k=>[a,b,c,d].getD k d4z))⟩
  ·exact⟨_,LKS_ok.1 _ _ _ (way_4_5 root leaf (fun k=>[a,b,c,d].getD k d4z))⟩
  ·exact⟨_,LKS_ok.1 _ _ _ (way_4_6 root leaf (fun k=>[a,b,c,d].getD k d4z))⟩
  ·exact⟨_,LKS_ok.1 _ _ _ (way_4_7 root leaf (fun k=>[a,b,c,d].getD k d4z))⟩
  ·exact⟨_,LKS_ok.1 _ _ _ (way_4_8 root leaf (fun k=>[a,b,c,d].getD k d4z))⟩
  ·exact⟨_,LKS_ok.1 _ _ _ (way_4_9 root leaf (fun k=>[a,b,c,d].getD k d4z))⟩
  ·exact⟨_,LKS_ok.1 _ _ _ (way_4_10 root leaf (fun k=>[a,b,c,d].getD k d4z))⟩
  ·exact⟨_,LKS_ok.1 _ _ _ (way_4_11 root leaf (fun k=>[a,b,c,d].getD k d4z))⟩
  ·exact⟨_,LKS_ok.1 _ _ _ (way_4_12 root leaf (fun k=>[a,b,c,d].getD k d4z))⟩
  ·exact⟨_,LKS_ok.1 _ _ _ (way_4_13 root leaf (fun k=>[a,b,c,d].getD k d4z))⟩
  ·exact⟨_,LKS_ok.1 _ _ _ (way_4_14 root leaf (fun k=>[a,b,c,d].getD k d4z))⟩
  ·exact⟨_,LKS_ok.1 _ _ _ (way_4_15 root leaf (fun k=>[a,b,c,d].getD k d4z))⟩
end
end Go.Proofs.YtpedpkegmalgmaaGreatDoor
