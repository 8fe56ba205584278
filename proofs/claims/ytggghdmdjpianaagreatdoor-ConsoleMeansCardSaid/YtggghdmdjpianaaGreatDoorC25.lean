/- A part of the proof: Zs, Zt, J0, J1, J2, J3, Zu, Zx, Zy. -/
import Derived.Test.YtggghdmdjpianaaGreatDoorC24
import Derived.Test.YtggghdmdjpianaaGreatDoorC12
import Derived.Shelf.Abstract
import Derived.RangeFuncBox
import Derived.RangeFuncLeaves
import Derived.WalkKit
import Derived.OwnWalkIn
import Derived.TacticsInMore
import Derived.LoopNIn
import Derived.LoopIn
import Derived.Maps.AppendAt
import Derived.Sort.QuietIn
import Derived.Test.YtggghdmdjpianaaGreatDoorProg
import Derived.RegionIn
import Derived.BigRegionIn
import Derived.RangeFuncNested
import Derived.Lib.Hide
import Derived.Test.YtggghdmdjpianaaGreatDoorC02
import Derived.Test.YtggghdmdjpianaaGreatDoorC07
import Derived.Test.YtggghdmdjpianaaGreatDoorC21
import Derived.Test.YtggghdmdjpianaaGreatDoorC20
import Derived.Test.YtggghdmdjpianaaGreatDoorC05
set_option linter.unusedSimpArgs false
set_option linter.unusedVariables false
set_option maxRecDepth 200000
set_option maxHeartbeats 8000000
namespace Go.Proofs.YtggghdmdjpianaaGreatDoor
section
open Go Go.Ab Go.Ab.Sy
def hpZ :List Nat:=[198,276,281,290,291,292,365,366,367,368,385,386,387,388,428,429,430,433,434,435,436,437,438,439,440,441,442,443,444,445,446,447,448,449,450,451,452,453,454,479,497,498,499,521,522,523,532,533]
def yW :cD:={eq:=fun _=>false,hp:=fun f=>hpZ.contains f,yl:=fun _=>false,ws:=70}
def EZ :cD:={yW with bx:=fun t=>t==412}
theorem Gq :dS P0 yW:=⟨fun t h=>by simp[yW] at h,fun _=>rfl⟩
theorem EZ_law :dS P0 EZ:=⟨fun t h=>by simp[EZ,yW] at h,fun _=>rfl⟩
def Xn :aS:=⟨fun _ _=>none,fun _ _ _ _ _=>none⟩
theorem Xn_ok :Av P0 Xn:=⟨(fun _ _ _ h=>nomatch h),(fun _ _ _ _ _ _ _ h=>nomatch h)⟩
def stkZ :List AV:=[.agg [iv 0,.sl false 5 [[iv 0,iv 0,iv 0,bv false,.sl false 4 [[iv 1,iv 0,iv 0,uv 65],[iv 13,iv 0,iv 0,uv 0],[iv 11,iv 0,iv 0,uv 0]]]]]]
def plnZ :List AV:=[.agg [.vec 1 [[.sl false 1 [[iv 0],[iv 1],[iv 0]]]],.vec 1 [[iv 0]],.vec 1 [[iv 0]],iv 1]]
theorem pln_z :(eP P0 yW Xn).dat 280 stkZ=some plnZ:=jQ.2 ⟨80,Zf⟩
theorem pln_s :eN P0 280 stkZ plnZ:=(Fl An Gq Xn_ok).1 _ _ _ pln_z
theorem snd_n :fE iZ xA=0:=Zf
theorem snd_s :eN P0 98 [.agg xA.row] [iv 0]:=by
 have h:=qW.1 _ _ _ (Csa xA.vars xA.arrays xA.funcs Zd);rw[show fE iZ ⟨xA.vars,xA.arrays,xA.funcs⟩=0 from snd_n] at h;exact h
def XZ (n:Int):aS:=FN (wS 97 [tv dK] [.agg xA.row,iv n,iv 0]) (FN (wS 98 [.agg xA.row] [iv 0]) (wS 280 stkZ plnZ))
theorem XZ_ok {n:Int}(h:eN P0 97 [tv dK] [.agg xA.row,iv n,iv 0]):Av P0 (XZ n):=Ti (M0 h) (Ti (M0 snd_s) (M0 pln_s))
def CD :ByteArray:=⟨#[83,69,69,68,6,0,0,0,1,0,0,0,1,0,240,1,65,0,16,1,0,0,16,17,0,0,16,16,0,0,16,24,0,0,0,26]⟩
theorem cmp_z (n:Int):(eP P0 EZ (XZ n)).dat 91 [tv dK]=some [tv CD,iv n,iv 0]:=jQ.2 ⟨80,Zf⟩
theorem cmp_s : ∃n:Int,eN P0 91 [tv dK] [tv CD,iv n,iv 0]:=by
 obtain⟨n,h⟩:=prog_A;exact⟨n,(Fl An EZ_law (XZ_ok h)).1 _ _ _ (cmp_z n)⟩
end
section
open Go Go.Ab Go.Ab.Sy
variable {hp:Hp}{d f:Nat}{x:Option (Ab.Ex×AS)}
noncomputable def CZ :aS:=U4 P0 yW Xn 120
theorem Yk :Av P0 CZ:=Dp An Gq Xn_ok 120
def codeZ :List (List AV):=[[uv 32505857],[uv 17825857],[uv 286261248],[uv 269484032],[uv 403701760],[uv 436207616]]
def MI :List AV:=[.agg [.sl false 1 codeZ,iv 1],tv dK,.agg ([iv 0]++List.replicate 16 (uv 0)++[.sl false 1 [[uv 0]],iv 0,tv ⟨⟨[]⟩⟩,iv 0,iv 0]),iv 1000000]
def JC :List AV:=[.agg ([iv 5,uv 0,uv 65]++List.replicate 13 (uv 0)++[uv 1,.vec 1 [[uv 65]],iv 0,tv ⟨#[65]⟩,iv 6,iv 1])]
noncomputable def DA :Code:=match Tryz.f215.body with|some (.seq R0 (.seq R1 (.seq (.seq R2 _) _)))=> .seq R0 (.seq R1 R2)|_=> .skip
noncomputable def BG :Code:=match Tryz.f215.body with|some (.seq _ (.seq _ (.seq _ T)))=>T|_=> .skip
noncomputable def IP (x:Option (Ab.Ex×AS)):AS:=match x with|some (_,s)=>s|none=>⟨Uh [],U9⟩
noncomputable def IQ :AS:=IP (bP P0 yW 0 CZ 100 DA ⟨Uh MI,U9⟩)
theorem pick_n(h:(match x with|some (.normal,_)=>true|_=>false)=true):x=some (.normal,IP x):=by
 cases x with
 |none=>cases h
 |some p=>obtain⟨e,s⟩:=p;cases e<;>first|rfl|cases h
theorem pick_r(h:(match x with|some (.ret,_)=>true|_=>false)=true):x=some (.ret,IP x):=by
 cases x with
 |none=>cases h
 |some p=>obtain⟨e,s⟩:=p;cases e<;>first|rfl|cases h
theorem head_z :bP P0 yW 0 CZ 100 DA ⟨Uh MI,U9⟩=some (.normal,IQ):=pick_n Zf
theorem g16_z :IQ.fr 16= .fn 385 [.dp [iv 1000000] 0,.ptr ⟨0,16,2⟩ 1 0]:=Zf
noncomputable def mvO (d f:Nat)(hp:Hp):Option (AV×Hp):=CZ.hpc 1 d f [.ptr ⟨0,13,0⟩ 1 0] hp
noncomputable def qC (d f:Nat)(hp:Hp):Hp:=match mvO d f hp with|some (_,h)=>h|none=>hp
noncomputable def HG :Nat->Hp|0=>IQ.hp|n+1=>qC 18 388 (qC 16 387 (qC 11 386 (HG n)))
noncomputable def isB (b:Bool)(x:Option (AV×Hp)):Bool:=match x with|some (.sc (.bool c),_)=>c==b|_=>false
noncomputable def isN (n:Int)(x:Option (AV×Hp)):Bool:=match x with|some (.sc (.int .i64 m),_)=>m==n|_=>false
noncomputable def isP (x:It):Bool:=match x with| .box 1 [.ptr ⟨0,13,0⟩ 1 0] false=>true|_=>false
theorem CA{b:Bool}(h:isB b (mvO d f hp)=true):CZ.hpc 1 d f [.ptr ⟨0,13,0⟩ 1 0] hp=some (bv b,qC d f hp):=by
 unfold isB at h;unfold qC;show mvO d f hp=_
 split at h
 ·rename_i c h2 cE;rw[cE];simp at h;rw[h]
 ·cases h
theorem isN_eq{b:Int}(h:isN b (mvO d f hp)=true):CZ.hpc 1 d f [.ptr ⟨0,13,0⟩ 1 0] hp=some (iv b,qC d f hp):=by
 unfold isN at h;unfold qC;show mvO d f hp=_
 split at h
 ·rename_i c h2 cE;rw[cE];simp at h;rw[h]
 ·cases h
theorem Aha {x:It}(h:isP x=true):x= .box 1 [.ptr ⟨0,13,0⟩ 1 0] false:=by
 unfold isP at h
 split at h
 ·rfl
 ·cases h
noncomputable def rndB (i:Nat):Bool:=isP (HG i ⟨0,16,2⟩)&&isB (decide (i<6)) (mvO 11 386 (HG i))&&(decide (6<=i)||(isP (qC 11 386 (HG i) ⟨0,16,2⟩)&&isN ([0,1,2,3,4,5].getD i 0) (mvO 16 387 (qC 11 386 (HG i)))&&isP (qC 16 387 (qC 11 386 (HG i)) ⟨0,16,2⟩)&&isB true (mvO 18 388 (qC 16 387 (qC 11 386 (HG i))))))
theorem rnd_z :((List.range 7).all rndB)=true:=Zf
noncomputable def HF :Hp:=qC 11 386 (HG 6)
def EY (l:Nat):cD:={yW with yl:=fun l'=>l'==l}
@[simp] theorem EY_eq (l f:Nat):(EY l).eq f=false:=rfl
@[simp] theorem EY_yl (l l':Nat):(EY l).yl l'=(l'==l):=rfl
@[simp] theorem EY_off (l:Nat):(EY l).off=0:=rfl
@[simp] theorem EY_ws (l:Nat):(EY l).ws=70:=rfl
@[simp] theorem EY_cl (l:Nat):(EY l).cl=false:=rfl
@[simp] theorem EY_frz (l f:Nat):(EY l).frz f=false:=rfl
@[simp] theorem EY_inl (l f:Nat):(EY l).inl f=false:=rfl
@[simp] theorem EY_bx (l f:Nat):(EY l).bx f=false:=rfl
@[simp] theorem EY_386 (l:Nat):(EY l).hp 386=true:=rfl
@[simp] theorem EY_387 (l:Nat):(EY l).hp 387=true:=rfl
@[simp] theorem EY_388 (l:Nat):(EY l).hp 388=true:=rfl
@[local simp] theorem cellsOf_444 :P0.cellsOf 444=1:=Zf
@[local simp] theorem bytesOf_444 :P0.bytesOf 444=8:=Zf
@[local simp] theorem slel_444 :bF P0 444=none:=Zf
@[local simp] theorem isAggB_444 :Iu P0 444=false:=Zf
@[local simp] theorem tOk_444 :kB P0 444=true:=Zf
@[local simp] theorem arrOf_444 :A5 P0 444=none:=Zf
@[local simp] theorem strB_444 :mP P0 444=false:=Zf
@[local simp] theorem bolB_444 :xU P0 444=false:=Zf
@[local simp] theorem mapB_444 :mapB P0 444=false:=Zf
@[local simp] theorem intK_444 :oD P0 444=none:=Zf
@[local simp] theorem tcs_444 :dO P0 444=[444]:=Zf
@[local simp] theorem srcT_444 :oA P0 444=false:=Zf
@[local simp] theorem okFn_386 :Il P0 386=true:=Zf
@[local simp] theorem okFn_387 :Il P0 387=true:=Zf
@[local simp] theorem okFn_388 :Il P0 388=true:=Zf
theorem EY_law (l:Nat):Mu P0 (EY l).eq:=fun t h=>by simp at h
theorem iter_z (l:Nat): ∃c,Tryz.f385.body=some c/\W P0 (EY l) 1 CZ c ⟨Uh [.sc (.func (.yield l) #[] #[]),.dp [iv 1000000] 0,.ptr ⟨0,16,2⟩ 1 0],IQ.hp⟩ (fun e q=>(e= .normal\/e= .ret)/\q.hp=HF):=by
 refine⟨_,rfl,?_⟩;generalize hC:CZ=C;generalize hG:IQ.hp=G0
 repeat' first|refine ZN ?_|refine Z2 ?_ ?_|intro h h';try simp[*,-h] at h'
 refine Ac (n:=7) (fun s0 m z=> ∃i:Nat,7 - i=m/\i<=6/\z.hp=HG i/\z.fr 0= .sc (.func (.yield l) #[] #[])/\z.fr 1= .dp [iv 1000000] 0/\z.fr 2= .ptr ⟨0,16,2⟩ 1 0/\z.fr 4=iv i) ⟨0,rfl,Zo,by simp[<-hG];rfl,Zi,Zi,Zi,Zi⟩ ?_;rintro m ⟨fr,hp⟩ ⟨i,rfl,hi,hh,f0,f1,f2,f4⟩;simp at hh f0 f1 f2 f4;have hr:=nU.1 rnd_z i (sJ.2 Zo);unfold rndB at hr;simp only[Ed,GM,oW] at hr;obtain⟨⟨p1,c1⟩,hr⟩:=hr;replace p1:=Aha p1;replace c1:=CA c1;rw[hC] at c1;rw[<-hh] at p1 c1 hr;have w1:IntKind.i64.wrap ((i:Int)+1)=(i:Int)+1:=Iw Zo;have w2:(i:Int)<1000000:=Zo;by_cases Ii:i<6
 ·rcases hr with hr|hr
  ·omega
  obtain⟨⟨⟨p2,c2⟩,p3⟩,c3⟩:=hr;replace p2:=Aha p2;replace c2:=isN_eq c2;replace p3:=Aha p3;replace c3:=CA c3;rw[hC] at c2 c3;have pH:HG (i+1)=qC 18 388 (qC 16 387 (qC 11 386 hp)):=by rw[hh];rfl
  generalize qC 18 388 (qC 16 387 (qC 11 386 hp))=h3 at*;generalize qC 16 387 (qC 11 386 hp)=h2 at*;generalize qC 11 386 hp=h1 at*;generalize[0,1,2,3,4,5].getD i 0=pc at*;simp only[Ii,decide_true] at c1;clear hh
  repeat' first|refine ZN ?_|refine Z2 ?_ ?_|intro h h';try simp[*,-h] at h'
  all_goals exact⟨7 - (i+1),Zo,i+1,rfl,Zo,by simp[pH],Zm,Zm,Zm,Zm⟩
 obtain rfl:i=6:=Zo;have pH:HF=qC 11 386 hp:=by rw[hh];rfl
 rw[pH];generalize qC 11 386 hp=h1 at*;simp only[yY,decide_false] at c1;clear hh hr
 repeat' first|refine ZN ?_|refine Z2 ?_ ?_|intro h h';try simp[*,-h] at h'
 all_goals exact⟨.inl rfl,Zi⟩
noncomputable def stF :AS:=IP (bP P0 yW 0 CZ 100 BG ⟨IQ.fr,HF⟩)
theorem tail_z :bP P0 yW 0 CZ 100 BG ⟨IQ.fr,HF⟩=some (.ret,stF):=pick_r Zf
theorem res_z :((aN P0 stF.fr Tryz.f215.resultTypes.toList Tryz.f215.results.toList).run stF.hp).map (·.1)=some JC:=Zf
theorem go_s :eN P0 215 MI JC:=by
 intro Uz I w us hI oJ ha;obtain⟨R0,R1,R2,R3,hb⟩: ∃R0 R1 R2 R3,Tryz.f215.body=some (.seq R0 (.seq R1 (.seq (.seq R2 (.block 0 (.rangeFunc (.tmp 16) #[17] .skip (.block 1 .skip)))) (.seq R3 .ret)))):=⟨_,_,_,_,rfl⟩;have hW:W P0 yW 0 CZ (.seq R0 (.seq R1 R2)) ⟨Uh MI,U9⟩ (fun e q=>e= .normal/\q=IQ):=by
  have h:=head_z;unfold DA at h;rw[hb] at h;exact gR h ⟨rfl,rfl⟩
 have hT:W P0 yW 0 CZ (.seq R3 .ret) ⟨IQ.fr,HF⟩ (fun e q=>e= .ret/\q=stF):=by
  have h:=tail_z;unfold BG at h;rw[hb] at h;exact gR h ⟨rfl,rfl⟩
 have yG:Im Tryz.f215.ntmps (.seq R0 (.seq R1 (.seq (.seq R2 (.block 0 (.rangeFunc (.tmp 16) #[17] .skip (.block 1 .skip)))) (.seq R3 .ret))))=true:=by
  have h0:(match Tryz.f215.body with|some c=>Im Tryz.f215.ntmps c|none=>false)=true:=Zf;rw[hb] at h0;exact h0
 simp only[Im,Ed] at yG;obtain⟨oG,pN,⟨kM,_⟩,hs3,_⟩:=yG;refine fnM_ok Tryz.func215 hb Zf rfl hI oJ ha fun a S0=>?_
 refine wpIn_seq (W.wpIn An Gq Yk (Ej hW) oG S0 ?_);rintro e s a1 w1 hR S1
 cases e with
 |exit i=>exact nomatch hR.1
 |ret=>exact nomatch hR.1
 |panic v=>exact nomatch hR.1
 |normal=>
 refine wpIn_seq (W.wpIn An Gq Yk (Ej hR) pN S1 ?_);rintro e s a2 w2 hR S2
 cases e with
 |exit i=>exact nomatch hR.1
 |ret=>exact nomatch hR.1
 |panic v=>exact nomatch hR.1
 |normal=>
 refine wpIn_seq (wpIn_seq (W.wpIn An Gq Yk hR kM S2 ?_));rintro e s a3 w3 ⟨rfl,rfl⟩ S3;refine wpIn_block (Y7 (g:= .tmp 16) (HP:=fun hp'=>hp'=HF) Tryz.func385 (Go.Proofs.enters_of Tryz.func385 Zf rfl) S3 g16_z Zd ?_ ?_)
 ·intro l r I' K' m' us' w1' G' yP hk hL hid
  obtain⟨c,hc,hw⟩:=iter_z l;exact LI (E:=EY l) (call:=CZ) Tryz.func385 hc Zf rfl rfl G' yP An (EY_law l) Yk (fun l' h=>by
   have e:l'=l:=by simpa using h
   subst e;exact⟨hk,r,hL,hid⟩) hw
 ·rintro D I' m' hp' a' w' rfl hD hnI hnK hE' S'
  refine W.wpIn An Gq Yk hT (by simp only[Im,Ed];exact⟨hs3,trivial⟩) S' ?_;rintro e q a4 w4 ⟨rfl,rfl⟩ S4;obtain⟨U7,sZ⟩: ∃U7,(aN P0 stF.fr Tryz.f215.resultTypes.toList Tryz.f215.results.toList).run stF.hp=some (JC,U7):=by
   have h:=res_z;rw[Ma] at h;obtain⟨p,h1,h2⟩:=h;exact⟨p.2,by rw[h1,<-h2]⟩
  exact⟨.inr rfl,D,I',m',HF,w',stF,U7,hD,hnK,hE',S4,sZ⟩
end
end Go.Proofs.YtggghdmdjpianaaGreatDoor
namespace Go.Proofs.YtggghdmdjpianaaGreatDoor.K
section
open Go Go.RowKit Go.Shelf
variable {s:ByteArray}{i x b:Nat}{α:Type}
attribute [local go_sem] Oper.semAt_some
def oZ {α:Type}(f:Nat->α)(k:Nat):List α:=(List.range k).map f
theorem ax(f:Nat->α)(k:Nat):oZ f (k+1)=oZ f k++[f k]:=by simp[oZ,List.range_succ]
theorem am(f:Nat->α)(k:Nat):(oZ f k).length=k:=by simp[oZ]
def ac (s:ByteArray)(i:Nat):Int:=(s.data.toList.getD i 0).toNat
def Ux (s:ByteArray)(i:Nat):Int:=ac s i+256*ac s (i+1)+65536*ac s (i+2)+16777216*ac s (i+3)
theorem af(h:i<s.size):((s[i]'h).toNat:Int)=ac s i:=by
 unfold ac;have Ii:i<s.data.size:=h;rw[List.getD_eq_getElem?_getD,List.getElem?_eq_getElem (by simpa using Ii)];simp;rfl
theorem ae (s:ByteArray)(i:Nat):0<=ac s i/\ac s i<256:=by
 unfold ac;have:=(s.data.toList.getD i 0).toNat_lt;omega
theorem bi {y:Nat}(i:Nat)(h:x<2^i):x|||y*2^i=x+y*2^i:=by
 rw[Nat.or_comm,<-Nat.shiftLeft_eq,<-Nat.shiftLeft_add_eq_or_of_lt h,Nat.shiftLeft_eq,Nat.add_comm]
theorem az {y:Nat}(hx:x<4294967296)(hy:y<4294967296):bits .or .u32 (x:Int) (y:Int)=((x|||y:Nat):Int):=by
 have h:(BitVec.ofInt 32 (x:Int)|||BitVec.ofInt 32 (y:Int)).toNat=x|||y:=by
  rw[BitVec.toNat_or,BitVec.ofInt_natCast,BitVec.ofInt_natCast,BitVec.toNat_ofNat,BitVec.toNat_ofNat,Nat.mod_eq_of_lt hx,Nat.mod_eq_of_lt hy]
 show IntKind.u32.wrap ((BitVec.ofInt 32 (x:Int)|||BitVec.ofInt 32 (y:Int)).toNat:Int)=_;rw[h,IntKind.wrap_u32];have:x|||y<2^32:=Nat.or_lt_two_pow (by omega) (by omega);omega
theorem GU {a c d:Nat}(ha:a<256)(hb:b<256)(hc:c<256)(hd:d<256):
  bits .or .u32 (bits .or .u32 (bits .or .u32 ((a:Int)%4294967296) ((b:Int)%4294967296*256%4294967296)) ((c:Int)%4294967296*65536%4294967296)) ((d:Int)%4294967296*16777216%4294967296)=a+256*b+65536*c+16777216*d:=by
 have e1:(a:Int)%4294967296=(a:Nat):=by omega
 have e2:(b:Int)%4294967296*256%4294967296=((b*2^8:Nat):Int):=by omega
 have e3:(c:Int)%4294967296*65536%4294967296=((c*2^16:Nat):Int):=by omega
 have e4:(d:Int)%4294967296*16777216%4294967296=((d*2^24:Nat):Int):=by omega
 rw[e1,e2,e3,e4,az (by omega) (by omega),bi 8 (by omega),az (by omega) (by omega),bi 16 (by omega),az (by omega) (by omega),bi 24 (by omega)];omega
theorem C1a(h0:i<s.size)(h1:i+1<s.size)(h2:i+2<s.size)(h3:i+3<s.size):
  bits .or .u32 (bits .or .u32 (bits .or .u32 (((s[i]'h0).toNat:Int)%4294967296) (((s[i+1]'h1).toNat:Int)%4294967296*256%4294967296)) (((s[i+2]'h2).toNat:Int)%4294967296*65536%4294967296)) (((s[i+3]'h3).toNat:Int)%4294967296*16777216%4294967296)=Ux s i:=by
 rw[GU (s[i]'h0).toNat_lt (s[i+1]'h1).toNat_lt (s[i+2]'h2).toNat_lt (s[i+3]'h3).toNat_lt];unfold Ux;rw[<-af h0,<-af h1,<-af h2,<-af h3]
def KpB (b:Nat)(A B:World):Prop:=B.heap[b]?=A.heap[b]?
theorem KpB.cell{A B:World}(h:KpB b A B):B.cell? ⟨b,i,none⟩=A.cell? ⟨b,i,none⟩:=by
 simp only[World.cell?,show B.heap[b]?=A.heap[b]? from h]
theorem bh (W:World)(k:Nat):W.grownBy (W.drewN k) none:=⟨rfl,rfl,rfl,Nat.le_refl _,fun _ _ _=>rfl⟩
theorem bc (B:Nat)(W:World)(k:Nat):Below B W (W.drewN k):=⟨rfl,rfl,rfl,Nat.le_refl _,fun _ _=>rfl⟩
theorem Cza (F:Fence)(n:Nat)(yQ:F.fn 198)(rR:F.round=none)(hn:1<=n)(l Bs:Nat)(s:ByteArray)(hs:s.size<=1048576)(J Jx:List Int->World->Prop)(f:Nat->Int)(hf: ∀k,f k=Ux s (4*k))(hJ: ∀pre W k,J pre W->J pre (W.drewN k))
  (hY: ∀pre x W,J pre W->pre.length<s.size/4->YieldAt F (n - 1) Tryz.prog l #[.int .u32 x] W fun e W'=>
   (e= .returned (.bool true)/\J (pre++[x]) W'/\KpB Bs W W')\/(e= .returned (.bool false)/\Jx (pre++[x]) W'))
  (W:World) (GD:W.cell? ⟨Bs,0,none⟩=some (.string s)) (h0:J [] W):
  CallsIn F n Tryz.prog 198 #[.func (.yield l) #[] #[],.pointer (some ⟨Bs,0,none⟩)] W fun e W'=>(∃v,e= .returned v)/\
   ((∃ys,ys=oZ f (s.size/4)/\J ys W')\/(∃pre,(∃k,k<=s.size/4/\pre=oZ f k)/\Jx pre W')):=by
 refine callsIn_of_wp Tryz.func198 rfl yQ ?_ rR;simp only[Tryz.ntmps198,List.size_toArray,List.length_cons,List.length_nil,Nat.reduceAdd,Nat.reduceSub,Array.replicate_succ,Array.replicate_zero,List.push_toArray,List.append_toArray,List.nil_append,List.cons_append]
 gi_wp2
 gi_loopw [3] (fun i wr=> ∃k:Nat,k<=s.size/4/\i= .int .i64 (4*(k:Int))/\J (oZ f k) wr/\KpB Bs W wr)
  (fun i _=>s.size - (intOf i).toNat)
 case atStart=>exact⟨0,Nat.zero_le _,rfl,h0,rfl⟩
 case round=>
  obtain⟨k,hk,rfl,hJs,pH⟩:=hrel;have hcx:wr.cell? ⟨Bs,0,none⟩=some (.string s):=(pH.cell (i:=0)).trans GD;by_cases Ii:k<s.size/4
  ·have hlt4:4*k+4<=s.size:=by omega
   have p0:(0:Int)<=4*(k:Int):=by omega
   have p1:(0:Int)<=4*(k:Int)+1:=by omega
   have p2:(0:Int)<=4*(k:Int)+2:=by omega
   have p3:(0:Int)<=4*(k:Int)+3:=by omega
   have q0:4*(k:Int)<s.size:=by omega
   have q1:4*(k:Int)+1<s.size:=by omega
   have q2:4*(k:Int)+2<s.size:=by omega
   have q3:4*(k:Int)+3<s.size:=by omega
   gi_wp2
   refine wpIn_region_quiet_lit rR (by kernel_rfl) (by kernel_rfl) ?_
   repeat (gi_big_quiet_step (fail))
   refine wpQuietIn_nil ?_;intro _ hw';obtain⟨nq,hw''⟩:=hw';subst hw'';rw[C1a (by omega) (by omega) (by omega) (by omega),<-hf];clear hf;have hJq:=hJ _ _ nq hJs;have hnq:KpB Bs W (wr.drewN nq):=pH;generalize wr.drewN nq=Wq at hJq hnq⊢;obtain⟨fn,tmps,assign,body,hy,hR⟩:=hY _ (f k) Wq hJq (by rw[am];exact Ii)
   gi_wp2
   refine hR.mono ?_;rintro e W3 (⟨rfl,hJ3,hk3⟩|⟨rfl,hJx3⟩)
   ·gi_wp2
    go_roundw
    case rel=>exact⟨k+1,by omega,by simp;omega,by rw[ax];exact hJ3,Eq.trans hk3 hnq⟩
    case measure=>simp[intOf];omega
   ·gi_wp2
    refine bodyPost_ret (results_none rfl _ _ _) rfl ?_;exact⟨⟨_,rfl⟩,.inr ⟨_,⟨k+1,by omega,(ax _ _).symm⟩,hJx3⟩⟩
  ·obtain rfl:k=s.size/4:=by omega
   have p4: ¬4*((s.size/4:Nat):Int)+4<=s.size:=by omega
   gi_wp2
   go_end0
   exact⟨⟨_,rfl⟩,.inl hJs⟩
end
section
open Go Go.RowKit Go.Shelf
attribute [local go_sem] Oper.semAt_some
def dD (s:ByteArray):List Int:=oZ (fun k=>Ux s (4*k)) (s.size/4)
theorem au (s:ByteArray):(dD s).length=s.size/4:=am _ _
theorem C7a {α:Type}(f:Nat->α){k n:Nat}(h:k<=n):oZ f k<+:oZ f n:=by
 unfold oZ;rw[<-Nat.add_sub_of_le h,List.range_add,List.map_append];exact List.prefix_append _ _
theorem aq (F:Fence)(n:Nat)(h30:F.fn 139)(rR:F.round=none)(s:ByteArray)(w:World):
  CallsIn F n Tryz.prog 139 #[.string s] w fun e w'=>e= .returned (.func (.func 198) #[] #[.pointer (some ⟨w.heap.size,0,none⟩)])/\w'=w.alloc (.cells #[.string s] 9):=by
 refine callsIn_of_wp Tryz.func139 rfl h30 ?_ rR;simp only[Tryz.ntmps139,List.size_toArray,List.length_cons,List.length_nil,Nat.reduceAdd,Nat.reduceSub,Array.replicate_succ,Array.replicate_zero,List.push_toArray,List.append_toArray,List.nil_append,List.cons_append]
 gi_wp2
 go_ret
 exact⟨rfl,rfl⟩
theorem ah (F:Fence)(n:Nat)(yQ:F.fn 198)(rR:F.round=none)(hn:1<=n)(Bs:Nat)(s:ByteArray)(hs:s.size<=1048576)(w:World)(GD:Bs<w.heap.size)(hc:w.cell? ⟨Bs,0,none⟩=some (.string s)):
  SeqStopsK F n Tryz.prog 198 #[.pointer (some ⟨Bs,0,none⟩)] (fun x:Int=> #[Value.int .u32 x]) (KpB Bs) (fun ys=>ys=dD s) (fun pre=>pre<+:dD s) (s.size/4) w:=fun l J Jx W hW hJ _ hY h0=>by
 refine(Cza F n yQ rR hn l Bs s hs J Jx (fun k=>Ux s (4*k)) (fun _=>rfl) (fun pre W k h=>hJ pre W (W.drewN k) none h (bh W k) (fun r e=>by cases e)) hY W ((hW.cell (p:=⟨Bs,0,none⟩) GD).trans hc) h0).mono ?_;rintro e W' ⟨he,⟨ys,rfl,hj⟩|⟨pre,⟨k,hk,rfl⟩,hj⟩⟩
 ·exact⟨he,.inl ⟨_,rfl,hj⟩⟩
 ·exact⟨he,.inr ⟨_,C7a _ hk,hj⟩⟩
theorem bf (F:Fence)(n:Nat)(yQ:F.fn 198)(rR:F.round=none)(hn:1<=n)(Bs n₀:Nat)(s:ByteArray)(hs:s.size<=1048576)(w:World)(GD:Bs<w.heap.size)(hB0:Bs<n₀)(hn₀:n₀<=w.heap.size)(hc:w.cell? ⟨Bs,0,none⟩=some (.string s)):
  SeqStopsK F n Tryz.prog 198 #[.pointer (some ⟨Bs,0,none⟩)] (fun x:Int=> #[Value.int .u32 x]) (Below n₀) (fun ys=>ys=dD s) (fun pre=>pre<+:dD s) (s.size/4) w:=fun l J Jx W hW hJ hJx hY h0=>
 ah F n yQ rR hn Bs s hs w GD hc l J Jx W hW hJ hJx (fun pre x W1 h1 h2=>by
  obtain⟨fn,tmps,assign,body,hy,hR⟩:=hY pre x W1 h1 h2;refine⟨fn,tmps,assign,body,hy,hR.mono ?_⟩;rintro e W' (⟨h3,h4,h5⟩|h3)
  ·exact .inl ⟨h3,h4,h5.block Bs hB0⟩
  ·exact .inr h3) h0
theorem CB :(Tryz.prog.info? 73).map (fun i=>(i.zero,i.size,i.bytes))=some (some (.int .u32 0),1,4):=by kernel_rfl
abbrev GS (B:Nat):Value:= .func (.func 198) #[] #[.pointer (some ⟨B,0,none⟩)]
theorem bd (F:Fence)(n:Nat)(h35:F.fn 197)(yQ:F.fn 198)(rR:F.round=none)(hn:3<=n)(Bs:Nat)(s:ByteArray)(hs:s.size<=1048576)(w:World)(GD:Bs<w.heap.size)(hc:w.cell? ⟨Bs,0,none⟩=some (.string s)):
  CallsIn F n Tryz.prog 197 #[.slice none 0 0,GS Bs] w fun e W'=> ∃v,e= .returned v/\W'.ownsRow w.heap.size 73 1 v (dD s).length ((dD s).map (Value.int .u32))/\Below w.heap.size w W':=by
 have h1:1<=n:=by omega
 have hwl:=au s;obtain⟨i0,hi,hz0,hz1,hz2⟩:=info_parts CB;refine callsIn_of_wp_marks Tryz.func197 rfl h35 ?_ rR;simp only[Tryz.ntmps197,List.size_toArray,List.length_cons,List.length_nil,Nat.reduceAdd,Nat.reduceSub,Array.replicate_succ,Array.replicate_zero,List.push_toArray,List.append_toArray,List.nil_append,List.cons_append]
 gi_wp2
 have bO:=Boxed.new w 124 (.slice none 0 0);have hB0:Below w.heap.size w (w.alloc (.cells #[.slice none 0 0] 124)):=(Below.refl _ w).alloc (Nat.le_refl _) _;refine wpIn_rangeFunc_ownG rR h1 (gf:=198) (lb:= #[.pointer (some ⟨Bs,0,none⟩)]) rfl yQ (enters_of Tryz.func198 (by kernel_rfl) rfl)
  (bf F (n - 1) yQ rR (by omega) Bs w.heap.size s hs _ (by simp;omega) GD (by simp) ((hB0.cell (p:=⟨Bs,0,none⟩) GD).trans hc)) belowK_t (belowK_b (by simp)) (Below.refl _ _) (fun _=>rfl)
  (fun pre W=>(∃v,Boxed W w.heap.size 124 v/\W.ownsRow w.heap.size 73 1 v pre.length (pre.map (Value.int .u32))/\True)/\Below w.heap.size w W)
  (fun _ _ _=>False)
  (OwnFrom.and (Own.from (holdsRow_own w.heap.size w.heap.size 124 73 1 (fun pre:List Int=>pre.length) (fun pre:List Int=>pre.map (Value.int .u32)) (fun _ _=>True)) _) (ownFrom_below (Nat.le_refl _) (by simp<;>omega)))
  (fun _ _ _ _ _ hs _ _=>hs)
  ⟨⟨_,bO,World.ownsRow_nil _ _ _ _,trivial⟩,hB0⟩
  (fun x=>{tmps:= #[.slice none 0 0,GS Bs,.pointer (some ⟨w.heap.size,0,none⟩),undef,.slice none 0 0,.int .u32 x,GS Bs,.int .u32 x,undef,undef,undef,undef,undef],defers:=[]}) ?assign ?body ?done ?stop
 case assign=>
  intro l x W K hK
  gi_wp2
  exact hK
 case body=>
  rintro l pre x W ⟨⟨v,hv,iP,_⟩,hB⟩ Ii;have hc:=hv.cell;have qM:pre.length+1<=maxLen:=by unfold maxLen;omega
  gi_wp2_with (gi_at_builtin;refine wpListIn_append_own _ rfl _ _ 124 rfl w.heap.size 73 i0 (.int .u32 0) 1 4 Tryz.underlying124 hi hz0 hz1 hz2 rfl (by decide) _ _ _ rfl (iP.alloc _) ⟨W.heap.size,0,none⟩ 1 1 [.int .u32 x] rfl rfl (cell_one_new _ _ _) (by simp[Value.oneCell']) (by omega) (by omega) (by have:=hB.size;simp;omega) ?_;intro v' w1 vN yO _;obtain⟨g',cap',rfl⟩:=ownsRow_succ vN;obtain⟨sQ,tO,tP,rU,Ul⟩:=hv.appended (by decide) iP hB.size (Nat.le_refl _) vN yO;have AN:=sQ.cell;have mY:=sQ.frozen)
  exact⟨rU.from _,Ul,⟨_,tO,by simpa using tP,trivial⟩,hB.trans Ul⟩
 case done=>
  rintro D ys W hD rfl ⟨⟨v,hv,iP,_⟩,hB⟩ hK;have hc:=hv.cell
  gi_wp2
  refine⟨by simp,.inl ⟨_,_,rfl,run_takeDeferred hK,?_⟩⟩;exact⟨_,results_tmp rfl _ _ _,v,rfl,ownsRow_putObj iP _ hK rfl,hB.trans (belowK_b (w:=w) (Nat.le_refl _) W D _ _ (by simp at hD;omega) hK rfl rfl)⟩
 case stop=>
  rintro D c pre W _ _ h _;exact h.elim
end
section
open Go Go.RowKit Go.Shelf
variable {cs:Array Value}{xs:List Value}{n b i:Nat}{t:TypeId}{v:Value}{w:World}
attribute [local go_sem] Oper.semAt_some
theorem Ava (F:Fence)(n:Nat)(h29:F.fn 138)(h35:F.fn 197)(yQ:F.fn 198)(rR:F.round=none)(hn:4<=n)(Bs:Nat)(s:ByteArray)(hs:s.size<=1048576)(w:World)(GD:Bs<w.heap.size)(hc:w.cell? ⟨Bs,0,none⟩=some (.string s)):
  CallsIn F n Tryz.prog 138 #[GS Bs] w fun e W'=> ∃v,e= .returned v/\W'.ownsRow w.heap.size 73 1 v (dD s).length ((dD s).map (Value.int .u32))/\Below w.heap.size w W':=by
 have h1:1<=n:=by omega
 refine callsIn_of_wp Tryz.func138 rfl h29 ?_ rR;simp only[Tryz.ntmps138,List.size_toArray,List.length_cons,List.length_nil,Nat.reduceAdd,Nat.reduceSub,Array.replicate_succ,Array.replicate_zero,List.push_toArray,List.append_toArray,List.nil_append,List.cons_append]
 gi_wp2_with (gi_at_call 197;refine(bd F (n - 1) h35 yQ rR (by omega) Bs s hs _ GD hc).mono ?_;rintro e w' ⟨v,rfl,hown,hB⟩)
 go_ret
 exact⟨_,rfl,hown,hB⟩
def badR :Value:= .tuple #[.agg #[.slice none 0 0,.int .i64 0],.int .i64 7]
def rN (s:ByteArray):Prop:=12<=s.size/\s.extract 0 4=⟨#[83,69,69,68]⟩/\s.size<=65548/\Ux s 8<=32768/\(s.size:Int)=12+4*Ux s 4
theorem aw{base:Nat}(h:w.ownsRow base 73 1 v n xs)(hn:0<n): ∃g cap,v= .slice (some ⟨g,0,none⟩) n cap/\base<=g/\g<w.heap.size/\n<=cap/\ ∀i,i<n->w.cell? ⟨g,i,none⟩=xs[i]?:=by
 obtain⟨hl,⟨rfl,h0⟩|⟨g,cap,cur,rfl,hb,hg,hc,hm,hs,ht⟩⟩:=h
 ·omega
 ·refine⟨g,cap,rfl,hb,(Array.getElem?_eq_some_iff.1 hg).1,hc,fun i hi=>?_⟩
  rw[<-ht,List.getElem?_take_of_lt (by omega)];simp[World.cell?,hg]
theorem ab(h:w.heap[b]?=some (.cells cs t))(hi:cs[i]?=some v):w.cell? ⟨b,i,none⟩=some v:=by
 simp[World.cell?,h,hi]
theorem aa(h:w.heap[b]?=some (.cells cs t))(i:Nat):w.frozen? ⟨b,i,none⟩=false:=by
 simp[World.frozen?,h]
theorem ay (W:World)(b i:Nat)(v:Value):W.grownBy (W.setCell ⟨b,i,none⟩ v) (some b):=
 ⟨rfl,rfl,rfl,(KeepsWalks.setCell W _ v).size,fun k _ hk=>Below.heap_setCell _ _ _ k (fun e=>hk (by rw[e]))⟩
theorem Gua {W:World}{b':Nat}(h:W.ownsRow b 73 1 v n xs)(hb:b'<=b):W.ownsRow b' 73 1 v n xs:=
 ⟨h.1,h.2.imp id fun⟨g,cap,cur,h1,h2,h3⟩=>⟨g,cap,cur,h1,by omega,h3⟩⟩
theorem aj {W:World}{fz:Nat×Nat}(h:W.heap[b]?=some (.cells cs t fz))(v:Value):(W.setCell ⟨b,i,none⟩ v).heap[b]?=some (.cells (cs.setIfInBounds i v) t fz):=by
 simp[World.setCell,Array.getElem?_modify,h]
theorem ai (s:ByteArray)(i:Nat):0<=Ux s i/\Ux s i<4294967296:=by
 have h0:=ae s i;have h1:=ae s (i+1);have h2:=ae s (i+2);have h3:=ae s (i+3);unfold Ux;omega
theorem bg (s:ByteArray)(h:12<=s.size):dD (s.extract 4 12)=[Ux s 4,Ux s 8]:=by
 have aZ:(s.extract 4 12).size=8:=by rw[ByteArray.size_extract];omega
 unfold dD oZ;rw[aZ];have hb: ∀i,i<8->ac (s.extract 4 12) i=ac s (4+i):=fun i hi=>by
  unfold ac;rw[ByteArray.data_extract];congr 2;have hl:i<(List.take 8 (List.drop 4 s.data.toList)).length:=by
   have:s.data.size=s.size:=rfl;simp;omega
  simp[List.getD_eq_getElem?_getD,List.getElem?_take_of_lt hi]
 simp[List.range_succ,Ux,hb]
theorem info28 :(Tryz.prog.info? 126).map (·.size)=some 2:=by kernel_rfl
theorem iV {tmps:Array Value}{g:Nat}{fr:Nat×Nat}{e:Value}(h2:tmps.getD 2 undef= .pointer (some ⟨g,0,none⟩))(hg:w.heap[g]?=some (.cells cs 126 fr))(hs:cs.size=2)(h3:tmps.getD 3 undef=e):
  (results Tryz.f89 tmps).run Tryz.prog w= .ok (.tuple #[.agg cs,e]) w:=by
 rw[results_cell_tmp (p:=2) (u:=3) (ty:=126) rfl,h2,h3];simp[asAddr,run_loadVar_row w g 126 126 cs fr _ hg Tryz.underlying126 rfl (by rw[info28,hs]),Result.andThen]
theorem JD (F:Fence)(n:Nat)(h22:F.fn 89)(h29:F.fn 138)(h30:F.fn 139)(h35:F.fn 197)(yQ:F.fn 198)(rR:F.round=none)(hn:6<=n)(s:ByteArray)(hs:s.size<=1048576)(w:World):
  CallsIn F n Tryz.prog 89 #[.string s] w fun e W'=>(¬rN s/\e= .returned badR/\Below w.heap.size w W')\/
   (rN s/\ ∃v,e= .returned (.tuple #[.agg #[v,.int .i64 (Ux s 8)],.int .i64 0])/\W'.ownsRow w.heap.size 73 1 v (dD (s.extract 12 s.size)).length ((dD (s.extract 12 s.size)).map (Value.int .u32))/\Below w.heap.size w W'):=by
 have h1:1<=n:=by omega
 obtain⟨i0,hi,hz0,hz1,hz2⟩:=info_parts CB;refine callsIn_of_wp_marks Tryz.func89 rfl h22 ?_ rR;simp only[Tryz.ntmps89,List.size_toArray,List.length_cons,List.length_nil,Nat.reduceAdd,Nat.reduceSub,Array.replicate_succ,Array.replicate_zero,List.push_toArray,List.append_toArray,List.nil_append,List.cons_append];have hB1:Below w.heap.size w (w.alloc (.cells #[.slice none 0 0,.int .i64 0] 126)):=(Below.refl _ w).alloc (Nat.le_refl _) _;have hB2:Below w.heap.size w ((w.alloc (.cells #[.slice none 0 0,.int .i64 0] 126)).alloc (.cells #[.string (s.extract 4 12)] 9)):=hB1.alloc (by simp) _;have cB:=Boxed.new (w.alloc (.cells #[.slice none 0 0,.int .i64 0] 126)) 9 (.string (s.extract 4 12));rw[World.size_alloc] at cB;have hx4:(s.extract 4 12).size<=1048576:=by rw[ByteArray.size_extract];omega
 by_cases c0:s.size<12
 ·have d0:(s.size:Int)<12:=by omega
  gi_wp2
  exact⟨_,iV rfl (World.alloc_heap_new w _) rfl rfl,.inl ⟨fun h=>by have:=h.1;omega,rfl,hB1⟩⟩
 ·have d0: ¬(s.size:Int)<12:=by omega
  by_cases c1:s.extract 0 4=⟨#[83,69,69,68]⟩
  ·have hm:(s.extract 0 4).toList=[83,69,69,68]:=by rw[c1,ByteArray.toList_eq]
   by_cases c2:65548<s.size
   ·have d2:(65548:Int)<s.size:=by omega
    gi_wp2
    exact⟨_,iV rfl (World.alloc_heap_new w _) rfl rfl,.inl ⟨fun h=>by have:=h.2.2.1;omega,rfl,hB1⟩⟩
   ·have d2: ¬(65548:Int)<s.size:=by omega
    have LZ:=fun w0 (h:w.heap.size+1<w0.heap.size) hc=>Ava F (n - 1) h29 h35 yQ rR (by omega) (w.heap.size+1) (s.extract 4 12) hx4 w0 h hc
    rw[bg s (by omega)] at LZ;have x4:=ai s 4;have x8:=ai s 8;have u4:IntKind.u64.wrap (Ux s 4)=Ux s 4:=by rw[IntKind.wrap_u64];omega
    have u44:IntKind.u64.wrap (4*Ux s 4)=4*Ux s 4:=by rw[IntKind.wrap_u64];omega
    have u12:IntKind.u64.wrap (12+4*Ux s 4)=12+4*Ux s 4:=by rw[IntKind.wrap_u64];omega
    have CM:((w.alloc (.cells #[.slice none 0 0,.int .i64 0] 126)).alloc (.cells #[.string (s.extract 4 12)] 9)).heap[w.heap.size]?=some (.cells #[.slice none 0 0,.int .i64 0] 126):=(Below.heap_alloc _ _ _ (by simp)).trans (World.alloc_heap_new w _);have bad: ∀w2:World,Below (w.heap.size+1+1) ((w.alloc (.cells #[.slice none 0 0,.int .i64 0] 126)).alloc (.cells #[.string (s.extract 4 12)] 9)) w2->w2.heap[w.heap.size]?=some (.cells #[.slice none 0 0,.int .i64 0] 126)->
      ((w2.setCell ⟨w.heap.size,0,none⟩ (.slice none 0 0)).setCell ⟨w.heap.size,1,none⟩ (.int .i64 0)).heap[w.heap.size]?=some (.cells #[.slice none 0 0,.int .i64 0] 126)/\Below w.heap.size w ((w2.setCell ⟨w.heap.size,0,none⟩ (.slice none 0 0)).setCell ⟨w.heap.size,1,none⟩ (.int .i64 0)):=fun w2 h1 h2=>
     ⟨aj (aj h2 _) _,((hB2.trans (h1.mono (by omega))).setCell (p:=⟨w.heap.size,0,none⟩) (Nat.le_refl _) _).setCell (p:=⟨w.heap.size,1,none⟩) (Nat.le_refl _) _⟩
    by_cases c3:32768<Ux s 8
    ·gi_wp2_with (first|(gi_at_call 139;refine(aq F (n - 1) h30 rR _ _).mono ?_;rintro e w' ⟨rfl,rfl⟩)|(gi_at_call 138;refine(LZ _ (by simp) cB.cell).mono ?_;rintro e w2 ⟨v2,rfl,vM,GC⟩;obtain⟨g2,cap2,rfl,iL,hg2',hcap2,lZ⟩:=aw vM (by simp);have oI:=lZ 0 (by simp);have xF:=lZ 1 (by simp);simp at oI xF;have vL:=(GC.block w.heap.size (by simp;omega)).trans CM;have wZ:=ab vL (i:=0) rfl;have FT:=ab vL (i:=1) rfl;have hf0:=aa vL 0;have mY:=aa vL 1))
     obtain⟨z1,z2⟩:=bad w2 (by simpa using GC) vL;exact⟨_,iV rfl z1 rfl rfl,.inl ⟨fun h=>by have:=h.2.2.2.1;omega,rfl,z2⟩⟩
    ·by_cases c4:(s.size:Int)=12+4*Ux s 4
     ·have c5:((s.size:Int)!=12+4*Ux s 4)=false:=by simp[c4]
      have qM:(Ux s 4).toNat<=maxLen:=by unfold maxLen;omega
      have hNe:Ux s 4=((Ux s 4).toNat:Int):=by omega
      have HC4:=Lib.hid c4;have HN:=Lib.hid hNe;clear c4 hNe
      gi_wp2_with (first|(gi_at_call 139;refine(aq F (n - 1) h30 rR _ _).mono ?_;rintro e w' ⟨rfl,rfl⟩)|(gi_at_call 138;refine(LZ _ (by simp) cB.cell).mono ?_;rintro e w2 ⟨v2,rfl,vM,GC⟩;obtain⟨g2,cap2,rfl,iL,hg2',hcap2,lZ⟩:=aw vM (by simp);have oI:=lZ 0 (by simp);have xF:=lZ 1 (by simp);simp at oI xF;have vL:=(GC.block w.heap.size (by simp;omega)).trans CM;have wZ:=ab vL (i:=0) rfl;have FT:=ab vL (i:=1) rfl;have hf0:=aa vL 0;have mY:=aa vL 1)|(gi_at_make;refine wpListIn_make_own _ rfl _ _ 124 rfl w2.heap.size 73 i0 (.int .u32 0) 1 Tryz.underlying124 hi hz0 hz1 .i64 .u32 (Ux s 4) (Ux s 4).toNat rfl rfl HN.out (by rw[hz2];omega) qM (Nat.le_refl _) ?_;intro w3 hown3 CX))
      have hx12:(s.extract 12 s.size).size<=1048576:=by rw[ByteArray.size_extract];omega
      have h23:w2.heap.size<=w3.heap.size:=CX.size;have bC:=Boxed.new w3 124 (.slice (some ⟨w2.heap.size,0,none⟩) 0 (Ux s 4).toNat);have bS:=Boxed.new (w3.alloc (.cells #[.slice (some ⟨w2.heap.size,0,none⟩) 0 (Ux s 4).toNat] 124)) 9 (.string (s.extract 12 s.size));rw[World.size_alloc] at bS;have hC3:Below w2.heap.size w2 ((w3.alloc (.cells #[.slice (some ⟨w2.heap.size,0,none⟩) 0 (Ux s 4).toNat] 124)).alloc (.cells #[.string (s.extract 12 s.size)] 9)):=(((Below.refl w2.heap.size w2).grown CX (Nat.le_refl _) (fun k e=>by cases e)).alloc h23 _).alloc (by simp;omega) _;refine wpIn_rangeFunc_ownG rR h1 (gf:=198) (lb:= #[.pointer (some ⟨w3.heap.size+1,0,none⟩)]) rfl yQ (enters_of Tryz.func198 (by kernel_rfl) rfl)
       (ah F (n - 1) yQ rR (by omega) (w3.heap.size+1) (s.extract 12 s.size) hx12 _ (by simp) bS.cell) (fun h h'=>Eq.trans h' h) ?kb (Below.refl _ _) (fun _=>rfl)
       (fun pre W=>(∃v,Boxed W w3.heap.size 124 v/\W.ownsRow w2.heap.size 73 1 v pre.length (pre.map (Value.int .u32))/\True)/\Boxed W (w3.heap.size+1) 9 (.string (s.extract 12 s.size))/\Below w2.heap.size w2 W)
       (fun _ _ _=>False)
       (OwnFrom.and (Own.from (holdsRow_own w2.heap.size w3.heap.size 124 73 1 (fun pre:List Int=>pre.length) (fun pre:List Int=>pre.map (Value.int .u32)) (fun _ _=>True)) _) (OwnFrom.and (Own.from (boxed_own _ _ _) _) (ownFrom_below (Nat.le_refl _) (by simp;omega))))
       (fun _ _ _ _ _ hs _ _=>hs)
       ⟨⟨_,bC.alloc _,(hown3.alloc _).alloc _,trivial⟩,bS,hC3⟩
       ?a1 ?assign ?body ?done ?stop
      case kb=>
       intro W l o o' hl hlo _ _;have Ii:=(Array.getElem?_eq_some_iff.1 hlo).1;simp at hl;exact(grownBy_putObj' W l o').block _ (by omega) (fun e=>by cases e;omega)
      case assign=>
       intro l x W K hK
       gi_wp2
       exact hK
      case body=>
       rintro l pre x W ⟨⟨v,hv,iP,_⟩,uV,hB⟩ Ii;have hc:=hv.cell;rw[ByteArray.size_extract] at Ii;have hmx2:pre.length+1<=maxLen:=by unfold maxLen;omega
       gi_wp2_with (gi_at_builtin;refine wpListIn_append_own _ rfl _ _ 124 rfl w2.heap.size 73 i0 (.int .u32 0) 1 4 Tryz.underlying124 hi hz0 hz1 hz2 rfl (by decide) _ _ _ rfl (iP.alloc _) ⟨W.heap.size,0,none⟩ 1 1 [.int .u32 x] rfl rfl (cell_one_new _ _ _) (by simp[Value.oneCell']) (by omega) (by omega) (by have:=hB.size;simp;omega) ?_;intro v' w1 vN yO _;obtain⟨g',cap',rfl⟩:=ownsRow_succ vN;have hbs1:=((uV.alloc _).kept yO (uV.not_row (by decide) iP)).other (B':=w3.heap.size) (by omega) (.slice (some ⟨g',0,none⟩) (pre.length+1) cap');obtain⟨sQ,tO,tP,rU,Ul⟩:=hv.appended (by decide) iP hB.size h23 vN yO;have AN:=sQ.cell;have mY:=sQ.frozen)
       exact⟨rU.from _,hbs1.trans uV.symm,⟨_,tO,by simpa using tP,trivial⟩,hbs1,hB.trans Ul⟩
      case stop=>
       rintro D c pre W _ _ h _;exact h.elim
      case done=>
       rintro D ys W hD rfl ⟨⟨v,hv,iP,_⟩,uV,hB⟩ hK;have CN:=(hB.block w.heap.size (by have:=GC.size;simp at this;omega)).trans vL;have er0:=ab CN (i:=0) rfl;have er1:=ab CN (i:=1) rfl;have ef0:=aa CN 0;have ef1:=aa CN 1;have ek1:=(hB.cell (p:=⟨g2,1,none⟩) hg2').trans xF;have i8:IntKind.i64.wrap (Ux s 8)=Ux s 8:=by rw[IntKind.wrap_i64];omega
       obtain⟨A,len,cap,rfl⟩: ∃A len cap,v= .slice A len cap:=by
        rcases iP.2 with⟨rfl,_⟩|⟨g,cap,cur,rfl,_⟩
        ·exact⟨_,_,_,rfl⟩
        ·exact⟨_,_,_,rfl⟩
       have hc:=hv.cell
       gi_wp2
       have hw2:w.heap.size<w2.heap.size:=by have:=GC.size;simp at this;omega
       have X1:=aj (i:=1) (aj (i:=0) CN (.slice A len cap)) (.int .i64 (Ux s 8));have X2:((W.setCell ⟨w.heap.size,0,none⟩ (.slice A len cap)).setCell ⟨w.heap.size,1,none⟩ (.int .i64 (Ux s 8))).heap[D]?=some (.deferred (some [])):=(KeepsOthers.setCell _ _ _).same D _ ((KeepsOthers.setCell _ _ _).same D _ hK rfl) rfl;have mX: ∀k,(Value.slice A len cap).ownBlock=some k->k≠w.heap.size:=fun k e=>by have:=(iP.lt k e).1;omega
       have X3:=Gua ((iP.kept (ay W w.heap.size 0 (.slice A len cap)) (.inr fun e=>mX _ e rfl)).kept (ay _ w.heap.size 1 (.int .i64 (Ux s 8))) (.inr fun e=>mX _ e rfl)) (Nat.le_of_lt hw2);have X4:Below w.heap.size w ((W.setCell ⟨w.heap.size,0,none⟩ (.slice A len cap)).setCell ⟨w.heap.size,1,none⟩ (.int .i64 (Ux s 8))):=(((hB2.trans (GC.mono (by simp;omega))).trans (hB.mono (Nat.le_of_lt hw2))).setCell (p:=⟨w.heap.size,0,none⟩) (Nat.le_refl _) _).setCell (p:=⟨w.heap.size,1,none⟩) (Nat.le_refl _) _;have hDw:D≠w.heap.size:=by simp at hD;omega
       have him:rN s:=⟨by omega,c1,by omega,by omega,HC4.out⟩;generalize hX:(W.setCell ⟨w.heap.size,0,none⟩ (.slice A len cap)).setCell ⟨w.heap.size,1,none⟩ (.int .i64 (Ux s 8))=X at X1 X2 X3 X4;have fin: ∀tmps:Array Value,tmps.getD 2 undef= .pointer (some ⟨w.heap.size,0,none⟩)->tmps.getD 3 undef= .int .i64 0->LeavesInM F n Tryz.prog Tryz.f89 tmps (fun e W'=>(¬rN s/\e= .returned badR/\Below w.heap.size w W')\/
         (rN s/\ ∃v,e= .returned (.tuple #[.agg #[v,.int .i64 (Ux s 8)],.int .i64 0])/\W'.ownsRow w.heap.size 73 1 v (dD (s.extract 12 s.size)).length ((dD (s.extract 12 s.size)).map (Value.int .u32))/\Below w.heap.size w W')) [{target:= .collected D,args:= #[]}] .returning X.drew:=fun tmps h2 h3=>by
        refine⟨by simp,.inl ⟨_,_,rfl,run_takeDeferred (show X.drew.heap[D]?=_ from X2),?_⟩⟩;refine⟨_,iV (g:=w.heap.size) (cs:= #[.slice A len cap,.int .i64 (Ux s 8)]) (fr:=(0,0)) h2 ?_ rfl h3,.inr ⟨him,_,rfl,?_,?_⟩⟩
        ·exact((grownBy_putObj' X.drew D (.deferred none)).block w.heap.size (Array.getElem?_eq_some_iff.1 X1).1 (fun e=>hDw (by cases e;rfl))).trans X1
        ·exact ownsRow_putObj (show X.drew.ownsRow _ _ _ _ _ _ from X3) _ (show X.drew.heap[D]?=_ from X2) rfl
        ·exact(X4.trans (bc _ X 1)).trans (belowK_b (w:=w) (Nat.le_refl _) X.drew D _ _ (by simp at hD;omega) (show X.drew.heap[D]?=_ from X2) rfl rfl)
       gi_region
       all_goals (try rw[hX])
       all_goals gi_wp2
       all_goals exact fin _ rfl rfl
     ·have c5:((s.size:Int)!=12+4*Ux s 4)=true:=by simp[c4]
      gi_wp2_with (first|(gi_at_call 139;refine(aq F (n - 1) h30 rR _ _).mono ?_;rintro e w' ⟨rfl,rfl⟩)|(gi_at_call 138;refine(LZ _ (by simp) cB.cell).mono ?_;rintro e w2 ⟨v2,rfl,vM,GC⟩;obtain⟨g2,cap2,rfl,iL,hg2',hcap2,lZ⟩:=aw vM (by simp);have oI:=lZ 0 (by simp);have xF:=lZ 1 (by simp);simp at oI xF;have vL:=(GC.block w.heap.size (by simp;omega)).trans CM;have wZ:=ab vL (i:=0) rfl;have FT:=ab vL (i:=1) rfl;have hf0:=aa vL 0;have mY:=aa vL 1))
      obtain⟨z1,z2⟩:=bad w2 (by simpa using GC) vL;exact⟨_,iV rfl z1 rfl rfl,.inl ⟨fun h=>c4 h.2.2.2.2,rfl,z2⟩⟩
  ·have hm: ¬(s.extract 0 4).toList=[83,69,69,68]:=fun h=>c1 (by
    apply ByteArray.ext;apply Array.ext';rw[<-ByteArray.toList_eq,h])
   gi_wp2
   exact⟨_,iV rfl (World.alloc_heap_new w _) rfl rfl,.inl ⟨fun h=>c1 h.2.1,rfl,hB1⟩⟩
end
section
open Go Go.Ab Go.RowKit
theorem Bka :Iv P0 89=[126,33]:=Zf
theorem O4 :Iu P0 126=true:=Zf
theorem Bca :dO P0 126=[124,3]:=Zf
abbrev IY (l:List Int):List (List AV):=l.map fun x=>[uv x]
def CE (s:ByteArray):Bool:=decide (12<=s.size)&&decide (s.extract 0 4=⟨#[83,69,69,68]⟩)&&decide (s.size<=65548)&&decide (Ux s 8<=32768)&&decide ((s.size:Int)=12+4*Ux s 4)
theorem W5 (s:ByteArray):CE s=true↔rN s:=by
 unfold CE rN;simp only[Ed,oW];exact⟨fun⟨⟨⟨⟨a,b⟩,c⟩,d⟩,e⟩=>⟨a,b,c,d,e⟩,fun⟨a,b,c,d,e⟩=>⟨⟨⟨⟨a,b⟩,c⟩,d⟩,e⟩⟩
def nS (s:ByteArray):List Int:=dD (s.extract 12 s.size)
def vD (s:ByteArray):List AV:=if CE s then[.agg [.vec 1 (IY (nS s)),iv (Ux s 8)],iv 0] else[.agg [.vec 1 [],iv 0],iv 7]
def readO :List AV->Option (List AV)
 |[.sc (.string s)]=>if s.size<=1048576 then some (vD s) else none
 |_=>none
def X47 :aS:=⟨fun f args=>if f=89 then readO args else none,fun _ _ _ _ _=>none⟩
theorem N5 (I:Nat->Prop)(w:World): ∀l:List Int,U3 I w 1 (IY l) (l.map (Value.int .u32))
 |[]=>by simp[U3]
 |x::l=>by
  simp only[T9,U3];exact⟨[.int .u32 x],l.map (Value.int .u32),rfl,rfl,by simp[aC,Iq,Value.oneCell'],N5 I w l⟩
theorem X47_ok :Av P0 X47:=by
 refine⟨fun f args rs h Uz I w us hI oJ ha=>?_,fun k d f args hp v hp' h=>by simp[X47] at h⟩;simp only[X47] at h
 split at h
 ·rename_i hf
  subst hf;unfold readO at h
  split at h
  ·rename_i s
   split at h
   ·rename_i hs
    cases h
    obtain⟨u,rfl⟩: ∃u,us=[u]:=by
     have:=ha.1
     match us,this with
     |[u],_=>exact⟨u,rfl⟩
    have h0:=ha.2 0 _ _ rfl rfl;obtain rfl:u= .string s:=by simpa[mE,Iq] using h0.1
    refine(callsIn_wide.1 (JD Fence.wide 6 trivial trivial trivial trivial trivial rfl (D5 _) s hs w)).mono fun e W' hh=>?_
    have key: ∀u,Below w.heap.size w W'->(∃us bs,u=gF us/\(∀b∈bs,w.heap.size<=b/\ ¬I b)/\bs.Nodup/\aY P0 I W' (Iv P0 89) (vD s) us bs)->aW P0 I w (Iv P0 89) (vD s) u W':=fun u hB ⟨us,bs,h1,h2,h3,h4⟩=>
     ⟨fun b hb=>hB.block b hb,hB.size,hB.os,hB.tape,hB.output,I,us,bs,h1,fun _ h=>h,fun _ h=> .inl h,fun b hb=>AY (hI b hb) hB.size,h2,h3,h4⟩
    rcases hh with⟨h1,rfl,hB⟩|⟨h1,v,rfl,hown,hB⟩
    ·have hb:CE s=false:=by rw[Aef];exact fun h=>h1 ((W5 s).1 h)
     refine⟨_,rfl,key _ hB ⟨[.agg #[.slice none 0 0,.int .i64 0],.int .i64 7],[],rfl,Zi,List.nodup_nil,?_⟩⟩;unfold vD;rw[hb,Jx Zi,Bka];simp only[aY,gB,O4,Rk,iW,pW,lJ];refine⟨_,_,[],[],rfl,rfl,⟨_,_,rfl,rfl,?_⟩,_,_,[],[],rfl,rfl,⟨rfl,by simp[Iq,Value.oneCell']⟩,rfl,rfl⟩;simp only[Bca,bA];exact⟨_,_,[],[],rfl,rfl,.inl ⟨rfl,rfl,rfl⟩,_,_,[],[],rfl,rfl,⟨rfl,by simp[Iq,Value.oneCell']⟩,rfl,rfl⟩
    ·have hb:CE s=true:=(W5 s).2 h1
     have hv: ∃bs,(∀b∈bs,w.heap.size<=b/\ ¬I b)/\bs.Nodup/\gH P0 I (fun _=>False) W' 124 (.vec 1 (IY (nS s))) v bs:=by
      obtain⟨hl,⟨rfl,h0⟩|⟨g,cap,cur,rfl,hb,hg,hc,hm,hs,ht⟩⟩:=hown
      ·refine⟨[],Zi,List.nodup_nil,.inl ⟨?_,rfl,rfl⟩⟩
       have:nS s=[]:=Kw h0;rw[this];rfl
      ·refine⟨[g],fun b hbb=>?_,Zi,.inr ⟨g,cap,cur,(0,0),73,rfl,?_,Zi,hg,fun j _=>Zi,by simpa using hs,?_,hm,?_,fun hi=>by have:=hI g hi;omega,fun h=>h⟩⟩
       ·rw[FH] at hbb;subst hbb
        exact⟨hb,fun hi=>by have:=hI _ hi;omega⟩
       ·simp[nS]
       ·simpa[nS] using hc
       ·have e:(IY (nS s)).length*1=(dD (s.extract 12 s.size)).length*1:=by simp[nS]
        rw[e,ht];exact N5 I W' _
     obtain⟨bs,b1,b2,b3⟩:=hv;refine⟨_,rfl,key _ hB ⟨[.agg #[v,.int .i64 (Ux s 8)],.int .i64 0],bs,rfl,b1,b2,?_⟩⟩;unfold vD;rw[hb,Ka rfl,Bka];simp only[aY,gB,O4,Rk,iW,pW,lJ];refine⟨_,_,bs,[],rfl,Zi,⟨_,_,rfl,rfl,?_⟩,_,_,[],[],rfl,rfl,⟨rfl,by simp[Iq,Value.oneCell']⟩,rfl,rfl⟩;simp only[Bca,bA];exact⟨_,_,bs,[],rfl,Zi,b3,_,_,[],[],rfl,rfl,⟨rfl,by simp[Iq,Value.oneCell']⟩,rfl,rfl⟩
   ·cases h
  ·cases h
 ·cases h
end
end Go.Proofs.YtggghdmdjpianaaGreatDoor.K
namespace Go.Proofs.YtggghdmdjpianaaGreatDoor
section
open Go Go.Ab Go.Ab.Sy
def XY :aS:=FN (wS 215 MI JC) K.X47
theorem XY_ok :Av P0 XY:=Ti (M0 go_s) K.X47_ok
theorem byt_z :(eP P0 yW XY).dat 94 [tv CD,tv dK,iv 1000000]=some [.agg [iv 1,tv wA,iv 6],iv 0]:=jQ.2 ⟨80,Zf⟩
theorem byt_s :eN P0 94 [tv CD,tv dK,iv 1000000] [.agg [iv 1,tv wA,iv 6],iv 0]:=(Fl An Gq XY_ok).1 _ _ _ byt_z
noncomputable def zF (f:Nat)(xs rs:List AV):aS:=open Classical in ⟨fun g a=>if g=f/\a=xs then some rs else none,fun _ _ _ _ _=>none⟩
noncomputable def pY :List (Nat×List AV×List AV)->aS
 |[]=>⟨fun _ _=>none,fun _ _ _ _ _=>none⟩
 |e::l=>FN (zF e.1 e.2.1 e.2.2) (pY l)
theorem JV {f:Nat}{xs rs:List AV}(h:eN P0 f xs rs):Av P0 (zF f xs rs):=by
 refine⟨fun g a r hr=>?_,fun _ _ _ _ _ _ _ h=>nomatch h⟩;simp only[zF] at hr
 split at hr
 ·rename_i hc
  cases hr
  obtain⟨rfl,rfl⟩:=hc;exact h
 ·cases hr
theorem Tm : ∀l:List (Nat×List AV×List AV),(∀e∈l,eN P0 e.1 e.2.1 e.2.2)->Av P0 (pY l)
 |[],_=>⟨(fun _ _ _ h=>nomatch h),(fun _ _ _ _ _ _ _ h=>nomatch h)⟩
 |e::l,h=>Ti (JV (h e (Vc ..))) (Tm l fun x hx=>h x (T8 _ hx))
theorem Dn {f:Nat}{a r:List AV}{suf:List (Nat×List AV×List AV)}: ∀pre:List (Nat×List AV×List AV),(∀e∈pre,¬(f=e.1/\a=e.2.1))->(pY (pre++(f,a,r)::suf)).dat f a=some r
 |[],_=>by simp[pY,FN,zF]
 |e::l,h=>by
  have h1:=h e (Vc ..);have h2:=Dn (r:=r) (suf:=suf) l fun x hx=>h x (T8 _ hx)
  simp only[FG,pY,FN,zF,Jx h1];exact h2
theorem Tn {f:Nat}{a:List AV}: ∀l:List (Nat×List AV×List AV),(∀e∈l,f≠e.1)->(pY l).dat f a=none
 |[],_=>rfl
 |e::l,h=>by
  have h1: ¬(f=e.1/\a=e.2.1):=fun hh=>h e (Vc ..) hh.1
  have h2:=Tn (a:=a) l fun x hx=>h x (T8 _ hx)
  simp only[pY,FN,zF,Jx h1];exact h2
theorem Em {ns vs:List ByteArray}{x v:ByteArray}(i:Nat)(hl:ns.length<=1000)(hi:ns[i]?=some x)(Ii: ∀j,j<i->ns[j]?≠some x)(hv:vs[i]?=some v):LC.dat 56 [.agg (I7 ns vs),tv x]=some [tv v,bv true]:=C2a ns vs x v i hl hi Ii hv
theorem comp_c : ∃(img:ByteArray) (n n2:Int),LC.dat 91 [tv dK]=some [tv img,iv n,iv 0]/\LC.dat 94 [tv img,tv dK,iv 1000000]=some [.agg [iv 1,tv wA,iv n2],iv 0]:=by
 obtain⟨n,hc⟩:=cmp_s;obtain⟨r',h1,h2⟩:=K8 hc (.inr (.inr (.inr (.inl ⟨rfl,rfl,CD,n,⟨6,byt_s⟩,rfl⟩))));rcases h2 with⟨h,_⟩|⟨h,_⟩|⟨h,_⟩|⟨_,_,img,n,⟨n2,hI⟩,rfl⟩|⟨h,_⟩
 ·exact absurd h Zd
 ·exact absurd h Zd
 ·exact absurd h Zd
 ·obtain⟨r2,h3,h4⟩:=K8 hI (.inr (.inr (.inr (.inr ⟨rfl,n2,rfl⟩))))
  rcases h4 with⟨h,_⟩|⟨h,_⟩|⟨h,_⟩|⟨h,_⟩|⟨_,n3,rfl⟩
  ·exact absurd h Zd
  ·exact absurd h Zd
  ·exact absurd h Zd
  ·exact absurd h Zd
  ·exact⟨img,n,n3,h1,h3⟩
 ·exact absurd h Zd
theorem BT {ns:List ByteArray}{x:ByteArray}(h:x∉ns): ∀j:Nat,ns[j]?≠some x:=fun j hj=>h (sM hj)
def iG (img t:ByteArray):List (Nat×List AV×List AV):=
 [(10,jK [] [] ⟨#[115,101,116]⟩ [⟨#[115]⟩,dK],mF [] [] ⟨#[115]⟩ dK ⟨⟨[]⟩⟩),
  (10,jK [⟨#[115]⟩] [dK] ⟨#[115,116,97,99,107]⟩ [⟨#[99]⟩,⟨#[115]⟩],mF [⟨#[115]⟩] [dK] ⟨#[99]⟩ img ⟨⟨[]⟩⟩),
  (10,jK [⟨#[115]⟩,⟨#[99]⟩] [dK,img] ⟨#[114,117,110]⟩ [⟨#[111]⟩,⟨#[99]⟩,⟨#[115]⟩,⟨#[49,48,48,48,48,48,48]⟩],mF [⟨#[115]⟩,⟨#[99]⟩] [dK,img] ⟨#[111]⟩ wA t),
  (10,jK [⟨#[115]⟩,⟨#[99]⟩,⟨#[111]⟩] [dK,img,wA] ⟨#[112,114,105,110,116]⟩ [⟨#[111]⟩],[.agg (I7 [⟨#[115]⟩,⟨#[99]⟩,⟨#[111]⟩] [dK,img,wA]),tv wA,iv 0]),
  (10,jK [] [] ⟨#[112,114,105,110,116]⟩ [⟨#[111]⟩],[.agg (I7 [] []),tv ⟨⟨[]⟩⟩,iv 4]),
  (10,jK [] [] ⟨#[110,111,116,104,105,110,103]⟩ [],[.agg (I7 [] []),tv ⟨⟨[]⟩⟩,iv 4])]
theorem D9a : ∃img t,∀e∈iG img t,eN P0 e.1 e.2.1 e.2.2:=by
 obtain⟨img,n,n2,hc,hx⟩:=comp_c;have vs:LC.dat 56 [.agg (I7 [⟨#[115]⟩] [dK]),tv ⟨#[115]⟩]=some [tv dK,bv true]:=Em 0 Zd rfl Zo rfl;have v1:LC.dat 56 [.agg (I7 [⟨#[115]⟩,⟨#[99]⟩] [dK,img]),tv ⟨#[99]⟩]=some [tv img,bv true]:=Em 1 Zi rfl (fun j hj=>by obtain rfl:j=0:=Zo;decide) rfl;have v2:LC.dat 56 [.agg (I7 [⟨#[115]⟩,⟨#[99]⟩] [dK,img]),tv ⟨#[115]⟩]=some [tv dK,bv true]:=Em 0 Zi rfl Zo rfl;have v3:LC.dat 56 [.agg (I7 [⟨#[115]⟩,⟨#[99]⟩,⟨#[111]⟩] [dK,img,wA]),tv ⟨#[111]⟩]=some [tv wA,bv true]:=Em 2 Zi rfl (fun j hj=>by obtain rfl|rfl:j=0\/j=1:=Zo<;>decide) rfl;obtain⟨t,hr⟩:=Do_run (ns:=[⟨#[115]⟩,⟨#[99]⟩]) (vs:=[dK,img]) (x:=⟨#[111]⟩) (z1:=⟨#[99]⟩) (z2:=⟨#[115]⟩) (z3:=⟨#[49,48,48,48,48,48,48]⟩) Ku Zd W4 Zd Fy Zd v1 v2 JP hx Zi Zi (BT Zi);refine⟨img,t,?_⟩;have q1:=FC (ns:=[]) (vs:=[]) (x:=⟨#[115]⟩) (v:=dK) Fy Zd Zd Zi Zi Zi;have q2:=Lda (ns:=[⟨#[115]⟩]) (vs:=[dK]) (x:=⟨#[99]⟩) (z:=⟨#[115]⟩) W4 Zd Fy Zd vs hc Zi Zi (BT Zi);have q4:=Lfa (ns:=[⟨#[115]⟩,⟨#[99]⟩,⟨#[111]⟩]) (vs:=[dK,img,wA]) (x:=⟨#[111]⟩) Ku Zd v3;have q5:=Do_no (ns:=[]) (vs:=[]) (ws:=[⟨#[111]⟩]) (verb:=⟨#[112,114,105,110,116]⟩) (ks:=⟨#[77]⟩) (f:=37) (i:=3) Zf rfl (Kma [] [] ⟨#[111]⟩ Zi Ku Zi);have q6:=Do_nf (ns:=[]) (vs:=[]) (ws:=[]) (verb:=⟨#[110,111,116,104,105,110,103]⟩) Zf;intro e he;simp only[iG,sV,Ac4,or_false] at he;rcases he with rfl|rfl|rfl|rfl|rfl|rfl
 ·exact q1
 ·exact q2
 ·exact hr
 ·exact q4
 ·exact q5
 ·exact q6
theorem Ea {ls:List (List AV)}(h:ls.all (fun l=>match l with|[.sc (.string _),.sl false 1 _]=>true|_=>false)=true): ∀l∈ls,∃v R,l=[tv v,.sl false 1 R]:=by
 intro l hl;have:=nU.1 h l hl
 split at this
 ·exact⟨_,_,rfl⟩
 ·cases this
theorem Pq :eN P0 4 [] [bv true]:=by
 obtain⟨img,t,hA⟩:=D9a;have Uz:Av P0 (Lm (pY (iG img t))):=Fl An Cc (Tm _ hA);have mX: ∀f a,f≠10->(pY (iG img t)).dat f a=none:=fun f a hf=>Tn _ (by simp[iG,hf])
 have e1:(pY (iG img t)).dat 10 (jK [] [] ⟨#[115,101,116]⟩ [⟨#[115]⟩,dK])=some (mF [] [] ⟨#[115]⟩ dK ⟨⟨[]⟩⟩):=Dn (suf:=[_,_,_,_,_]) [] Zi;have e2:(pY (iG img t)).dat 10 (jK [⟨#[115]⟩] [dK] ⟨#[115,116,97,99,107]⟩ [⟨#[99]⟩,⟨#[115]⟩])=some (mF [⟨#[115]⟩] [dK] ⟨#[99]⟩ img ⟨⟨[]⟩⟩):=Dn (suf:=[_,_,_,_]) [_] (by simp[I7,aE]);have e3:(pY (iG img t)).dat 10 (jK [⟨#[115]⟩,⟨#[99]⟩] [dK,img] ⟨#[114,117,110]⟩ [⟨#[111]⟩,⟨#[99]⟩,⟨#[115]⟩,⟨#[49,48,48,48,48,48,48]⟩])=some (mF [⟨#[115]⟩,⟨#[99]⟩] [dK,img] ⟨#[111]⟩ wA t):=Dn (suf:=[_,_,_]) [_,_] (by simp[I7,aE]);have e4:(pY (iG img t)).dat 10 (jK [⟨#[115]⟩,⟨#[99]⟩,⟨#[111]⟩] [dK,img,wA] ⟨#[112,114,105,110,116]⟩ [⟨#[111]⟩])=some [.agg (I7 [⟨#[115]⟩,⟨#[99]⟩,⟨#[111]⟩] [dK,img,wA]),tv wA,iv 0]:=Dn (suf:=[_,_]) [_,_,_] (by simp[I7,aE]);have e5:(pY (iG img t)).dat 10 (jK [] [] ⟨#[112,114,105,110,116]⟩ [⟨#[111]⟩])=some [.agg (I7 [] []),tv ⟨⟨[]⟩⟩,iv 4]:=Dn (suf:=[_]) [_,_,_,_] (by simp[I7,aE]);have e6:(pY (iG img t)).dat 10 (jK [] [] ⟨#[110,111,116,104,105,110,103]⟩ [])=some [.agg (I7 [] []),tv ⟨⟨[]⟩⟩,iv 4]:=Dn (suf:=[]) [_,_,_,_,_] (by simp[I7,aE]);generalize pY (iG img t)=X at*;have xD:=new_z (mX 9 [] Zd);obtain⟨D1,d1,p1⟩:=Tf (fun a=>mX _ a Zd) xD [[tv ⟨#[115,101,116]⟩,.sl false 1 [[tv ⟨#[115]⟩],[tv ⟨#[102,117,110,99,32,109,97,105,110,40,41,32,123,32,112,117,116,40,54,53,41,59,32,125]⟩]]],[tv ⟨#[115,116,97,99,107]⟩,.sl false 1 [[tv ⟨#[99]⟩],[tv ⟨#[115]⟩]]],[tv ⟨#[114,117,110]⟩,.sl false 1 [[tv ⟨#[111]⟩],[tv ⟨#[99]⟩],[tv ⟨#[115]⟩],[tv ⟨#[49,48,48,48,48,48,48]⟩]]],[tv ⟨#[112,114,105,110,116]⟩,.sl false 1 [[tv ⟨#[111]⟩]]]] Zi (Ea rfl) (fun j=>aE ([⟨#[115]⟩,⟨#[99]⟩,⟨#[111]⟩].take j)) (fun j=>aE ([dK,img,wA].take j)) ⟨rfl,rfl⟩ (fun j=>if j=3 then t else if j=4 then wA else⟨⟨[]⟩⟩) (fun _=>0) (by
  intro j hj l hl;have:j=0\/j=1\/j=2\/j=3:=by simp at hj;omega
  rcases this with rfl|rfl|rfl|rfl
  all_goals (simp only[Rt,T7,Bc] at hl;subst hl)
  ·exact .inl (Aw e1)
  ·exact .inl (Aw e2)
  ·exact .inl (Aw e3)
  ·exact .inr (Aw e4))
 obtain⟨D2,d2,p2⟩:=Tf (fun a=>mX _ a Zd) xD [[tv ⟨#[112,114,105,110,116]⟩,.sl false 1 [[tv ⟨#[111]⟩]]]] Zi (Ea rfl) (fun _=>[]) (fun _=>[]) ⟨rfl,rfl⟩ (fun _=>⟨⟨[]⟩⟩) (fun _=>4) (by
  intro j hj l hl;obtain rfl:j=0:=by simp at hj;omega
  simp only[Rt,Bc] at hl;subst hl;exact .inr (Aw e5))
 obtain⟨D3,d3,p3⟩:=Tf (fun a=>mX _ a Zd) xD [[tv ⟨#[110,111,116,104,105,110,103]⟩,.sl false 1 []]] Zi (Ea rfl) (fun _=>[]) (fun _=>[]) ⟨rfl,rfl⟩ (fun _=>⟨⟨[]⟩⟩) (fun _=>4) (by
  intro j hj l hl;obtain rfl:j=0:=by simp at hj;omega
  simp only[Rt,Bc] at hl;subst hl;exact .inr (Aw e6))
 exact Uz.1 _ _ _ (NM (fun a=>mX _ a Zd) (fun a=>mX _ a Zd) d1 d2 d3 p1 p2 p3)
theorem BH {X:aS}(hX: ∀f a,X.dat f a=none)(p:Sy.Pr)(hs:p.size<=20000):(Lm X).dat 8 [.agg p.row]=some [iv (fE iZ p)]:=by
 obtain⟨pv,pa,pf⟩:=p;unfold Sy.Pr.size at hs;simp only at hs;have hl:=Bq pf;have hm: ∀f∈pf,f.size<=20000:=fun f hf=>by have:=Do hf;omega
 have h:=Fba hX pv pa pf Zo Zo Zo (fun f hf=>by have:=hm f hf;unfold Sy.Fu.size at this;omega) (fun f hf=>by have:=hm f hf;omega);rw[Dja U5 nbU_0] at h;exact h
def jA (src:ByteArray)(rs rq p:List AV)(e:Int):List (Nat×List AV×List AV):=
 [(10,jK [] [] ⟨#[115,101,116]⟩ [⟨#[115]⟩,src],mF [] [] ⟨#[115]⟩ src ⟨⟨[]⟩⟩),
  (10,jK [⟨#[115]⟩] [src] ⟨#[109,101,97,110]⟩ [⟨#[111]⟩,⟨#[115]⟩,⟨#[115]⟩,⟨#[53,48]⟩],rs),
  (7,[tv src],rq),(4,[],[bv true]),(8,[.agg p],[iv e])]
theorem Hza (src:ByteArray):eN P0 3 [tv src] [bv true]:=by
 by_cases hs:200<src.size
 ·have Uz:Av P0 (Lm (pY [(4,[],[bv true])])):=Fl An Cc (Tm _ (by simp;exact Pq))
  exact Uz.1 _ _ _ (law_l (fun a=>Tn _ Zi) src hs (Aw (Dn (suf:=[]) [] Zi)))
 have vK:src.size<=200:=Zo;have vsrc:LC.dat 56 [.agg (I7 [⟨#[115]⟩] [src]),tv ⟨#[115]⟩]=some [tv src,bv true]:=Em 0 Zi rfl Zo rfl;obtain⟨e,rs,hE,hO,hD⟩:=OA (ns:=[⟨#[115]⟩]) (vs:=[src]) (x:=⟨#[111]⟩) (z1:=⟨#[115]⟩) (z2:=⟨#[115]⟩) (z3:=⟨#[53,48]⟩) Ku Zd Fy Zd Fy Zd vsrc vsrc Gta Zo Zo Zi Zi (BT Zi);have q1:=FC (ns:=[]) (vs:=[]) (x:=⟨#[115]⟩) (v:=src) Fy Zd Zo Zi Zi Zi;obtain⟨rq,hQ,hR⟩:=NW src Zo;have gen: ∀(p:List AV) (e':Int),eN P0 8 [.agg p] [iv e']->((∃a,rq=[.agg [.vec 1 [],.vec 2 [],.vec 5 []],iv a,iv e]/\e≠0)\/ ∃a V A F,rq=[.agg [.sl false 1 V,.sl false 2 A,.sl false 5 F],iv a,iv 0]/\p=[.sl false 1 V,.sl false 2 A,.sl false 5 F]/\e'=e)->eN P0 3 [tv src] [bv true]:=by
  intro p e' hS hC;have hA: ∀x∈jA src rs rq p e',eN P0 x.1 x.2.1 x.2.2:=by
   intro x hx;simp only[jA,sV,Ac4,or_false] at hx;rcases hx with rfl|rfl|rfl|rfl|rfl
   ·exact q1
   ·exact hD
   ·exact eR.1 _ _ _ hQ
   ·exact Pq
   ·exact hS
  have Uz:Av P0 (Lm (pY (jA src rs rq p e'))):=Fl An Cc (Tm _ hA);have mX: ∀f a,f≠10->f≠7->f≠4->f≠8->(pY (jA src rs rq p e')).dat f a=none:=fun f a h1 h2 h3 h4=>Tn _ (by simp[jA,h1,h2,h3,h4])
  have e1:(pY (jA src rs rq p e')).dat 10 (jK [] [] ⟨#[115,101,116]⟩ [⟨#[115]⟩,src])=some (mF [] [] ⟨#[115]⟩ src ⟨⟨[]⟩⟩):=Dn (suf:=[_,_,_,_]) [] Zi;have e2:(pY (jA src rs rq p e')).dat 10 (jK [⟨#[115]⟩] [src] ⟨#[109,101,97,110]⟩ [⟨#[111]⟩,⟨#[115]⟩,⟨#[115]⟩,⟨#[53,48]⟩])=some rs:=Dn (suf:=[_,_,_]) [_] (by simp[I7,aE]);have e3:(pY (jA src rs rq p e')).dat 7 [tv src]=some rq:=Dn (suf:=[_,_]) [_,_] Zi;have e4:(pY (jA src rs rq p e')).dat 4 []=some [bv true]:=Dn (suf:=[_]) [_,_,_] Zi;have e5:(pY (jA src rs rq p e')).dat 8 [.agg p]=some [iv e']:=Dn (suf:=[]) [_,_,_,_] Zi;generalize pY (jA src rs rq p e')=X at*;have xD:=new_z (mX 9 [] Zd Zd Zd Zd);obtain⟨N2,V2,t,mV⟩: ∃N2 V2 t,rs=[dV N2 V2,tv t,iv e]\/rs=[dA N2 V2,tv t,iv e]:=by
   rcases hO with⟨rfl,o,t,rfl⟩|⟨_,rfl⟩
   ·exact⟨_,_,t,.inl rfl⟩
   ·exact⟨_,_,_,.inr rfl⟩
  obtain⟨D,d,pl⟩:=Tf (fun a=>mX _ a Zd Zd Zd Zd) xD [[tv ⟨#[115,101,116]⟩,.sl false 1 [[tv ⟨#[115]⟩],[tv src]]],[tv ⟨#[109,101,97,110]⟩,.sl false 1 [[tv ⟨#[111]⟩],[tv ⟨#[115]⟩],[tv ⟨#[115]⟩],[tv ⟨#[53,48]⟩]]]] Zi (Ea rfl) (fun j=>if j=0 then[] else if j=1 then aE [⟨#[115]⟩] else N2) (fun j=>if j=0 then[] else if j=1 then aE [src] else V2) ⟨rfl,rfl⟩ (fun j=>if j=1 then⟨⟨[]⟩⟩ else t) (fun j=>if j=1 then 0 else e) (by
   intro j hj l hl;have:j=0\/j=1:=by simp at hj;omega
   rcases this with rfl|rfl
   all_goals (simp only[Rt,T7,Bc] at hl;subst hl)
   ·exact .inl (Aw e1)
   ·rcases mV with rfl|rfl
    ·exact .inl (Aw e2)
    ·exact .inr (Aw e2))
  rcases hC with⟨a,rfl,he⟩|⟨a,V,A,F,rfl,rfl,rfl⟩
  ·exact Uz.1 _ _ _ (law_a (fun a=>mX _ a Zd Zd Zd Zd) (fun a=>mX _ a Zd Zd Zd Zd) src vK (Aw e4) d pl he (Aw e3))
  ·exact Uz.1 _ _ _ (law_b (fun a=>mX _ a Zd Zd Zd Zd) (fun a=>mX _ a Zd Zd Zd Zd) src vK (Aw e4) d pl (Aw e3) (Aw e5))
 obtain⟨a,hR⟩:=hR;have hno46: ∀f a,bX.dat f a=none:=fun _ _=>rfl
 have sA:eN P0 8 [.agg xA.row] [iv (fE iZ xA)]:=eR.1 _ _ _ (BH hno46 xA Zd);rcases hR with⟨e',hno',rfl⟩|⟨p,nC,aZ,⟨hr,rfl⟩|⟨hr,rfl⟩⟩
 ·obtain rfl:=hE.one (.inl hno')
  exact gen _ _ sA (.inl ⟨a,rfl,hno'.ne⟩)
 ·obtain rfl:=hE.one (.inr ⟨p,nC,aZ,.inl ⟨hr,rfl⟩⟩)
  exact gen _ _ sA (.inl ⟨a,rfl,Zd⟩)
 ·obtain rfl:=hE.one (.inr ⟨p,nC,aZ,.inr ⟨hr,rfl⟩⟩)
  exact gen p.row _ (eR.1 _ _ _ (BH hno46 p aZ)) (.inr ⟨a,_,_,_,rfl,rfl,rfl⟩)
end
end Go.Proofs.YtggghdmdjpianaaGreatDoor
