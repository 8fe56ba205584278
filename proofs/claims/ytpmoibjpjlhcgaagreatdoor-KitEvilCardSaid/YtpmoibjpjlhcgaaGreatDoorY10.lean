/- A part of the proof: Qp, Qa, Qb, Qc, Qx, Qd, Qe, Qg. -/
import Derived.Test.YtpmoibjpjlhcgaaGreatDoorY07
import Derived.Test.YtpmoibjpjlhcgaaGreatDoorY09
import Derived.Test.YtpmoibjpjlhcgaaGreatDoorY05
import Derived.Lib.Hide
import Derived.Test.YtpmoibjpjlhcgaaGreatDoorY03
import Derived.Laws.StructEq
import Derived.ChangeKeysEq
set_option linter.unusedSimpArgs false
set_option linter.unusedVariables false
set_option maxRecDepth 200000
set_option maxHeartbeats 8000000
namespace Go.Proofs.YtpmoibjpjlhcgaaGreatDoor.Q
open Go Go.Ab
def A1 (s:ByteArray)(i:Nat):Int:=(s.data.toList.getD i 0).toNat
def wordAt (s:ByteArray)(i:Nat):Int:=A1 s i+256*A1 s (i+1)+65536*A1 s (i+2)+16777216*A1 s (i+3)
theorem Dx {x y:Nat}(i:Nat)(h:x<2^i):x|||y*2^i=x+y*2^i:=by
 rw[Nat.or_comm,<-Nat.shiftLeft_eq,<-Nat.shiftLeft_add_eq_or_of_lt h,Nat.shiftLeft_eq,Nat.add_comm]
theorem Jr {x y:Nat}(hx:x<4294967296)(hy:y<4294967296):bits .or .u32 (x:Int) (y:Int)=((x|||y:Nat):Int):=by
 have h:(BitVec.ofInt 32 (x:Int)|||BitVec.ofInt 32 (y:Int)).toNat=x|||y:=by
  rw[BitVec.toNat_or,BitVec.ofInt_natCast,BitVec.ofInt_natCast,BitVec.toNat_ofNat,BitVec.toNat_ofNat,Nat.mod_eq_of_lt hx,Nat.mod_eq_of_lt hy]
 show IntKind.u32.wrap ((BitVec.ofInt 32 (x:Int)|||BitVec.ofInt 32 (y:Int)).toNat:Int)=_
 rw[h,IntKind.wrap_u32]
 have:x|||y<2^32:=Nat.or_lt_two_pow (by omega) (by omega)
 omega
theorem wrapN {k:Nat}(h:k<9223372036854775807):IntKind.i64.wrap ((k:Int)+1)=(k:Int)+1:=Ag (by omega) (by omega)
def U (n:Int):Prop:=0<=n/\n<4294967296
def b4 (w:Int):List Int:=[w%256,w/256%256,w/65536%256,w/16777216%256]
def bys (l:List Int):List Int:=l.flatMap b4
abbrev rowB (l:List Int):List (List AV):=l.map fun x=>[.sc (.int .u8 x)]
def toBytes (l:List Int):List UInt8:=l.map fun x=>UInt8.ofNat x.toNat
def txtW (l:List Int):ByteArray:=⟨⟨toBytes (bys l)⟩⟩
@[simp] theorem fd8 (w:Int):w.fdiv (2^min 8 IntKind.u32.bits)=w/256:=by rw[show(2:Int)^min 8 IntKind.u32.bits=256 from by decide+kernel];exact Int.fdiv_eq_ediv_of_nonneg _ (by omega)
@[simp] theorem fd16 (w:Int):w.fdiv (2^min 16 IntKind.u32.bits)=w/65536:=by rw[show(2:Int)^min 16 IntKind.u32.bits=65536 from by decide+kernel];exact Int.fdiv_eq_ediv_of_nonneg _ (by omega)
@[simp] theorem fd24 (w:Int):w.fdiv (2^min 24 IntKind.u32.bits)=w/16777216:=by rw[show(2:Int)^min 24 IntKind.u32.bits=16777216 from by decide+kernel];exact Int.fdiv_eq_ediv_of_nonneg _ (by omega)
theorem D8 : ∀l:List Int,bytesOfRows (rowB l)=some (toBytes l)
 |[]=>rfl
 |x::l=>by
  have:=D8 l
  unfold rowB at this⊢
  simp only[List.map_cons,bytesOfRows,this,Option.map_some,toBytes]
theorem Ej : ∀l:List Int,(bys l).length=4*l.length
 |[]=>rfl
 |x::l=>by
  have:=Ej l
  unfold bys at this⊢
  simp only[List.flatMap_cons,List.length_append,this,List.length_cons,b4,List.length_nil];omega
theorem Jpa {l:List Int}{k:Nat}{w:Int}(h:l[k]?=some w):bys (l.take k)++b4 w=bys (l.take (k+1)):=by
 rw[List.take_add_one,h]
 unfold bys
 rw[List.flatMap_append]
 simp
abbrev rowW (l:List Int):List (List AV):=l.map fun x=>[uv x]
theorem d26 (l:List Int)(hl:l.length<=1048576)(hU: ∀x∈l,U x):(lim Tryz.prog E47 X46).dat 33 [.sl false 1 (rowW l)]=some [.sc (.string (txtW l))]:=by
 refine fnW Tryz.func33 rfl rfl O7 rfl Zb rfl ?_
 have hm:IntKind.i64.wrap (4*(l.length:Int))=4*(l.length:Int):=Ag (by omega) (by omega)
 have m0:(0:Int)<=4*(l.length:Int):=by omega
 have m1:4*(l.length:Int)<=9223372036854775807:=by omega
 have m2:4*(l.length:Int)<=140737488355328:=by omega
 repeat' (first|refine ZN ?_|refine Z2 ?_ ?_|(intro h h';try simp[*,-h] at h'))
 refine Ah (n:=l.length) (fun s0 m s=> ∃k g:Nat,m=l.length - k/\k<=l.length/\s.fr 12=iv k/\s.fr 3= .own ⟨0,9,0⟩ g (4*k)/\s.fr 10=s0.fr 10/\s.fr 11=s0.fr 11/\s.hp ⟨0,9,0⟩= .arr g 1 5 (rowB (bys (l.take k))) false) ⟨0,1,by simp,by omega,by simp,by simp,by simp,by simp,by simp[bys]⟩ ?_
 rintro m ⟨fr,hp⟩ ⟨k,g,rfl,hk,hs12,hs3,hs10,hs11,hh9⟩
 simp at hs12 hs3 hs10 hs11 hh9
 by_cases hlt:k<l.length
 ·have hg:=List.getElem?_eq_getElem hlt
  have hw:=wrapN (k:=k) (by omega)
  have e0:IntKind.u8.wrap l[k]=l[k]%256:=IntKind.wrap_u8 _
  have e1:IntKind.u8.wrap (l[k]/256)=l[k]/256%256:=IntKind.wrap_u8 _
  have e2:IntKind.u8.wrap (l[k]/65536)=l[k]/65536%256:=IntKind.wrap_u8 _
  have e3:IntKind.u8.wrap (l[k]/16777216)=l[k]/16777216%256:=IntKind.wrap_u8 _
  have hbl:(bys (l.take k)).length=4*k:=by rw[Ej,List.length_take];omega
  have hap:rowB (bys (l.take k))++[[.sc (.int .u8 (l[k]%256))],[.sc (.int .u8 (l[k]/256%256))],[.sc (.int .u8 (l[k]/65536%256))],[.sc (.int .u8 (l[k]/16777216%256))]]=rowB (bys (l.take (k+1))):=by
   rw[<-Jpa hg];simp[b4]
  have b1:4*k<=140737488355324:=by omega
  have b2:4*k<=9223372036854775803:=by omega
  repeat' (first|refine ZN ?_|refine Z2 ?_ ?_|(intro h h';try simp[*,-h] at h'))
  exact⟨_,by omega,k+1,g+1,rfl,hlt,by simp,by simp[Nat.mul_add],by simp[*],by simp[*],by simp[*]⟩
 ·obtain rfl:k=l.length:=by omega
  have hta:l.take l.length=l:=List.take_of_length_le (Nat.le_refl _)
  have hbl:(bys l).length=4*l.length:=Ej l
  have htk:(rowB (bys l)).take (4*l.length)=rowB (bys l):=List.take_of_length_le (by simp[hbl])
  have hbr:=D8 (bys l)
  rw[hta] at hh9
  exact ZS
theorem Aq {s:ByteArray}{i:Nat}(h:i<s.size): ∃B:UInt8,s.data[i]?=some B/\(B.toNat:Int)=A1 s i:=by
 have hlt:i<s.data.size:=h
 refine⟨s.data[i],Array.getElem?_eq_getElem hlt,?_⟩
 unfold A1
 rw[List.getD_eq_getElem?_getD,List.getElem?_eq_getElem (by simpa using hlt)]
 simp
def wordL (L:List UInt8)(i:Nat):Int:=((L.getD i 0).toNat:Int)+256*(L.getD (i+1) 0).toNat+65536*(L.getD (i+2) 0).toNat+16777216*(L.getD (i+3) 0).toNat
theorem Er (s:ByteArray)(i:Nat):wordAt s i=wordL s.data.toList i:=rfl
theorem Gr (A L:List UInt8)(i:Nat):wordL (A++L) (A.length+i)=wordL L i:=by
 have e: ∀j,(A++L).getD (A.length+j) 0=L.getD j 0:=fun j=>by
  simp[List.getD_eq_getElem?_getD,List.getElem?_append_right]
 unfold wordL
 rw[e i,Nat.add_assoc,e,Nat.add_assoc,e,Nat.add_assoc,e]
theorem Eb (l:List Int):(toBytes l).length=l.length:=by simp[toBytes]
theorem Ek (a:ByteArray):a.size=a.data.toList.length:=rfl
end Go.Proofs.YtpmoibjpjlhcgaaGreatDoor.Q
namespace Go.Proofs.YtpmoibjpjlhcgaaGreatDoor.Q
open Go Go.Ab
attribute [-simp] Prog.bind getCs putCs
attribute [local simp ↓] run_bind
attribute [local simp ↓] Ax
attribute [local simp] Av As facetsC A5 A0
def xorW (a b:Int):Int:=IntKind.u32.wrap ((BitVec.ofInt IntKind.u32.bits a^^^BitVec.ofInt IntKind.u32.bits b).toNat)
def orW (a b:Int):Int:=IntKind.u32.wrap ((BitVec.ofInt IntKind.u32.bits a|||BitVec.ofInt IntKind.u32.bits b).toNat)
def andX (a b:Int):Int:=IntKind.u64.wrap ((BitVec.ofInt IntKind.u64.bits a&&&BitVec.ofInt IntKind.u64.bits b).toNat)
theorem J9 (a b:Int):evInt .xor .u32 a b=some (.int .u32 (xorW a b)):=rfl
theorem My (a b:Int):evInt .or .u32 a b=some (.int .u32 (orW a b)):=rfl
theorem Gf (a b:Int):evInt .and .u64 a b=some (.int .u64 (andX a b)):=rfl
theorem Fa {x y:Nat}(hx:x<4294967296)(hy:y<4294967296):orW (x:Int) (y:Int)=((x|||y:Nat):Int):=Jr hx hy
theorem D4a (x:Int):U (IntKind.u32.wrap x):=by rw[IntKind.wrap_u32];unfold U;omega
theorem Pi (a b:Int):U (xorW a b):=D4a _
def turnP (x:Int)(k:Nat):Int:=x*2^k%4294967296+x/2^(32 - k)
attribute [local simp ↓] J9 My Gf
theorem turnP_7 (x:Int):turnP x 7=x*128%4294967296+x/33554432:=rfl
theorem Bja {x:Int}(h:U x):orW (IntKind.u32.wrap (x*128)) (x/33554432)=turnP x 7:=by
 obtain⟨n,rfl⟩: ∃n:Nat,x=n:=⟨x.toNat,by unfold U at h;omega⟩
 have hn:n<4294967296:=by unfold U at h;omega
 have e:IntKind.u32.wrap ((n:Int)*128)=((n%33554432*128:Nat):Int):=by rw[IntKind.wrap_u32];omega
 have e2:(n:Int)/33554432=((n/33554432:Nat):Int):=by omega
 have o:=Dx (x:=n/33554432) (y:=n%33554432) 7 (by omega)
 rw[show(2:Nat)^7=128 from rfl] at o
 rw[e,e2,Fa (by omega) (by omega),Nat.or_comm,o,turnP_7]
 omega
@[simp] theorem fd25 (w:Int):w.fdiv (2^min 25 IntKind.u32.bits)=w/33554432:=by rw[show(2:Int)^min 25 IntKind.u32.bits=33554432 from by decide+kernel];exact Int.fdiv_eq_ediv_of_nonneg _ (by omega)
@[simp] theorem sh7 (w:Int):w*2^min 7 IntKind.u32.bits=w*128:=by rw[show(2:Int)^min 7 IntKind.u32.bits=128 from by decide+kernel]
theorem and_7 :andX 7 31=7:=by decide+kernel
theorem d88_7 (x:Int)(h:U x):(lim Tryz.prog E47 X46).dat 131 [uv x,iv 7]=some [uv (turnP x 7)]:=by
 refine fnW Tryz.func131 rfl rfl Fi rfl H9 rfl ?_
 have a1:IntKind.u64.wrap 7=7:=by decide+kernel
 have a2:IntKind.u64.wrap 25=25:=by decide+kernel
 have a3:=and_7
 have a4:=Bja h
 clear h
 exact ZS
theorem turnP_9 (x:Int):turnP x 9=x*512%4294967296+x/8388608:=rfl
theorem Bia {x:Int}(h:U x):orW (IntKind.u32.wrap (x*512)) (x/8388608)=turnP x 9:=by
 obtain⟨n,rfl⟩: ∃n:Nat,x=n:=⟨x.toNat,by unfold U at h;omega⟩
 have hn:n<4294967296:=by unfold U at h;omega
 have e:IntKind.u32.wrap ((n:Int)*512)=((n%8388608*512:Nat):Int):=by rw[IntKind.wrap_u32];omega
 have e2:(n:Int)/8388608=((n/8388608:Nat):Int):=by omega
 have o:=Dx (x:=n/8388608) (y:=n%8388608) 9 (by omega)
 rw[show(2:Nat)^9=512 from rfl] at o
 rw[e,e2,Fa (by omega) (by omega),Nat.or_comm,o,turnP_9]
 omega
@[simp] theorem fd23 (w:Int):w.fdiv (2^min 23 IntKind.u32.bits)=w/8388608:=by rw[show(2:Int)^min 23 IntKind.u32.bits=8388608 from by decide+kernel];exact Int.fdiv_eq_ediv_of_nonneg _ (by omega)
@[simp] theorem sh9 (w:Int):w*2^min 9 IntKind.u32.bits=w*512:=by rw[show(2:Int)^min 9 IntKind.u32.bits=512 from by decide+kernel]
theorem and_9 :andX 9 31=9:=by decide+kernel
theorem d88_9 (x:Int)(h:U x):(lim Tryz.prog E47 X46).dat 131 [uv x,iv 9]=some [uv (turnP x 9)]:=by
 refine fnW Tryz.func131 rfl rfl Fi rfl H9 rfl ?_
 have a1:IntKind.u64.wrap 9=9:=by decide+kernel
 have a2:IntKind.u64.wrap 23=23:=by decide+kernel
 have a3:=and_9
 have a4:=Bia h
 clear h
 exact ZS
theorem Eca (x:Int):turnP x 13=x*8192%4294967296+x/524288:=rfl
theorem Tq {x:Int}(h:U x):orW (IntKind.u32.wrap (x*8192)) (x/524288)=turnP x 13:=by
 obtain⟨n,rfl⟩: ∃n:Nat,x=n:=⟨x.toNat,by unfold U at h;omega⟩
 have hn:n<4294967296:=by unfold U at h;omega
 have e:IntKind.u32.wrap ((n:Int)*8192)=((n%524288*8192:Nat):Int):=by rw[IntKind.wrap_u32];omega
 have e2:(n:Int)/524288=((n/524288:Nat):Int):=by omega
 have o:=Dx (x:=n/524288) (y:=n%524288) 13 (by omega)
 rw[show(2:Nat)^13=8192 from rfl] at o
 rw[e,e2,Fa (by omega) (by omega),Nat.or_comm,o,Eca]
 omega
@[simp] theorem fd19 (w:Int):w.fdiv (2^min 19 IntKind.u32.bits)=w/524288:=by rw[show(2:Int)^min 19 IntKind.u32.bits=524288 from by decide+kernel];exact Int.fdiv_eq_ediv_of_nonneg _ (by omega)
@[simp] theorem sh13 (w:Int):w*2^min 13 IntKind.u32.bits=w*8192:=by rw[show(2:Int)^min 13 IntKind.u32.bits=8192 from by decide+kernel]
theorem and_13 :andX 13 31=13:=by decide+kernel
theorem d88_13 (x:Int)(h:U x):(lim Tryz.prog E47 X46).dat 131 [uv x,iv 13]=some [uv (turnP x 13)]:=by
 refine fnW Tryz.func131 rfl rfl Fi rfl H9 rfl ?_
 have a1:IntKind.u64.wrap 13=13:=by decide+kernel
 have a2:IntKind.u64.wrap 19=19:=by decide+kernel
 have a3:=and_13
 have a4:=Tq h
 clear h
 exact ZS
theorem Eba (x:Int):turnP x 18=x*262144%4294967296+x/16384:=rfl
theorem Tp {x:Int}(h:U x):orW (IntKind.u32.wrap (x*262144)) (x/16384)=turnP x 18:=by
 obtain⟨n,rfl⟩: ∃n:Nat,x=n:=⟨x.toNat,by unfold U at h;omega⟩
 have hn:n<4294967296:=by unfold U at h;omega
 have e:IntKind.u32.wrap ((n:Int)*262144)=((n%16384*262144:Nat):Int):=by rw[IntKind.wrap_u32];omega
 have e2:(n:Int)/16384=((n/16384:Nat):Int):=by omega
 have o:=Dx (x:=n/16384) (y:=n%16384) 18 (by omega)
 rw[show(2:Nat)^18=262144 from rfl] at o
 rw[e,e2,Fa (by omega) (by omega),Nat.or_comm,o,Eba]
 omega
@[simp] theorem fd14 (w:Int):w.fdiv (2^min 14 IntKind.u32.bits)=w/16384:=by rw[show(2:Int)^min 14 IntKind.u32.bits=16384 from by decide+kernel];exact Int.fdiv_eq_ediv_of_nonneg _ (by omega)
@[simp] theorem sh18 (w:Int):w*2^min 18 IntKind.u32.bits=w*262144:=by rw[show(2:Int)^min 18 IntKind.u32.bits=262144 from by decide+kernel]
theorem and_18 :andX 18 31=18:=by decide+kernel
theorem d88_18 (x:Int)(h:U x):(lim Tryz.prog E47 X46).dat 131 [uv x,iv 18]=some [uv (turnP x 18)]:=by
 refine fnW Tryz.func131 rfl rfl Fi rfl H9 rfl ?_
 have a1:IntKind.u64.wrap 18=18:=by decide+kernel
 have a2:IntKind.u64.wrap 14=14:=by decide+kernel
 have a3:=and_18
 have a4:=Tp h
 clear h
 exact ZS
theorem d78_7 (x:Int)(h:U x):(lim Tryz.prog E47 X46).dat 95 [uv x,iv 7]=some [uv (turnP x 7)]:=by
 refine fnW Tryz.func95 rfl rfl G7 rfl Ld rfl ?_
 have h88:=d88_7 x h
 clear h
 exact ZS
theorem d78_9 (x:Int)(h:U x):(lim Tryz.prog E47 X46).dat 95 [uv x,iv 9]=some [uv (turnP x 9)]:=by
 refine fnW Tryz.func95 rfl rfl G7 rfl Ld rfl ?_
 have h88:=d88_9 x h
 clear h
 exact ZS
theorem d78_13 (x:Int)(h:U x):(lim Tryz.prog E47 X46).dat 95 [uv x,iv 13]=some [uv (turnP x 13)]:=by
 refine fnW Tryz.func95 rfl rfl G7 rfl Ld rfl ?_
 have h88:=d88_13 x h
 clear h
 exact ZS
theorem d78_18 (x:Int)(h:U x):(lim Tryz.prog E47 X46).dat 95 [uv x,iv 18]=some [uv (turnP x 18)]:=by
 refine fnW Tryz.func95 rfl rfl G7 rfl Ld rfl ?_
 have h88:=d88_18 x h
 clear h
 exact ZS
end Go.Proofs.YtpmoibjpjlhcgaaGreatDoor.Q
namespace Go.Proofs.YtpmoibjpjlhcgaaGreatDoor.Q
open Go Go.Ab
attribute [-simp] Prog.bind getCs putCs
attribute [local simp ↓] run_bind
attribute [local simp ↓] Ax
attribute [local simp] Av As facetsC A5 A0 Bn facetsW facetsH
attribute [local simp ↓] J9 My Gf
@[simp] theorem wrap_3 :IntKind.i64.wrap 3=3:=by decide+kernel
@[simp] theorem wrap_4 :IntKind.i64.wrap 4=4:=by decide+kernel
@[simp] theorem wrap_5 :IntKind.i64.wrap 5=5:=by decide+kernel
@[simp] theorem wrap_6 :IntKind.i64.wrap 6=6:=by decide+kernel
@[simp] theorem wrap_7 :IntKind.i64.wrap 7=7:=by decide+kernel
@[simp] theorem wrap_8 :IntKind.i64.wrap 8=8:=by decide+kernel
@[simp] theorem wrap_9 :IntKind.i64.wrap 9=9:=by decide+kernel
@[simp] theorem wrap_10 :IntKind.i64.wrap 10=10:=by decide+kernel
@[simp] theorem wrap_11 :IntKind.i64.wrap 11=11:=by decide+kernel
@[simp] theorem wrap_12 :IntKind.i64.wrap 12=12:=by decide+kernel
attribute [local simp] globT
structure S8 where
 a0:Int
 a1:Int
 a2:Int
 a3:Int
 a4:Int
 a5:Int
 a6:Int
 a7:Int
abbrev wrapU (x:Int):Int:=IntKind.u32.wrap x
def rnd (k:Int)(s:S8):S8:=
 ⟨wrapU (s.a3+s.a7),turnP (xorW s.a4 (wrapU (wrapU (s.a0+wrapU (2654435769*(k+1)))+s.a4))) 7,turnP (xorW s.a5 (wrapU (s.a1+s.a5))) 9,turnP (xorW s.a6 (wrapU (s.a2+s.a6))) 13,
  turnP (xorW s.a7 (wrapU (s.a3+s.a7))) 18,wrapU (wrapU (s.a0+wrapU (2654435769*(k+1)))+s.a4),wrapU (s.a1+s.a5),wrapU (s.a2+s.a6)⟩
def mixN :Nat->S8->S8
 |0,s=>s
 |k+1,s=>rnd k (mixN k s)
def S8.row (s:S8):List AV:=[uv s.a0,uv s.a1,uv s.a2,uv s.a3,uv s.a4,uv s.a5,uv s.a6,uv s.a7]
theorem d66 (s:S8):(lim Tryz.prog E47 X46).dat 59 [.agg s.row]=some [.agg (mixN 8 s).row]:=by
 refine fnW Tryz.func59 rfl rfl Daa rfl rtys_59 rfl ?_
 have t7: ∀a b,(lim Tryz.prog E47 X46).dat 95 [uv (xorW a b),iv 7]=some [uv (turnP (xorW a b) 7)]:=fun a b=>d78_7 _ (Pi a b)
 have t9: ∀a b,(lim Tryz.prog E47 X46).dat 95 [uv (xorW a b),iv 9]=some [uv (turnP (xorW a b) 9)]:=fun a b=>d78_9 _ (Pi a b)
 have t13: ∀a b,(lim Tryz.prog E47 X46).dat 95 [uv (xorW a b),iv 13]=some [uv (turnP (xorW a b) 13)]:=fun a b=>d78_13 _ (Pi a b)
 have t18: ∀a b,(lim Tryz.prog E47 X46).dat 95 [uv (xorW a b),iv 18]=some [uv (turnP (xorW a b) 18)]:=fun a b=>d78_18 _ (Pi a b)
 unfold S8.row
 repeat' (first|refine ZN ?_|refine Z2 ?_ ?_|(intro h h';try simp[*,-h] at h'))
 refine Ah (n:=8) (fun s0 m q=> ∃k:Nat,m=8 - k/\k<=8/\q.fr 3=uv k/\q.hp ⟨0,1,0⟩= .box 1 (mixN k s).row false/\q.fr 1=s0.fr 1/\q.fr 2=s0.fr 2/\q.hp ⟨0,2,0⟩=s0.hp ⟨0,2,0⟩) ⟨0,by simp,by omega,by simp,by simp[mixN,S8.row],by simp,by simp,by simp⟩ ?_
 rintro m ⟨fr,hp⟩ ⟨k,rfl,hk,hs,hh1,hk1,hk2,hh2⟩
 simp at hs hk1 hk2 hh2
 simp only at hh1
 by_cases hlt:k<8
 ·have hw:IntKind.u32.wrap ((k:Int)+1)=(k:Int)+1:=by rw[IntKind.wrap_u32];omega
  have hlI:(k:Int)<8:=by omega
  have hm:mixN (k+1) s=rnd k (mixN k s):=rfl
  have hm':=Lib.hid hm
  clear hm
  generalize mixN k s=z at*
  obtain⟨x0,x1,x2,x3,x4,x5,x6,x7⟩:=z
  simp only[S8.row] at hh1
  repeat' (first|refine ZN ?_|refine Z2 ?_ ?_|(intro h h';try simp[*,-h] at h')|with_reducible apply Nn|fail)
  all_goals exact⟨_,by omega,k+1,rfl,hlt,by simp[*],by rw[hm'.out];simp[S8.row,rnd],by simp[*],by simp[*],by simp[*]⟩
 ·obtain rfl:k=8:=by omega
  generalize mixN 8 s=z at*
  obtain⟨x0,x1,x2,x3,x4,x5,x6,x7⟩:=z
  simp only[S8.row] at hh1
  exact ZS
end Go.Proofs.YtpmoibjpjlhcgaaGreatDoor.Q
namespace Go.Proofs.YtpmoibjpjlhcgaaGreatDoor.Q
open Go Go.Ab
attribute [-simp] Prog.bind getCs putCs
attribute [local simp ↓] run_bind
attribute [local simp ↓] Ax
attribute [local simp] Av As facetsC A5 A0 Bn facetsW facetsH
attribute [local simp ↓] J9 My Gf
structure D4 where
 d0:Int
 d1:Int
 d2:Int
 d3:Int
deriving DecidableEq
def D4.row (d:D4):List AV:=[uv d.d0,uv d.d1,uv d.d2,uv d.d3]
def takeP (s:S8)(b:D4):S8:=mixN 8 ⟨xorW s.a0 b.d0,xorW s.a1 b.d1,xorW s.a2 b.d2,xorW s.a3 b.d3,s.a4,s.a5,s.a6,s.a7⟩
def front (s:S8):D4:=⟨s.a0,s.a1,s.a2,s.a3⟩
theorem d51 (s:S8)(b:D4):(lim Tryz.prog E47 X46).dat 31 [.agg s.row,.agg b.row]=some [.agg (takeP s b).row]:=by
 refine fnW Tryz.func31 rfl rfl Dma rfl rtys_31 rfl ?_
 obtain⟨x0,x1,x2,x3,x4,x5,x6,x7⟩:=s
 obtain⟨b0,b1,b2,b3⟩:=b
 have hm:=d66 ⟨xorW x0 b0,xorW x1 b1,xorW x2 b2,xorW x3 b3,x4,x5,x6,x7⟩
 unfold takeP
 simp only
 generalize mixN 8 ⟨xorW x0 b0,xorW x1 b1,xorW x2 b2,xorW x3 b3,x4,x5,x6,x7⟩=z at*
 obtain⟨z0,z1,z2,z3,z4,z5,z6,z7⟩:=z
 simp only[S8.row] at hm
 simp only[S8.row,D4.row]
 repeat' (first|refine ZN ?_|refine Z2 ?_ ?_|(intro h h';try simp[*,-h] at h')|with_reducible apply Nn|fail)
 all_goals rfl
theorem d50 (s:S8):(lim Tryz.prog E47 X46).dat 34 [.agg s.row]=some [.agg (front s).row]:=by
 refine fnW Tryz.func34 rfl rfl Dka rfl rtys_34 rfl ?_
 obtain⟨x0,x1,x2,x3,x4,x5,x6,x7⟩:=s
 simp only[S8.row,D4.row,front]
 exact ZS
theorem Je (a b c d:UInt8):orW (orW (orW (a.toNat:Int) (b.toNat*256)) (c.toNat*65536)) (d.toNat*16777216)=(a.toNat:Int)+256*b.toNat+65536*c.toNat+16777216*d.toNat:=by
 have ha:=a.toNat_lt
 have hb:=b.toNat_lt
 have hc:=c.toNat_lt
 have hd:=d.toNat_lt
 have c1:(b.toNat:Int)*256=((b.toNat*256:Nat):Int):=by omega
 have c2:(c.toNat:Int)*65536=((c.toNat*65536:Nat):Int):=by omega
 have c3:(d.toNat:Int)*16777216=((d.toNat*16777216:Nat):Int):=by omega
 have o1:=Dx (x:=a.toNat) (y:=b.toNat) 8 (by omega)
 have o2:=Dx (x:=a.toNat+b.toNat*256) (y:=c.toNat) 16 (by omega)
 have o3:=Dx (x:=a.toNat+b.toNat*256+c.toNat*65536) (y:=d.toNat) 24 (by omega)
 rw[show(2:Nat)^8=256 from rfl] at o1
 rw[show(2:Nat)^16=65536 from rfl] at o2
 rw[show(2:Nat)^24=16777216 from rfl] at o3
 rw[c1,c2,c3,Fa (by omega) (by omega),o1,Fa (by omega) (by omega),o2,Fa (by omega) (by omega),o3]
 omega
def four (s:ByteArray)(i:Nat):D4:=⟨wordAt s i,wordAt s (i+4),wordAt s (i+8),wordAt s (i+12)⟩
@[simp] theorem shl8 (w:Int):w*2^min 8 IntKind.u32.bits=w*256:=by rw[show(2:Int)^min 8 IntKind.u32.bits=256 from by decide+kernel]
@[simp] theorem shl16 (w:Int):w*2^min 16 IntKind.u32.bits=w*65536:=by rw[show(2:Int)^min 16 IntKind.u32.bits=65536 from by decide+kernel]
@[simp] theorem shl24 (w:Int):w*2^min 24 IntKind.u32.bits=w*16777216:=by rw[show(2:Int)^min 24 IntKind.u32.bits=16777216 from by decide+kernel]
def w4 (s:ByteArray)(i:Nat):Nat->List AV
 |0=>[uv 0,uv 0,uv 0,uv 0]
 |1=>[uv (wordAt s i),uv 0,uv 0,uv 0]
 |2=>[uv (wordAt s i),uv (wordAt s (i+4)),uv 0,uv 0]
 |3=>[uv (wordAt s i),uv (wordAt s (i+4)),uv (wordAt s (i+8)),uv 0]
 |_=>[uv (wordAt s i),uv (wordAt s (i+4)),uv (wordAt s (i+8)),uv (wordAt s (i+12))]
theorem d52 (s:ByteArray)(at_:Nat)(hs:s.size<=1048576)(ha:at_+16<=s.size):(lim Tryz.prog E47 X46).dat 32 [.sc (.string s),iv at_]=some [.agg (four s at_).row]:=by
 refine fnW Tryz.func32 rfl rfl Dla rfl rtys_32 rfl ?_
 repeat' (first|refine ZN ?_|refine Z2 ?_ ?_|(intro h h';try simp[*,-h] at h'))
 refine Ah (n:=4) (fun s0 m q=> ∃k:Nat,m=4 - k/\k<=4/\q.fr 8=iv k/\q.hp ⟨0,5,0⟩= .box 1 (w4 s at_ k) false/\q.fr 0=s0.fr 0/\q.fr 1=s0.fr 1/\q.fr 4=s0.fr 4/\q.fr 5=s0.fr 5/\q.hp ⟨0,4,0⟩=s0.hp ⟨0,4,0⟩) ⟨0,by simp,by omega,by simp,by simp[w4],by simp,by simp,by simp,by simp,by simp⟩ ?_
 rintro m ⟨fr,hp⟩ ⟨k,rfl,hk,hs8,hh5,hs0,hs1,hs4,hs5,hh4⟩
 simp at hs8 hs0 hs1 hs4 hs5 hh4
 simp only at hh5
 have hk4:k=0\/k=1\/k=2\/k=3\/k=4:=by omega
 rcases hk4 with rfl|rfl|rfl|rfl|rfl
 ·simp only[w4] at hh5
  obtain⟨b,hb⟩: ∃b:Nat,b=at_+0:=⟨_,rfl⟩
  have wb:IntKind.i64.wrap ((b:Int))=b:=by rw[Ag (by omega) (by omega)];try omega
  have wz:at_=b:=by omega
  obtain⟨B0,h0,e0⟩:=Aq (s:=s) (i:=b) (by omega)
  have v0:=B0.toNat_lt
  have u0:IntKind.u32.wrap (B0.toNat:Int)=B0.toNat:=by rw[IntKind.wrap_u32];omega
  obtain⟨B1,h1,e1⟩:=Aq (s:=s) (i:=b+1) (by omega)
  have v1:=B1.toNat_lt
  have u1:IntKind.u32.wrap (B1.toNat:Int)=B1.toNat:=by rw[IntKind.wrap_u32];omega
  have w1:IntKind.i64.wrap ((b:Int)+1)=(b:Int)+1:=Ag (by omega) (by omega)
  have p1:(0:Int)<=(b:Int)+1:=by omega
  have t1:((b:Int)+1).toNat=b+1:=by omega
  have s1:IntKind.u32.wrap ((B1.toNat:Int)*256)=B1.toNat*256:=by rw[IntKind.wrap_u32];omega
  obtain⟨B2,h2,e2⟩:=Aq (s:=s) (i:=b+2) (by omega)
  have v2:=B2.toNat_lt
  have u2:IntKind.u32.wrap (B2.toNat:Int)=B2.toNat:=by rw[IntKind.wrap_u32];omega
  have w2:IntKind.i64.wrap ((b:Int)+2)=(b:Int)+2:=Ag (by omega) (by omega)
  have p2:(0:Int)<=(b:Int)+2:=by omega
  have t2:((b:Int)+2).toNat=b+2:=by omega
  have s2:IntKind.u32.wrap ((B2.toNat:Int)*65536)=B2.toNat*65536:=by rw[IntKind.wrap_u32];omega
  obtain⟨B3,h3,e3⟩:=Aq (s:=s) (i:=b+3) (by omega)
  have v3:=B3.toNat_lt
  have u3:IntKind.u32.wrap (B3.toNat:Int)=B3.toNat:=by rw[IntKind.wrap_u32];omega
  have w3:IntKind.i64.wrap ((b:Int)+3)=(b:Int)+3:=Ag (by omega) (by omega)
  have p3:(0:Int)<=(b:Int)+3:=by omega
  have t3:((b:Int)+3).toNat=b+3:=by omega
  have s3:IntKind.u32.wrap ((B3.toNat:Int)*16777216)=B3.toNat*16777216:=by rw[IntKind.wrap_u32];omega
  have o:orW (orW (orW (B0.toNat:Int) (B1.toNat*256)) (B2.toNat*65536)) (B3.toNat*16777216)=wordAt s b:=by
   rw[Je B0 B1 B2 B3]
   unfold wordAt
   rw[<-e0,<-e1,<-e2,<-e3]
  clear e0 e1 e2 e3 v0 v1 v2 v3 hb ha hs
  repeat' (first|refine ZN ?_|refine Z2 ?_ ?_|(intro h h';try simp[*,-h] at h'))
  all_goals exact⟨_,by omega,1,rfl,by omega,by simp[*],by simp[*,w4],by simp[*],by simp[*],by simp[*],by simp[*],by simp[*]⟩
 ·simp only[w4] at hh5
  obtain⟨b,hb⟩: ∃b:Nat,b=at_+4:=⟨_,rfl⟩
  have wb:IntKind.i64.wrap ((at_:Int)+4)=b:=by rw[Ag (by omega) (by omega)];try omega
  have wz:at_+4=b:=by omega
  obtain⟨B0,h0,e0⟩:=Aq (s:=s) (i:=b) (by omega)
  have v0:=B0.toNat_lt
  have u0:IntKind.u32.wrap (B0.toNat:Int)=B0.toNat:=by rw[IntKind.wrap_u32];omega
  obtain⟨B1,h1,e1⟩:=Aq (s:=s) (i:=b+1) (by omega)
  have v1:=B1.toNat_lt
  have u1:IntKind.u32.wrap (B1.toNat:Int)=B1.toNat:=by rw[IntKind.wrap_u32];omega
  have w1:IntKind.i64.wrap ((b:Int)+1)=(b:Int)+1:=Ag (by omega) (by omega)
  have p1:(0:Int)<=(b:Int)+1:=by omega
  have t1:((b:Int)+1).toNat=b+1:=by omega
  have s1:IntKind.u32.wrap ((B1.toNat:Int)*256)=B1.toNat*256:=by rw[IntKind.wrap_u32];omega
  obtain⟨B2,h2,e2⟩:=Aq (s:=s) (i:=b+2) (by omega)
  have v2:=B2.toNat_lt
  have u2:IntKind.u32.wrap (B2.toNat:Int)=B2.toNat:=by rw[IntKind.wrap_u32];omega
  have w2:IntKind.i64.wrap ((b:Int)+2)=(b:Int)+2:=Ag (by omega) (by omega)
  have p2:(0:Int)<=(b:Int)+2:=by omega
  have t2:((b:Int)+2).toNat=b+2:=by omega
  have s2:IntKind.u32.wrap ((B2.toNat:Int)*65536)=B2.toNat*65536:=by rw[IntKind.wrap_u32];omega
  obtain⟨B3,h3,e3⟩:=Aq (s:=s) (i:=b+3) (by omega)
  have v3:=B3.toNat_lt
  have u3:IntKind.u32.wrap (B3.toNat:Int)=B3.toNat:=by rw[IntKind.wrap_u32];omega
  have w3:IntKind.i64.wrap ((b:Int)+3)=(b:Int)+3:=Ag (by omega) (by omega)
  have p3:(0:Int)<=(b:Int)+3:=by omega
  have t3:((b:Int)+3).toNat=b+3:=by omega
  have s3:IntKind.u32.wrap ((B3.toNat:Int)*16777216)=B3.toNat*16777216:=by rw[IntKind.wrap_u32];omega
  have o:orW (orW (orW (B0.toNat:Int) (B1.toNat*256)) (B2.toNat*65536)) (B3.toNat*16777216)=wordAt s b:=by
   rw[Je B0 B1 B2 B3]
   unfold wordAt
   rw[<-e0,<-e1,<-e2,<-e3]
  clear e0 e1 e2 e3 v0 v1 v2 v3 hb ha hs
  repeat' (first|refine ZN ?_|refine Z2 ?_ ?_|(intro h h';try simp[*,-h] at h'))
  all_goals exact⟨_,by omega,2,rfl,by omega,by simp[*],by simp[*,w4],by simp[*],by simp[*],by simp[*],by simp[*],by simp[*]⟩
 ·simp only[w4] at hh5
  obtain⟨b,hb⟩: ∃b:Nat,b=at_+8:=⟨_,rfl⟩
  have wb:IntKind.i64.wrap ((at_:Int)+8)=b:=by rw[Ag (by omega) (by omega)];try omega
  have wz:at_+8=b:=by omega
  obtain⟨B0,h0,e0⟩:=Aq (s:=s) (i:=b) (by omega)
  have v0:=B0.toNat_lt
  have u0:IntKind.u32.wrap (B0.toNat:Int)=B0.toNat:=by rw[IntKind.wrap_u32];omega
  obtain⟨B1,h1,e1⟩:=Aq (s:=s) (i:=b+1) (by omega)
  have v1:=B1.toNat_lt
  have u1:IntKind.u32.wrap (B1.toNat:Int)=B1.toNat:=by rw[IntKind.wrap_u32];omega
  have w1:IntKind.i64.wrap ((b:Int)+1)=(b:Int)+1:=Ag (by omega) (by omega)
  have p1:(0:Int)<=(b:Int)+1:=by omega
  have t1:((b:Int)+1).toNat=b+1:=by omega
  have s1:IntKind.u32.wrap ((B1.toNat:Int)*256)=B1.toNat*256:=by rw[IntKind.wrap_u32];omega
  obtain⟨B2,h2,e2⟩:=Aq (s:=s) (i:=b+2) (by omega)
  have v2:=B2.toNat_lt
  have u2:IntKind.u32.wrap (B2.toNat:Int)=B2.toNat:=by rw[IntKind.wrap_u32];omega
  have w2:IntKind.i64.wrap ((b:Int)+2)=(b:Int)+2:=Ag (by omega) (by omega)
  have p2:(0:Int)<=(b:Int)+2:=by omega
  have t2:((b:Int)+2).toNat=b+2:=by omega
  have s2:IntKind.u32.wrap ((B2.toNat:Int)*65536)=B2.toNat*65536:=by rw[IntKind.wrap_u32];omega
  obtain⟨B3,h3,e3⟩:=Aq (s:=s) (i:=b+3) (by omega)
  have v3:=B3.toNat_lt
  have u3:IntKind.u32.wrap (B3.toNat:Int)=B3.toNat:=by rw[IntKind.wrap_u32];omega
  have w3:IntKind.i64.wrap ((b:Int)+3)=(b:Int)+3:=Ag (by omega) (by omega)
  have p3:(0:Int)<=(b:Int)+3:=by omega
  have t3:((b:Int)+3).toNat=b+3:=by omega
  have s3:IntKind.u32.wrap ((B3.toNat:Int)*16777216)=B3.toNat*16777216:=by rw[IntKind.wrap_u32];omega
  have o:orW (orW (orW (B0.toNat:Int) (B1.toNat*256)) (B2.toNat*65536)) (B3.toNat*16777216)=wordAt s b:=by
   rw[Je B0 B1 B2 B3]
   unfold wordAt
   rw[<-e0,<-e1,<-e2,<-e3]
  clear e0 e1 e2 e3 v0 v1 v2 v3 hb ha hs
  repeat' (first|refine ZN ?_|refine Z2 ?_ ?_|(intro h h';try simp[*,-h] at h'))
  all_goals exact⟨_,by omega,3,rfl,by omega,by simp[*],by simp[*,w4],by simp[*],by simp[*],by simp[*],by simp[*],by simp[*]⟩
 ·simp only[w4] at hh5
  obtain⟨b,hb⟩: ∃b:Nat,b=at_+12:=⟨_,rfl⟩
  have wb:IntKind.i64.wrap ((at_:Int)+12)=b:=by rw[Ag (by omega) (by omega)];try omega
  have wz:at_+12=b:=by omega
  obtain⟨B0,h0,e0⟩:=Aq (s:=s) (i:=b) (by omega)
  have v0:=B0.toNat_lt
  have u0:IntKind.u32.wrap (B0.toNat:Int)=B0.toNat:=by rw[IntKind.wrap_u32];omega
  obtain⟨B1,h1,e1⟩:=Aq (s:=s) (i:=b+1) (by omega)
  have v1:=B1.toNat_lt
  have u1:IntKind.u32.wrap (B1.toNat:Int)=B1.toNat:=by rw[IntKind.wrap_u32];omega
  have w1:IntKind.i64.wrap ((b:Int)+1)=(b:Int)+1:=Ag (by omega) (by omega)
  have p1:(0:Int)<=(b:Int)+1:=by omega
  have t1:((b:Int)+1).toNat=b+1:=by omega
  have s1:IntKind.u32.wrap ((B1.toNat:Int)*256)=B1.toNat*256:=by rw[IntKind.wrap_u32];omega
  obtain⟨B2,h2,e2⟩:=Aq (s:=s) (i:=b+2) (by omega)
  have v2:=B2.toNat_lt
  have u2:IntKind.u32.wrap (B2.toNat:Int)=B2.toNat:=by rw[IntKind.wrap_u32];omega
  have w2:IntKind.i64.wrap ((b:Int)+2)=(b:Int)+2:=Ag (by omega) (by omega)
  have p2:(0:Int)<=(b:Int)+2:=by omega
  have t2:((b:Int)+2).toNat=b+2:=by omega
  have s2:IntKind.u32.wrap ((B2.toNat:Int)*65536)=B2.toNat*65536:=by rw[IntKind.wrap_u32];omega
  obtain⟨B3,h3,e3⟩:=Aq (s:=s) (i:=b+3) (by omega)
  have v3:=B3.toNat_lt
  have u3:IntKind.u32.wrap (B3.toNat:Int)=B3.toNat:=by rw[IntKind.wrap_u32];omega
  have w3:IntKind.i64.wrap ((b:Int)+3)=(b:Int)+3:=Ag (by omega) (by omega)
  have p3:(0:Int)<=(b:Int)+3:=by omega
  have t3:((b:Int)+3).toNat=b+3:=by omega
  have s3:IntKind.u32.wrap ((B3.toNat:Int)*16777216)=B3.toNat*16777216:=by rw[IntKind.wrap_u32];omega
  have o:orW (orW (orW (B0.toNat:Int) (B1.toNat*256)) (B2.toNat*65536)) (B3.toNat*16777216)=wordAt s b:=by
   rw[Je B0 B1 B2 B3]
   unfold wordAt
   rw[<-e0,<-e1,<-e2,<-e3]
  clear e0 e1 e2 e3 v0 v1 v2 v3 hb ha hs
  repeat' (first|refine ZN ?_|refine Z2 ?_ ?_|(intro h h';try simp[*,-h] at h'))
  all_goals exact⟨_,by omega,4,rfl,by omega,by simp[*],by simp[*,w4],by simp[*],by simp[*],by simp[*],by simp[*],by simp[*]⟩
 ·simp only[w4] at hh5
  unfold four
  simp only[D4.row]
  exact ZS
end Go.Proofs.YtpmoibjpjlhcgaaGreatDoor.Q
namespace Go.Proofs.YtpmoibjpjlhcgaaGreatDoor.Q
open Go Go.Ab
theorem A2a (l:List Int):(txtW l).size=4*l.length:=by
 show(toBytes (bys l)).toArray.size=_
 simp[toBytes,Ej]
def zP (n:Nat):Nat:=(23 - n%16)%16
theorem Yw (n:Nat):(n+1+zP n)%16=8:=by unfold zP;omega
theorem zP_lt {n i:Nat}(h:i<zP n):(n+1+i)%16≠8:=by unfold zP at h;omega
theorem Qm (n:Nat):zP n<16:=by unfold zP;omega
def padR (L:List UInt8):List UInt8:=L++128::List.replicate (zP L.length) 0
def padL (L:List UInt8):List UInt8:=padR L++toBytes (bys [(L.length:Int),0])
def padS (s:ByteArray):ByteArray:=⟨⟨padL s.data.toList⟩⟩
def spongeP (p:ByteArray):Nat->S8
 |0=>⟨1,0,0,0,0,0,0,0⟩
 |i+1=>takeP (spongeP p i) (four p (16*i))
def ofP (s:ByteArray):D4:=front (spongeP (padS s) ((padS s).size/16))
theorem Gna (L:List UInt8):(padR L).length=L.length+1+zP L.length:=by simp[padR];omega
theorem Goa (L:List UInt8):(padL L).length=L.length+1+zP L.length+8:=by
 unfold padL
 rw[List.length_append,Gna,Eb,Ej];rfl
theorem Bha (s:ByteArray):(padS s).size=s.size+1+zP s.size+8:=by
 rw[Ek,Ek s];exact Goa _
theorem Axa (A T:List UInt8)(i:Nat)(h:i+4<=A.length):wordL (A++T) i=wordL A i:=by
 have e: ∀j,j<A.length->(A++T).getD j 0=A.getD j 0:=fun j hj=>by
  simp[List.getD_eq_getElem?_getD,List.getElem?_append_left hj]
 unfold wordL
 rw[e _ (by omega),e _ (by omega),e _ (by omega),e _ (by omega)]
theorem Hpa (s:ByteArray)(i:Nat)(h:i+16<=s.size):four s i=four (padS s) i:=by
 rw[Ek] at h
 have e: ∀j,j+4<=s.data.toList.length->wordAt (padS s) j=wordAt s j:=fun j hj=>by
  rw[Er,Er]
  show wordL (padL _) j=_
  unfold padL padR
  rw[List.append_assoc,Axa _ _ _ hj]
 unfold four
 rw[e _ (by omega),e _ (by omega),e _ (by omega),e _ (by omega)]
theorem tail_eq (s:ByteArray)(w:Nat)(hw:w<=s.size):padL s.data.toList=s.data.toList.take w++((s.data.toList.drop w++128::List.replicate (zP s.size) 0)++toBytes (bys [(s.size:Int),0])):=by
 have e:s.data.toList=s.data.toList.take w++s.data.toList.drop w:=(List.take_append_drop w _).symm
 unfold padL padR
 rw[Ek]
 generalize (s.data.toList).length=n
 rw[<-List.append_assoc,<-List.append_assoc,<-e]
theorem Bxa (s:ByteArray)(w:Nat)(hw:w<=s.size)(t:ByteArray)(ht:t.data.toList=(s.data.toList.drop w++128::List.replicate (zP s.size) 0)++toBytes (bys [(s.size:Int),0]))(i:Nat):four t i=four (padS s) (w+i):=by
 have e: ∀j,wordAt (padS s) (w+j)=wordAt t j:=fun j=>by
  rw[Er,Er,ht]
  show wordL (padL _) (w+j)=_
  rw[tail_eq s w hw]
  have hl:(s.data.toList.take w).length=w:=by rw[List.length_take,<-Ek];omega
  have:=Gr (s.data.toList.take w) ((s.data.toList.drop w++128::List.replicate (zP s.size) 0)++toBytes (bys [(s.size:Int),0])) j
  rwa [hl] at this
 unfold four
 rw[<-e,<-e,<-e,<-e,Nat.add_assoc,Nat.add_assoc,Nat.add_assoc]
abbrev rowU (l:List UInt8):List (List AV):=l.map fun b=>[.sc (.int .u8 b.toNat)]
theorem M8 : ∀l:List UInt8,bytesOfRows (rowU l)=some l
 |[]=>rfl
 |x::l=>by
  have:=M8 l
  unfold rowU at this⊢
  simp only[List.map_cons,bytesOfRows,this,Option.map_some]
  simp
theorem Oa (l:List UInt8)(b:UInt8)(n:Int)(h:n=b.toNat):rowU l++[[.sc (.int .u8 n)]]=rowU (l++[b]):=by subst h;simp
theorem A3a (l:List Int):(txtW l).data.toList=toBytes (bys l):=rfl
end Go.Proofs.YtpmoibjpjlhcgaaGreatDoor.Q
namespace Go.Proofs.YtpmoibjpjlhcgaaGreatDoor.Q
open Go Go.Ab
attribute [-simp] Prog.bind getCs putCs
attribute [local simp ↓] run_bind
attribute [local simp ↓] Ax
attribute [local simp] Av As facetsC A5 A0 Bn facetsW facetsH
@[simp] theorem fdx32 (w:Int):w.fdiv (2^min 32 IntKind.u64.bits)=w/4294967296:=by rw[show(2:Int)^min 32 IntKind.u64.bits=4294967296 from by decide+kernel];exact Int.fdiv_eq_ediv_of_nonneg _ (by omega)
theorem d34 (s:ByteArray)(hs:s.size<=1000000):(lim Tryz.prog E47 X46).dat 12 [.sc (.string s)]=some [.agg (ofP s).row]:=by
 refine fnW Tryz.func12 rfl rfl Dta rfl rtys_12 rfl ?_
 obtain⟨w,hw⟩: ∃w,w=s.size/16*16:=⟨_,rfl⟩
 obtain⟨g,hg⟩: ∃g,g=s.size/16:=⟨_,rfl⟩
 have q1:IntKind.i64.wrap ((s.size:Int)/16)=(g:Int):=by rw[Ag (by omega) (by omega)];omega
 have q1':IntKind.i64.wrap ((s.size:Int).tdiv 16)=(g:Int):=by rw[Int.tdiv_eq_ediv_of_nonneg (by omega)];exact q1
 have q3:IntKind.i64.wrap ((s.size:Int)/16*16)=(w:Int):=by rw[Ag (by omega) (by omega)];omega
 have q2:IntKind.i64.wrap ((g:Int)*16)=(w:Int):=by rw[Ag (by omega) (by omega)];omega
 have hws:w<=s.size:=by omega
 have hgK:=Lib.hid hg
 have hwK:=Lib.hid hw
 clear hg hw q3 q1'
 repeat' (first|refine ZN ?_|refine Z2 ?_ ?_|(intro h h';try simp[*,-h] at h'))
 refine Ah (n:=g) (fun s0 m q=> ∃k a:Nat,m=g - k/\k<=g/\a=16*k/\q.fr 5=iv a/\q.hp ⟨0,3,0⟩= .box 1 (spongeP (padS s) k).row false/\q.fr 0=s0.fr 0/\q.fr 2=s0.fr 2/\q.fr 3=s0.fr 3/\q.fr 4=s0.fr 4/\q.hp ⟨0,2,0⟩=s0.hp ⟨0,2,0⟩/\(q.hp ⟨0,28,0⟩).gen=0) ⟨0,0,by simp,by omega,by simp,by simp,by simp[spongeP,S8.row],by simp,by simp,by simp,by simp,by simp,by simp⟩ ?_
 rintro m ⟨fr,hp⟩ ⟨k,a,rfl,hk,ha,hs5,hh3,hs0,hs2,hs3,hs4,hh2,hg28⟩
 simp at hs5 hs0 hs2 hs3 hs4 hh2 hg28
 simp only at hh3
 have hg:=hgK.out
 have hw:=hwK.out
 by_cases hlt:k<g
 ·have hlI:(a:Int)<w:=by omega
  have haw:IntKind.i64.wrap ((a:Int)+16)=((a+16:Nat):Int):=by rw[Ag (by omega) (by omega)];omega
  have h52:=d52 s a (by omega) (by omega)
  rw[Hpa s a (by omega)] at h52
  have h51:=d51 (spongeP (padS s) k) (four (padS s) a)
  obtain⟨z',hz'⟩: ∃z',z'=spongeP (padS s) (k+1):=⟨_,rfl⟩
  have hk1:takeP (spongeP (padS s) k) (four (padS s) a)=z':=by subst ha hz';rfl
  rw[hk1] at h51
  have ha1:a+16=16*(k+1):=by omega
  obtain⟨a',ha'⟩: ∃a',a'=a+16:=⟨_,rfl⟩
  rw[<-ha'] at haw ha1
  have hH:=Lib.hid ha1
  have hz2:=Lib.hid hz'
  clear hk1 ha ha1 ha' hz'
  generalize spongeP (padS s) k=z at*
  generalize four (padS s) a=y at*
  obtain⟨x0,x1,x2,x3,x4,x5,x6,x7⟩:=z
  obtain⟨z0,z1,z2,z3,z4,z5,z6,z7⟩:=z'
  obtain⟨y0,y1,y2,y3⟩:=y
  simp only[S8.row,D4.row] at h51 h52 hh3
  clear hw hg
  repeat' (first|refine ZN ?_|refine Z2 ?_ ?_|(intro h h';try simp[*,-h] at h'))
  all_goals exact⟨_,by omega,k+1,a',rfl,hlt,hH.out,by simp[*],by rw[<-hz2.out];simp[*,S8.row],by simp[*],by simp[*],by simp[*],by simp[*],by simp[*],by simp[*]⟩
 ·obtain rfl:k=g:=by omega
  obtain rfl:a=w:=by omega
  clear hlt ha hg hw
  have c1:IntKind.u64.wrap (s.size:Int)=s.size:=by rw[IntKind.wrap_u64];omega
  obtain⟨R0,hR0⟩: ∃R0,R0=s.data.toList.drop a:=⟨_,rfl⟩
  obtain⟨n0,hn0⟩: ∃n0,n0=s.size - a:=⟨_,rfl⟩
  have hRl:R0.length=n0:=by rw[hR0,List.length_drop,<-Ek,hn0]
  have x1:n0<=9223372036854775807:=by omega
  have x2:List.take n0 (List.drop a (List.map (fun b=>[AV.sc (Value.int IntKind.u8 b.toNat)]) s.data.toList))=rowU R0:=by
   rw[<-List.map_drop,<-hR0,<-List.map_take,List.take_of_length_le (by omega)]
  have x3:s.size - a=n0:=hn0.symm
  have x4:(n0+1)<=140737488355328:=by omega
  have x5:n0<=9223372036854775806:=by omega
  have x6:rowU R0++[[.sc (.int .u8 128)]]=rowU (R0++[128]):=Oa _ _ _ rfl
  have x7:(rowU R0).length=n0:=by rw[List.length_map];exact hRl
  have hn:=Lib.hid hn0
  have hR:=Lib.hid hR0
  have hRn:=Lib.hid hRl
  clear hn0 hR0 hRl
  obtain⟨RU,hRU⟩: ∃RU,RU=rowU R0:=⟨_,rfl⟩
  obtain⟨RV,hRV⟩: ∃RV,RV=rowU (R0++[128]):=⟨_,rfl⟩
  rw[<-hRU] at x2 x6 x7
  rw[<-hRV] at x6
  have hRVK:=Lib.hid hRV
  clear hRU hRV
  repeat' (first|refine ZN ?_|refine Z2 ?_ ?_|(intro h h';try simp[*,-h] at h'))
  refine Ah (n:=16) (fun s0 m q=> ∃i g:Nat,m=16 - i/\i<=zP s.size/\q.fr 6= .own ⟨0,28,0⟩ g (n0+1+i)/\q.hp ⟨0,28,0⟩= .arr g 1 5 (rowU (R0++128::List.replicate i 0)) false/\q.fr 0=s0.fr 0/\q.fr 2=s0.fr 2/\q.fr 3=s0.fr 3/\q.hp ⟨0,2,0⟩=s0.hp ⟨0,2,0⟩/\q.hp ⟨0,3,0⟩=s0.hp ⟨0,3,0⟩) ⟨0,2,by simp,by omega,by simp[hg28],by rw[show R0++128::List.replicate 0 0=R0++[128] from rfl,<-hRVK.out];simp[hg28],by simp,by simp,by simp,by simp,by simp⟩ ?_
  rintro m ⟨fr,hp⟩ ⟨i,g,rfl,hi,hs6,hh28,gs0,gs2,gs3,gh2,gh3⟩
  simp[hs0,hs2,hs3,hh2,hh3] at hs6 gs0 gs2 gs3 gh2 gh3
  simp only at hh28
  obtain⟨N,hN⟩: ∃N,N=n0+1+i:=⟨_,rfl⟩
  obtain⟨c,hc⟩: ∃c,c=N%16:=⟨_,rfl⟩
  have hcN:(N:Int)%16=c:=by omega
  have hcN':(N:Int).tmod 16=c:=by rw[Int.tmod_eq_emod_of_nonneg (by omega)];exact hcN
  have hz8:n0%16=s.size%16:=by have:=hn.out;have:=hwK.out;omega
  obtain⟨RR,hRR⟩: ∃RR,RR=R0++128::List.replicate i 0:=⟨_,rfl⟩
  have hRRl:(rowU RR).length=N:=by rw[List.length_map,hRR,List.length_append,hRn.out,hN];simp;omega
  rw[<-hRR] at hh28
  rw[<-hN] at hs6
  by_cases hlt:i<zP s.size
  ·have hc8: ¬c=8:=by
    have:=zP_lt hlt
    omega
   have hc8': ¬(c:Int)=8:=by omega
   have y1:N+1<=140737488355328:=by have:=Qm s.size;omega
   have y2:N<=9223372036854775806:=by omega
   have y3:rowU RR++[[.sc (.int .u8 0)]]=rowU (RR++[0]):=Oa _ _ _ rfl
   have y4:RR++[0]=R0++128::List.replicate (i+1) 0:=by rw[hRR,List.append_assoc,List.replicate_succ'];rfl
   rw[y4] at y3
   have hNK:=Lib.hid hN
   clear hN hc hRR y4
   obtain⟨RZ,hRZ⟩: ∃RZ,RZ=rowU (R0++128::List.replicate (i+1) 0):=⟨_,rfl⟩
   rw[<-hRZ] at y3
   have hRZK:=Lib.hid hRZ
   clear hRZ
   generalize rowU RR=RN at*
   repeat' (first|refine ZN ?_|refine Z2 ?_ ?_|(intro h h';try simp[*,-h] at h'))
   all_goals exact⟨_,by have:=Qm s.size;omega,i+1,g+1,rfl,hlt,by simp[*];(try (have:=hNK.out;omega)),by rw[<-hRZK.out];simp[*],by simp[*],by simp[*],by simp[*],by simp[*],by simp[*]⟩
  ·obtain rfl:i=zP s.size:=by omega
   have hc8:c=8:=by have:=Yw s.size;have:=Qm s.size;omega
   have c2:IntKind.u32.wrap (s.size:Int)=s.size:=by rw[IntKind.wrap_u32];omega
   have c3:(s.size:Int)/4294967296=0:=by omega
   have c4:IntKind.u32.wrap 0=0:=by decide+kernel
   have h26:=d26 [(s.size:Int),0] (by simp) (by simp[U];omega)
   obtain⟨X8,hX8⟩: ∃X8,X8=txtW [(s.size:Int),0]:=⟨_,rfl⟩
   have hXs:X8.size=8:=by rw[hX8,A2a];rfl
   rw[<-hX8] at h26
   have h26':(lim Tryz.prog E47 X46).dat 33 [.sl false 1 [[uv (s.size:Int)],[uv 0]]]=some [.sc (.string X8)]:=h26
   clear h26
   have hbr:=M8 RR
   have htk:(rowU RR).take N=rowU RR:=List.take_of_length_le (by omega)
   have hRRn:RR.length=N:=by rw[<-hRRl,List.length_map]
   obtain⟨T,hT⟩: ∃T,T=(⟨⟨RR⟩⟩:ByteArray)++X8:=⟨_,rfl⟩
   have hTs:T.size=N+8:=by rw[hT,ByteArray.size_append,hXs,<-hRRn];rfl
   have hTl:T.data.toList=RR++X8.data.toList:=by rw[hT,ByteArray.data_append,Array.toList_append]
   have hT':=hT.symm
   have hTN:N+8<=9223372036854775807:=by have:=Qm s.size;omega
   have hfour: ∀j,four T j=four (padS s) (a+j):=fun j=>by
    refine Bxa s a hws T ?_ j
    rw[hTl,hRR,hR.out,hX8,A3a]
   have hTs':=Lib.hid hTs
   have hfK:=Lib.hid hfour
   have hNK:=Lib.hid hN
   have hzz:=Yw s.size
   have hzl:=Qm s.size
   have hps:=Bha s
   have hzK:=Lib.hid (⟨hzz,hzl,hps⟩:_/\_/\_)
   clear hT hTl hRR hX8 hfour hN hc hz8 hlt hi hzz hzl hps hTs
   generalize rowU RR=RN at*
   have rp2: ∀x:List AV,List.replicate 2 x=[x,x]:=fun _=>rfl
   have z1:(⟨⟨RR⟩⟩:ByteArray).size<=9223372036854775799:=by show RR.length<=_;omega
   repeat' (first|refine ZN ?_|refine Z2 ?_ ?_|(intro h h';try simp[*,-h] at h'))
   obtain⟨nt,hnt⟩: ∃nt,nt=T.size/16:=⟨_,rfl⟩
   have hT16:T.size=16*nt:=by
    have:=hTs'.out;have:=hNK.out;have:=hzK.out.1;have:=hn.out;have:=hwK.out;omega
   have hP16:(padS s).size/16=k+nt:=by
    have:=hTs'.out;have:=hNK.out;have:=hzK.out.2.2;have:=hn.out;have:=hwK.out;have:=hgK.out;omega
   have hTb:T.size<=1048576:=by
    have:=hTs'.out;have:=hNK.out;have:=hzK.out.2.1;omega
   unfold ofP
   rw[hP16]
   have hP:=Lib.hid hP16
   have hT1:=Lib.hid hT16
   have hak:a=16*k:=by have:=hwK.out;have:=hgK.out;omega
   have hak':=Lib.hid hak
   clear hP16 hT16 hnt hak
   refine Ah (n:=nt) (fun s0 m q=> ∃j b:Nat,m=nt - j/\j<=nt/\b=16*j/\q.fr 9=iv b/\q.hp ⟨0,3,0⟩= .box 1 (spongeP (padS s) (k+j)).row false/\q.fr 8=s0.fr 8/\q.fr 2=s0.fr 2/\q.fr 3=s0.fr 3/\q.hp ⟨0,2,0⟩=s0.hp ⟨0,2,0⟩) ⟨0,0,by simp,by omega,by simp,by simp,by simp[*],by simp,by simp,by simp,by simp⟩ ?_
   rintro m ⟨fr,hp⟩ ⟨j,b,rfl,hj,hb,hs9,hh3,hs8,hs2,hs3,hh2⟩
   simp[gs2,gs3,gh2] at hs9 hs8 hs2 hs3 hh2
   simp only at hh3
   by_cases hlt:j<nt
   ·have hlI:(b:Int)<T.size:=by have:=hT1.out;omega
    have hbw:IntKind.i64.wrap ((b:Int)+16)=((b+16:Nat):Int):=by rw[Ag (by omega) (by omega)];omega
    have h52:=d52 T b (by omega) (by have:=hT1.out;omega)
    rw[hfK.out b] at h52
    have h51:=d51 (spongeP (padS s) (k+j)) (four (padS s) (a+b))
    obtain⟨z',hz'⟩: ∃z',z'=spongeP (padS s) (k+(j+1)):=⟨_,rfl⟩
    have hk1:takeP (spongeP (padS s) (k+j)) (four (padS s) (a+b))=z':=by
     have:=hak'.out
     rw[hz',show a+b=16*(k+j) by omega];rfl
    rw[hk1] at h51
    have hb1:b+16=16*(j+1):=by omega
    obtain⟨b',hb'⟩: ∃b',b'=b+16:=⟨_,rfl⟩
    rw[<-hb'] at hbw hb1
    have hH:=Lib.hid hb1
    have hz2:=Lib.hid hz'
    clear hk1 hb hb1 hb' hz'
    generalize spongeP (padS s) (k+j)=z at*
    generalize four (padS s) (a+b)=y at*
    obtain⟨x0,x1,x2,x3,x4,x5,x6,x7⟩:=z
    obtain⟨z0,z1,z2,z3,z4,z5,z6,z7⟩:=z'
    obtain⟨y0,y1,y2,y3⟩:=y
    simp only[S8.row,D4.row] at h51 h52 hh3
    repeat' (first|refine ZN ?_|refine Z2 ?_ ?_|(intro h h';try simp[*,-h] at h'))
    all_goals exact⟨_,by omega,j+1,b',rfl,hlt,hH.out,by simp[*],by rw[<-hz2.out];simp[*,S8.row],by simp[*],by simp[*],by simp[*],by simp[*]⟩
   ·obtain rfl:j=nt:=by omega
    have hbT:T.size=b:=by have:=hT1.out;omega
    have h50:=d50 (spongeP (padS s) (k+j))
    generalize spongeP (padS s) (k+j)=z at*
    generalize front z=y at*
    obtain⟨x0,x1,x2,x3,x4,x5,x6,x7⟩:=z
    obtain⟨y0,y1,y2,y3⟩:=y
    simp only[S8.row,D4.row] at h50 hh3
    simp only[D4.row]
    clear hb hlt
    exact ZS
end Go.Proofs.YtpmoibjpjlhcgaaGreatDoor.Q
namespace Go.Proofs.YtpmoibjpjlhcgaaGreatDoor.Q
open Go Go.Ab
attribute [-simp] Prog.bind getCs putCs
attribute [local simp ↓] run_bind
attribute [local simp ↓] Ax
attribute [local simp] Av As facetsC A5 A0 Bn facetsW facetsH
@[simp] theorem wrap_m1 :IntKind.i64.wrap (-1)= -1:=by decide+kernel
end Go.Proofs.YtpmoibjpjlhcgaaGreatDoor.Q
namespace Go.Ab
open Go
theorem Qx {P:Program}{w:World}{t:TypeId}{us:List Value}{off:Nat}{v:Value}(ha:isAggB P t=false)(ho:tOk P t=true)(hv:us[off]?=some v):(part t ⟨us⟩ off).run P w= .ok v w:=by
 unfold tOk at ho
 simp only[Bool.and_eq_true] at ho
 obtain⟨_,hu⟩:=ho
 obtain⟨d,hd⟩:=Option.isSome_iff_exists.1 hu
 have hg:(isAgg t).run P w= .ok false w:=by
  unfold isAggB at ha
  rw[hd] at ha
  unfold isAgg
  rw[Sem.run_bind,run_underlying hd]
  cases d<;>simp at ha<;>rfl
 simp[part,Sem.run_bind,hg,Result.andThen,hv]
theorem cell_eq {P:Program}{w:World}{t:TypeId}{d:Nat}{u v:Value}{r:Bool}(h1:D7 P t (.sc u)=true)(h2:D7 P t (.sc v)=true)(h:eqV (.sc u) (.sc v)=some r):(Op.equalIn (d+1) t u v).run P w= .ok r w:=by
 unfold eqV at h
 split at h
 ·rename_i k a k' a' e1 e2
  cases e1;cases e2
  split at h
  ·rename_i hk
   subst hk
   cases h
   simp only[D7] at h1
   obtain⟨q,hq⟩:=Option.isSome_iff_exists.1 h1
   unfold intK at hq
   split at hq
   ·rename_i hu;exact run_equalIn_int w d t k _ a a' hu
   ·cases hq
  ·cases h
 ·rename_i a a' e1 e2
  cases e1;cases e2
  cases h
  simp only[D7,strB] at h1
  split at h1
  ·rename_i hu
   rw[run_equalIn_string w d t a a' hu,ByteArray.toList_eq,ByteArray.toList_eq]
   congr 1
   rw[Bool.eq_iff_iff]
   simp only[beq_iff_eq,decide_eq_true_eq]
   constructor
   ·intro e;exact ByteArray.ext (Array.ext' e)
   ·intro e;rw[e]
  ·cases h1
 ·rename_i a a' e1 e2
  cases e1;cases e2
  cases h
  simp only[D7,bolB] at h1
  split at h1
  ·rename_i hu;exact run_equalIn_bool' w d t a a' hu
  ·cases h1
 ·cases h
theorem R7 {us:List Value}{k:Nat}{x:Value}{xs:List Value}(h:us.drop k=x::xs):us[k]?=some x/\us.drop (k+1)=xs:=by
 refine⟨by have:=List.getElem?_drop (xs:=us) (i:=k) (j:=0);rw[h] at this;simpa using this.symm,by rw[<-List.drop_drop,h];rfl⟩
theorem Rs {P:Program}{w:World}{d:Nat}{e:TypeId}(ha:isAggB P e=false)(ht:tOk P e=true)(us vs:List Value): ∀(m k:Nat) (b:Bool),fitsL P (List.replicate m e) ((us.drop k).map .sc)=true->fitsL P (List.replicate m e) ((vs.drop k).map .sc)=true->
  eqL ((us.drop k).map .sc) ((vs.drop k).map .sc)=some b->(Op.eqItems (d+1) e 1 ⟨us⟩ ⟨vs⟩ (List.range' k m)).run P w= .ok b w
 |0,k,b,h1,h2,h=>by
  cases hu:us.drop k with
  |cons x xs=>rw[hu] at h1;simp[fitsL] at h1
  |nil=>
   cases hv:vs.drop k with
   |cons x xs=>rw[hv] at h2;simp[fitsL] at h2
   |nil=>
    rw[hu,hv] at h
    simp only[List.map_nil,eqL,Option.some.injEq] at h
    subst h
    simp[Op.eqItems]
 |m+1,k,b,h1,h2,h=>by
  cases hu:us.drop k with
  |nil=>rw[hu] at h1;simp[fitsL,List.replicate_succ] at h1
  |cons x xs=>
   cases hv:vs.drop k with
   |nil=>rw[hv] at h2;simp[fitsL,List.replicate_succ] at h2
   |cons y ys=>
    obtain⟨hx,hxs⟩:=R7 hu
    obtain⟨hy,hys⟩:=R7 hv
    rw[hu] at h1 h
    rw[hv] at h2 h
    simp only[List.map_cons,List.replicate_succ,fitsL,Bool.and_eq_true] at h1 h2
    simp only[List.map_cons,eqL] at h
    split at h
    ·rename_i p q hp hq
     cases h
     have hc:=cell_eq (w:=w) (d:=d) h1.1 h2.1 hp
     have ih:=Rs (w:=w) (d:=d) ha ht us vs m (k+1) q (by rw[hxs];exact h1.2) (by rw[hys];exact h2.2) (by rw[hxs,hys];exact hq)
     rw[List.range'_succ]
     unfold Op.eqItems
     simp only[Nat.mul_one,Sem.run_bind,Qx ha ht hx,Qx ha ht hy,Result.andThen_ok,hc]
     cases p with
     |true=>simpa using ih
     |false=>simp
    ·cases h
def arrPl (P:Program)(t:TypeId):Bool:=match P.underlying t with
 |some (.array n e)=> !isAggB P e&&tOk P e&&P.cellsOf e==1&&P.cellsOf t==n&&(P.info? e).isSome&&(P.info? t).isSome
 |_=>false
def typesOf (P:Program)(t:TypeId):List TypeId:=match P.underlying t with
 |some (.array n e)=>List.replicate n e
 |_=>[t]
theorem arr_eq {P:Program}{w:World}{d:Nat}{t:TypeId}(h:arrPl P t=true)(us vs:List Value)(b:Bool)(h1:fitsL P (typesOf P t) (us.map .sc)=true)(h2:fitsL P (typesOf P t) (vs.map .sc)=true)(h3:eqL (us.map .sc) (vs.map .sc)=some b):
  (Op.equalIn (d+2) t (.agg ⟨us⟩) (.agg ⟨vs⟩)).run P w= .ok b w:=by
 unfold arrPl at h
 split at h
 ·rename_i n e hu
  simp only[Bool.and_eq_true,Bool.not_eq_true',beq_iff_eq] at h
  obtain⟨⟨⟨⟨⟨ha,ht⟩,hs⟩,hn⟩,hi⟩,_⟩:=h
  obtain⟨i,hi⟩:=Option.isSome_iff_exists.1 hi
  unfold typesOf at h1 h2
  rw[hu] at h1 h2
  rw[run_equalIn_array w (d+1) ⟨us⟩ ⟨vs⟩ hu hi,hs,List.range_eq_range']
  exact Rs ha ht us vs n 0 b h1 h2 h3
 ·cases h
theorem Dwa {P:Program}{t:TypeId}(ht:arrPl P t=true)(hg:P.eqGuardType P.depth t=false)(htc:tcs P t=typesOf P t)
  (w:World) (x y:Operand) (us vs:List Value) (b:Bool) (h1:fitsL P (tcs P t) (us.map .sc)=true) (h2:fitsL P (tcs P t) (vs.map .sc)=true) (h:eqL (us.map .sc) (vs.map .sc)=some b):
  (do eqGuard .eql t x y (.agg ⟨us⟩) (.agg ⟨vs⟩);binOp .eql t (.agg ⟨us⟩) (.agg ⟨vs⟩):Sem Value).run P w= .ok (.bool b) w/\
  (do eqGuard .neq t x y (.agg ⟨us⟩) (.agg ⟨vs⟩);binOp .neq t (.agg ⟨us⟩) (.agg ⟨vs⟩):Sem Value).run P w= .ok (.bool (!b)) w:=by
 rw[htc] at h1 h2
 have hq:(Op.equalIn 10000 t (.agg ⟨us⟩) (.agg ⟨vs⟩)).run P w= .ok b w:=arr_eq (d:=9998) ht us vs b h1 h2 h
 constructor
 ·simp only[Sem.run_bind,run_eqGuard_agg w .eql t x y ⟨us⟩ ⟨vs⟩ hg,Result.andThen_ok,run_eql_struct,hq]
 ·simp only[Sem.run_bind,run_eqGuard_agg w .neq t x y ⟨us⟩ ⟨vs⟩ hg,Result.andThen_ok,run_neq_struct,hq]
end Go.Ab
