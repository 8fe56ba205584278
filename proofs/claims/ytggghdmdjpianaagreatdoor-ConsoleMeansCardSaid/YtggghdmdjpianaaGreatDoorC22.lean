/- A part of the proof: Kb, Kc, Kd, Ke, Kf, Kg, Kh, Ki, Kj, Kk. -/
import Derived.Test.YtggghdmdjpianaaGreatDoorC21
set_option linter.unusedSimpArgs false
set_option linter.unusedVariables false
set_option maxRecDepth 200000
set_option maxHeartbeats 8000000
namespace Go.Proofs.YtggghdmdjpianaaGreatDoor
section
open Go Go.Ab Go.Ab.Sy
def aE (l:List ByteArray):List (List AV):=l.map fun t=>[tv t]
@[simp] theorem tvs_length (l:List ByteArray):(aE l).length=l.length:=by simp[aE]
def I7 (ns vs:List ByteArray):List AV:=[.sl false 1 (aE ns),.sl false 1 (aE vs),.sl false 1 [],.sl false 6 [],.sl false 4 [],iv 0,.sl false 7 []]
theorem Kv (k:Int)(hk:k=78\/k=77\/k=73)(n:ByteArray)(hn:LC.dat 116 [tv n]=some [bv true]):LC.dat 54 [.sc (.int .u8 k),tv n]=some [bv true]:=by
 refine fW Tryz.func54 (Ah Zd) ?_;rcases hk with rfl|rfl|rfl
 all_goals exact ZS
theorem H5a (n:ByteArray):LC.dat 54 [.sc (.int .u8 84),tv n]=some [bv true]:=by
 refine fW Tryz.func54 (Ah Zd) ?_;exact ZS
theorem H6a (n:ByteArray)(v:Int)(hn:LC.dat 117 [tv n]=some [uv v,iv 0]):LC.dat 54 [.sc (.int .u8 70),tv n]=some [bv true]:=by
 refine fW Tryz.func54 (Ah Zd) ?_;exact ZS
theorem Oq (k:Int)(hk:k=78\/k=84\/k=70)(n:ByteArray):LC.dat 55 [.sc (.int .u8 k),tv n]=some [.vec 1 []]:=by
 refine fW Tryz.func55 (Ah Zd) ?_;rcases hk with rfl|rfl|rfl
 all_goals exact ZS
theorem Oo (k:Int)(hk:k=77\/k=73)(n:ByteArray):LC.dat 55 [.sc (.int .u8 k),tv n]=some [.vec 1 [[tv n]]]:=by
 refine fW Tryz.func55 (Ah Zd) ?_;rcases hk with rfl|rfl
 all_goals exact ZS
theorem M6 (k:Int)(hk:k=78\/k=84\/k=77\/k=73)(n:ByteArray)(hn:n.size<9223372036854775807):LC.dat 57 [.sc (.int .u8 k),tv n]=some [bv false]:=by
 refine fW Tryz.func57 (Ah Zd) ?_;obtain⟨_,hp,v,e,rfl⟩:=JO n hn;rcases hk with rfl|rfl|rfl|rfl
 all_goals exact ZS
theorem MG (n:ByteArray)(v:Int)(hv:v<=100000000)(hn:LC.dat 117 [tv n]=some [uv v,iv 0]):LC.dat 57 [.sc (.int .u8 70),tv n]=some [bv false]:=by
 refine fW Tryz.func57 (Ah Zd) ?_;have tO: ¬100000000<v:=Zo;exact ZS
theorem LN (ns:List ByteArray)(x:ByteArray)(i:Nat)(hl:ns.length<=1000)(hi:ns[i]?=some x)(Ii: ∀j,j<i->ns[j]?≠some x):LC.dat 119 [.sl false 1 (aE ns),tv x]=some [iv i]:=by
 refine fW Tryz.func119 (Ah Zd) ?_;have hil:=(Oh.1 hi).1
 repeat' first|refine ZN ?_|refine Z2 ?_ ?_|intro h h';try simp[*,-h] at h'
 refine Ac (n:=ns.length) (fun s0 m z=> ∃j:Nat,ns.length - j<=m/\j<=ns.length/\j<=i/\z.fr 0= .sl false 1 (aE ns)/\z.fr 1=tv x/\z.fr 7=iv ns.length/\z.fr 8=iv j) ⟨0,Zo,Zo,Zo,Zi,Zi,Zi,Zi⟩ ?_;rintro m ⟨fr,hp⟩ ⟨j,hm,hj,CV,f0,f1,f7,f8⟩;simp at f0 f1 f7 f8;have mM:j<ns.length:=Zo;by_cases hx:ns[j]?=some x
 ·have xG:j=i:=Ac9 CV (GN fun h=>Ii j h hx)
  subst xG;have e1:(j:Int)<ns.length:=Zo;have FO:IntKind.i64.wrap ((j:Int)+1)=(j:Int)+1:=Iw Zo;obtain⟨y,hg⟩: ∃r,ns[j]?=some r:=⟨_,Bs mM⟩;have rV:(aE ns)[j]?=some [tv y]:=by simp[aE,hg]
  have xH: ∀h:j<(aE ns).length,(aE ns)[j]'h=[tv y]:=fun h=>nN ((Bs h).symm.trans rV)
  have oJ:j<(aE ns).length:=by simpa using mM
  have hyx:y=x:=nN (hg.symm.trans hi);subst hyx;clear hi hx Ii;exact ZS
 ·have Ir:j≠i:=fun h=>hx (h▸hi)
  have e1:(j:Int)<ns.length:=Zo;have FO:IntKind.i64.wrap ((j:Int)+1)=(j:Int)+1:=Iw Zo;obtain⟨y,hg⟩: ∃r,ns[j]?=some r:=⟨_,Bs mM⟩;have rV:(aE ns)[j]?=some [tv y]:=by simp[aE,hg]
  have xH: ∀h:j<(aE ns).length,(aE ns)[j]'h=[tv y]:=fun h=>nN ((Bs h).symm.trans rV)
  have oJ:j<(aE ns).length:=by simpa using mM
  have hyx: ¬x=y:=fun h=>hx (h▸hg)
  clear hx Ii hi
  repeat' first|refine ZN ?_|refine Z2 ?_ ?_|intro h h';try simp[*,-h] at h'
  all_goals exact⟨ns.length - (j+1),Zo,j+1,Zo,Zo,Zo,Zm,Zm,Zm,Zm⟩
theorem Caa (ns:List ByteArray)(x:ByteArray)(hl:ns.length<=1000)(hn: ∀j:Nat,ns[j]?≠some x):LC.dat 119 [.sl false 1 (aE ns),tv x]=some [iv (-1)]:=by
 refine fW Tryz.func119 (Ah Zd) ?_
 repeat' first|refine ZN ?_|refine Z2 ?_ ?_|intro h h';try simp[*,-h] at h'
 refine Ac (n:=ns.length) (fun s0 m z=> ∃j:Nat,ns.length - j<=m/\j<=ns.length/\z.fr 0= .sl false 1 (aE ns)/\z.fr 1=tv x/\z.fr 7=iv ns.length/\z.fr 8=iv j) ⟨0,Zo,Zo,Zi,Zi,Zi,Zi⟩ ?_;rintro m ⟨fr,hp⟩ ⟨j,hm,hj,f0,f1,f7,f8⟩;simp at f0 f1 f7 f8;by_cases mM:j<ns.length
 ·skip
  have e1:(j:Int)<ns.length:=Zo;have FO:IntKind.i64.wrap ((j:Int)+1)=(j:Int)+1:=Iw Zo;obtain⟨y,hg⟩: ∃r,ns[j]?=some r:=⟨_,Bs mM⟩;have rV:(aE ns)[j]?=some [tv y]:=by simp[aE,hg]
  have xH: ∀h:j<(aE ns).length,(aE ns)[j]'h=[tv y]:=fun h=>nN ((Bs h).symm.trans rV)
  have oJ:j<(aE ns).length:=by simpa using mM
  have hyx: ¬x=y:=fun h=>hn j (h▸hg)
  clear hn
  repeat' first|refine ZN ?_|refine Z2 ?_ ?_|intro h h';try simp[*,-h] at h'
  all_goals exact⟨ns.length - (j+1),Zo,j+1,Zo,Zo,Zm,Zm,Zm,Zm⟩
 ·have e1: ¬(j:Int)<ns.length:=Zo
  exact ZS
theorem C2a (ns vs:List ByteArray)(x v:ByteArray)(i:Nat)(hl:ns.length<=1000)(hi:ns[i]?=some x)(Ii: ∀j,j<i->ns[j]?≠some x)(hv:vs[i]?=some v):LC.dat 56 [.agg (I7 ns vs),tv x]=some [tv v,bv true]:=by
 refine fW Tryz.func56 (Ah Zd) ?_;have hx:=LN ns x i hl hi Ii;have hvr:(aE vs)[i]?=some [tv v]:=by simp[aE,hv]
 have hvl:i<(aE vs).length:=(Oh.1 hvr).1;have hvr2: ∀h:i<(aE vs).length,(aE vs)[i]'h=[tv v]:=fun h=>nN ((Bs h).symm.trans hvr)
 have hvl2:i<vs.length:=by simpa using hvl
 have e1: ¬(i:Int)<0:=Zo;unfold I7;generalize aE ns=nr at*;clear hi Ii hv;exact ZS
theorem C3a (ns vs:List ByteArray)(x:ByteArray)(hl:ns.length<=1000)(hn: ∀j:Nat,ns[j]?≠some x):LC.dat 56 [.agg (I7 ns vs),tv x]=some [tv ⟨#[]⟩,bv false]:=by
 refine fW Tryz.func56 (Ah Zd) ?_;have hx:=Caa ns x hl hn;unfold I7;generalize aE ns=nr at*;clear hn;exact ZS
structure OkW (D:List AV)(b:UInt8)(w:ByteArray):Prop where
 kind:LC.dat 54 [.sc (.int .u8 b.toNat),tv w]=some [bv true]
 need: ∃l:List ByteArray,l.length<=1000/\LC.dat 55 [.sc (.int .u8 b.toNat),tv w]=some [.vec 1 (aE l)]/\ ∀x∈l,∃v,LC.dat 56 [.agg D,tv x]=some [tv v,bv true]
 great:LC.dat 57 [.sc (.int .u8 b.toNat),tv w]=some [bv false]
theorem Hl (ns vs ws:List ByteArray)(ks:ByteArray)(hl:ws.length<=1000)(hk:ks.size=ws.length)(h: ∀(i:Nat) (b:UInt8) (w:ByteArray),ks.data[i]?=some b->ws[i]?=some w->OkW (I7 ns vs) b w):LC.dat 18 [.agg (I7 ns vs),tv ks,.sl false 1 (aE ws)]=some [iv 0]:=by
 refine fW Tryz.func18 (Ah Zd) ?_;have zO:(ks.size:Int)=ws.length:=Zo;have HB:=Lib.hid h;have hwl:(aE ws).length=ws.length:=Zi;clear h;unfold I7 at HB⊢
 repeat' first|refine ZN ?_|refine Z2 ?_ ?_|intro h h';try simp[*,-h] at h'
 refine Ac (n:=ws.length) (fun s0 m z=> ∃j:Nat,ws.length - j<=m/\j<=ws.length/\z.fr 1=tv ks/\z.fr 2= .sl false 1 (aE ws)/\z.fr 3= .ptr ⟨0,3,0⟩ 1 0/\z.hp ⟨0,3,0⟩= .box 1 [.sl false 1 (aE ns),.sl false 1 (aE vs),.sl false 1 [],.sl false 6 [],.sl false 4 [],iv 0,.sl false 7 []] false/\z.fr 22= .sl false 1 (aE ws)/\z.fr 23=iv ws.length/\z.fr 24=iv j) ⟨0,Zo,Zo,Zm,Zm,Zm,Zm,Zm,Zm,Zm⟩ ?_;rintro m ⟨fr,hp⟩ ⟨j,hm,hj,f1,f2,f3,b3,fl,fn,fj⟩;simp at f1 f2 f3 b3 fl fn fj;by_cases mM:j<ws.length
 ·have e1:(j:Int)<ws.length:=Zo
  have e2:j<ks.size:=Zo;have e3:j<ks.data.size:=e2;have FO:IntKind.i64.wrap ((j:Int)+1)=(j:Int)+1:=Iw Zo;obtain⟨w,hg⟩: ∃r,ws[j]?=some r:=⟨_,Bs mM⟩;obtain⟨b,hb⟩: ∃r,ks.data[j]?=some r:=⟨_,FK e3⟩;obtain⟨h1,⟨l,wH,h2,hV⟩,h3⟩:=HB.out j b w hb hg;have rV:(aE ws)[j]?=some [tv w]:=by simp[aE,hg]
  have xH: ∀h:j<(aE ws).length,(aE ws)[j]'h=[tv w]:=fun h=>nN ((Bs h).symm.trans rV)
  have oJ:j<(aE ws).length:=by simpa using mM
  have Ul: ∀h:j<ks.data.size,ks.data[j]'h=b:=fun h=>nN ((FK h).symm.trans hb)
  clear e3
  repeat' first|refine ZN ?_|refine Z2 ?_ ?_|intro h h';try simp[*,-h] at h'
  all_goals exact⟨ws.length - (j+1),Zo,j+1,Zo,Zo,Zm,Zm,Zm,Zm,Zm,Zm,Zm⟩
 have e1: ¬(j:Int)<ws.length:=Zo;clear hj hm mM
 repeat' first|refine ZN ?_|refine Z2 ?_ ?_|intro h h';try simp[*,-h] at h'
 refine Ac (n:=ws.length) (fun s0 m z=> ∃j:Nat,ws.length - j<=m/\j<=ws.length/\z.fr 1=tv ks/\z.fr 2= .sl false 1 (aE ws)/\z.fr 3= .ptr ⟨0,3,0⟩ 1 0/\z.hp ⟨0,3,0⟩= .box 1 [.sl false 1 (aE ns),.sl false 1 (aE vs),.sl false 1 [],.sl false 6 [],.sl false 4 [],iv 0,.sl false 7 []] false/\z.fr 36= .sl false 1 (aE ws)/\z.fr 37=iv ws.length/\z.fr 38=iv j) ⟨0,Zo,Zo,Zm,Zm,Zm,Zm,Zm,Zm,Zm⟩ ?_;clear fj fn fl;rintro m ⟨fr,hp⟩ ⟨j,hm,hj,f1,f2,f3,b3,fl,fn,fj⟩;simp at f1 f2 f3 b3 fl fn fj;by_cases mM:j<ws.length
 ·have e1:(j:Int)<ws.length:=Zo
  have e2:j<ks.size:=Zo;have e3:j<ks.data.size:=e2;have FO:IntKind.i64.wrap ((j:Int)+1)=(j:Int)+1:=Iw Zo;obtain⟨w,hg⟩: ∃r,ws[j]?=some r:=⟨_,Bs mM⟩;obtain⟨b,hb⟩: ∃r,ks.data[j]?=some r:=⟨_,FK e3⟩;obtain⟨h1,⟨l,wH,h2,hV⟩,h3⟩:=HB.out j b w hb hg;have rV:(aE ws)[j]?=some [tv w]:=by simp[aE,hg]
  have xH: ∀h:j<(aE ws).length,(aE ws)[j]'h=[tv w]:=fun h=>nN ((Bs h).symm.trans rV)
  have oJ:j<(aE ws).length:=by simpa using mM
  have Ul: ∀h:j<ks.data.size,ks.data[j]'h=b:=fun h=>nN ((FK h).symm.trans hb)
  clear e3;have HV:=Lib.hid hV;obtain⟨g47,hg47⟩: ∃g,(hp ⟨0,47,0⟩).gen+1=g:=⟨_,rfl⟩;clear hV
  repeat' first|refine ZN ?_|refine Z2 ?_ ?_|intro h h';try simp[*,-h] at h'
  all_goals refine Ac (n:=l.length) (fun s0 m z=> ∃i:Nat,l.length - i<=m/\i<=l.length/\z.fr 1=tv ks/\z.fr 2= .sl false 1 (aE ws)/\z.fr 3= .ptr ⟨0,3,0⟩ 1 0/\z.hp ⟨0,3,0⟩= .box 1 [.sl false 1 (aE ns),.sl false 1 (aE vs),.sl false 1 [],.sl false 6 [],.sl false 4 [],iv 0,.sl false 7 []] false/\z.fr 36= .sl false 1 (aE ws)/\z.fr 37=iv ws.length/\z.fr 38=iv j/\z.fr 47= .own ⟨0,47,0⟩ g47 l.length/\z.hp ⟨0,47,0⟩= .arr g47 1 9 (aE l) false/\z.fr 48=iv l.length/\z.fr 49=iv i) ⟨0,Zo,Zo,Zm,Zm,Zm,Zm,Zm,Zm,Zm,Zm,Zm,Zm,Zm⟩ ?_
  rintro m2 ⟨fr2,If⟩ ⟨i,sS,hi,q1,q2,q3,q4,q5,q6,q7,q8,q9,q10,q11⟩;simp at q1 q2 q3 q4 q5 q6 q7 q8 q9 q10 q11;by_cases hil:i<l.length
  ·have d1:(i:Int)<l.length:=Zo
   have oF:IntKind.i64.wrap ((i:Int)+1)=(i:Int)+1:=Iw Zo;obtain⟨x,hx⟩: ∃r,l[i]?=some r:=⟨_,Bs hil⟩;obtain⟨v,hv⟩:=HV.out x (sM hx);have sY:(aE l)[i]?=some [tv x]:=by simp[aE,hx]
   have hxr2: ∀h:i<(aE l).length,(aE l)[i]'h=[tv x]:=fun h=>nN ((Bs h).symm.trans sY)
   have hxl:i<(aE l).length:=by simpa using hil
   clear hx
   repeat' first|refine ZN ?_|refine Z2 ?_ ?_|intro h h';try simp[*,-h] at h'
   all_goals exact⟨l.length - (i+1),Zo,i+1,Zo,Zo,Zm,Zm,Zm,Zm,Zm,Zm,Zm,Zm,Zm,Zm,Zm⟩
  ·have d1: ¬(i:Int)<l.length:=Zo
   repeat' first|refine ZN ?_|refine Z2 ?_ ?_|intro h h';try simp[*,-h] at h'
   all_goals exact⟨ws.length - (j+1),Zo,j+1,Zo,Zo,Zm,Zm,Zm,Zm,Zm,Zm,Zm⟩
 have e1: ¬(j:Int)<ws.length:=Zo;clear hj hm mM
 repeat' first|refine ZN ?_|refine Z2 ?_ ?_|intro h h';try simp[*,-h] at h'
 refine Ac (n:=ws.length) (fun s0 m z=> ∃j:Nat,ws.length - j<=m/\j<=ws.length/\z.fr 1=tv ks/\z.fr 2= .sl false 1 (aE ws)/\z.fr 3= .ptr ⟨0,3,0⟩ 1 0/\z.hp ⟨0,3,0⟩= .box 1 [.sl false 1 (aE ns),.sl false 1 (aE vs),.sl false 1 [],.sl false 6 [],.sl false 4 [],iv 0,.sl false 7 []] false/\z.fr 63= .sl false 1 (aE ws)/\z.fr 64=iv ws.length/\z.fr 65=iv j) ⟨0,Zo,Zo,Zm,Zm,Zm,Zm,Zm,Zm,Zm⟩ ?_;clear fj fn fl;rintro m ⟨fr,hp⟩ ⟨j,hm,hj,f1,f2,f3,b3,fl,fn,fj⟩;simp at f1 f2 f3 b3 fl fn fj;by_cases mM:j<ws.length
 ·have e1:(j:Int)<ws.length:=Zo
  have e2:j<ks.size:=Zo;have e3:j<ks.data.size:=e2;have FO:IntKind.i64.wrap ((j:Int)+1)=(j:Int)+1:=Iw Zo;obtain⟨w,hg⟩: ∃r,ws[j]?=some r:=⟨_,Bs mM⟩;obtain⟨b,hb⟩: ∃r,ks.data[j]?=some r:=⟨_,FK e3⟩;obtain⟨h1,⟨l,wH,h2,hV⟩,h3⟩:=HB.out j b w hb hg;have rV:(aE ws)[j]?=some [tv w]:=by simp[aE,hg]
  have xH: ∀h:j<(aE ws).length,(aE ws)[j]'h=[tv w]:=fun h=>nN ((Bs h).symm.trans rV)
  have oJ:j<(aE ws).length:=by simpa using mM
  have Ul: ∀h:j<ks.data.size,ks.data[j]'h=b:=fun h=>nN ((FK h).symm.trans hb)
  clear e3
  repeat' first|refine ZN ?_|refine Z2 ?_ ?_|intro h h';try simp[*,-h] at h'
  all_goals exact⟨ws.length - (j+1),Zo,j+1,Zo,Zo,Zm,Zm,Zm,Zm,Zm,Zm,Zm⟩
 have e1: ¬(j:Int)<ws.length:=Zo;exact ZS
theorem Kma (ns vs:List ByteArray)(w:ByteArray)(hl:ns.length<=1000)(hw:LC.dat 116 [tv w]=some [bv true])(hn: ∀j:Nat,ns[j]?≠some w):LC.dat 18 [.agg (I7 ns vs),tv ⟨#[77]⟩,.sl false 1 [[tv w]]]=some [iv 4]:=by
 refine fW Tryz.func18 (Ah Zd) ?_;have h1:=Kv 77 Zd w hw;have h2:=Oo 77 Zd w;have h4:=C3a ns vs w hl hn;have hz:(⟨#[77]⟩:ByteArray).size=1:=rfl;have hb:(⟨#[77]⟩:ByteArray).data[0]?=some 77:=rfl;have hw2:IntKind.i64.wrap ((0:Int)+1)=1:=Zd;clear hn;unfold I7 at h4⊢
 repeat' first|refine ZN ?_|refine Z2 ?_ ?_|intro h h';try simp[*,-h] at h'
 refine Ac (n:=1) (fun s0 m z=> ∃j:Nat,1 - j<=m/\j<=1/\z.fr 1=tv ⟨#[77]⟩/\z.fr 2= .sl false 1 [[tv w]]/\z.fr 3= .ptr ⟨0,3,0⟩ 1 0/\z.hp ⟨0,3,0⟩= .box 1 [.sl false 1 (aE ns),.sl false 1 (aE vs),.sl false 1 [],.sl false 6 [],.sl false 4 [],iv 0,.sl false 7 []] false/\z.fr 22= .sl false 1 [[tv w]]/\z.fr 23=iv 1/\z.fr 24=iv j) ⟨0,Zo,Zo,Zm,Zm,Zm,Zm,Zm,Zm,Zm⟩ ?_;rintro m ⟨fr,hp⟩ ⟨j,hm,hj,f1,f2,f3,b3,fl,fn,fj⟩;simp at f1 f2 f3 b3 fl fn fj;rcases (show j=0\/j=1 by omega) with rfl|rfl
 ·skip
  repeat' first|refine ZN ?_|refine Z2 ?_ ?_|intro h h';try simp[*,-h] at h'
  all_goals exact⟨0,Zo,1,Zo,Zo,Zm,Zm,Zm,Zm,Zm,Zm,Zm⟩
 repeat' first|refine ZN ?_|refine Z2 ?_ ?_|intro h h';try simp[*,-h] at h'
 refine Ac (n:=1) (fun s0 m z=>m=1/\z.fr 1=tv ⟨#[77]⟩/\z.fr 2= .sl false 1 [[tv w]]/\z.fr 3= .ptr ⟨0,3,0⟩ 1 0/\z.hp ⟨0,3,0⟩= .box 1 [.sl false 1 (aE ns),.sl false 1 (aE vs),.sl false 1 [],.sl false 6 [],.sl false 4 [],iv 0,.sl false 7 []] false/\z.fr 36= .sl false 1 [[tv w]]/\z.fr 37=iv 1/\z.fr 38=iv 0) ⟨rfl,Zm,Zm,Zm,Zm,Zm,Zm,Zm⟩ ?_;clear fj fn fl f1 f2 f3 b3;rintro m ⟨fr,hp⟩ ⟨hm,f1,f2,f3,b3,fl,fn,fj⟩;simp at f1 f2 f3 b3 fl fn fj;obtain⟨g47,hg47⟩: ∃g,(hp ⟨0,47,0⟩).gen+1=g:=⟨_,rfl⟩
 repeat' first|refine ZN ?_|refine Z2 ?_ ?_|intro h h';try simp[*,-h] at h'
 all_goals refine Ac (n:=1) (fun s0 m z=>m=1/\z.fr 3= .ptr ⟨0,3,0⟩ 1 0/\z.hp ⟨0,3,0⟩= .box 1 [.sl false 1 (aE ns),.sl false 1 (aE vs),.sl false 1 [],.sl false 6 [],.sl false 4 [],iv 0,.sl false 7 []] false/\z.fr 47= .own ⟨0,47,0⟩ g47 1/\z.hp ⟨0,47,0⟩= .arr g47 1 9 [[tv w]] false/\z.fr 48=iv 1/\z.fr 49=iv 0) ⟨rfl,Zm,Zm,by simp[*,aE],by simp[*,aE],by simp[*,aE],Zm⟩ ?_
 rintro m2 ⟨fr2,If⟩ ⟨sS,q3,q4,q8,q9,q10,q11⟩;simp at q3 q4 q8 q9 q10 q11;exact ZS
def Je :List Value:=[.string ⟨#[115,101,116]⟩,.string ⟨#[104,101,120]⟩,.string ⟨#[106,111,105,110]⟩,.string ⟨#[112,114,105,110,116]⟩,.string ⟨#[100,117,109,112]⟩,.string ⟨#[100,105,103,101,115,116]⟩,.string ⟨#[97,115,109]⟩,.string ⟨#[108,105,115,116]⟩,.string ⟨#[115,116,97,99,107]⟩,.string ⟨#[114,101,103]⟩,.string ⟨#[114,117,110]⟩,.string ⟨#[109,101,97,110]⟩,.string ⟨#[107,101,101,112]⟩,.string ⟨#[104,101,97,100]⟩,.string ⟨#[115,97,118,101]⟩,.string ⟨#[111,112,101,110]⟩,.string ⟨#[115,105,103,110,101,114]⟩,.string ⟨#[110,101,101,100]⟩,.string ⟨#[116,119,105,99,101]⟩,.string ⟨#[114,101,108,101,97,115,101]⟩]
def L9 :List (List AV):=[[tv ⟨#[78,84]⟩,.fn 34 []],[tv ⟨#[78,77]⟩,.fn 35 []],[tv ⟨#[78,77,77]⟩,.fn 36 []],[tv ⟨#[77]⟩,.fn 37 []],[tv ⟨#[77]⟩,.fn 38 []],[tv ⟨#[77]⟩,.fn 39 []],[tv ⟨#[78,77]⟩,.fn 40 []],[tv ⟨#[77]⟩,.fn 41 []],[tv ⟨#[78,77]⟩,.fn 42 []],[tv ⟨#[78,77,82]⟩,.fn 43 []],[tv ⟨#[78,77,73,70]⟩,.fn 44 []],[tv ⟨#[78,77,73,70]⟩,.fn 45 []],[tv ⟨#[77]⟩,.fn 46 []],[tv ⟨#[]⟩,.fn 47 []],[tv ⟨#[78]⟩,.fn 48 []],[tv ⟨#[77]⟩,.fn 49 []],[tv ⟨#[84,72]⟩,.fn 50 []],[tv ⟨#[75]⟩,.fn 51 []],[tv ⟨#[83,66,80,81,70]⟩,.fn 52 []],[tv ⟨#[83,66,80,81,70]⟩,.fn 53 []]]
theorem Sq :LC.dat 17 []=some [.dmp true Je L9]:=by
 refine fW Tryz.func17 (Ah Zd) ?_;exact ZS
end
section
open Go Go.Ab Go.Ab.Sy
variable {t x:ByteArray}{ns vs ws:List ByteArray}{g i:Nat}
def bV (ns vs ws:List ByteArray)(t:ByteArray):List AV:=[.sl false 1 (aE ns),.sl false 1 (aE vs),.sl false 1 [],.sl false 6 [],.sl false 4 [],iv 0,.sl false 7 [],.sl false 1 (aE ws),tv t]
def iX (e:Int):Value:= .iface 67 (.agg ⟨[.int .i64 e]⟩)
def CFr (D:Nat)(hp1 If:Hp):Prop:= ∀d i c,d<=D->If ⟨d,i,c⟩=hp1 ⟨d,i,c⟩
def CPan (D:Nat)(hp1:Hp)(e:Int)(v:Value)(If:Hp):Prop:=v=iX e/\CFr D hp1 If
theorem Ov (D d:Nat)(hp1:Hp):HB P0 EC LC D d 87 [iv 0] hp1 (fun v If=>v= .tup []/\If=hp1) (fun _ _=>False):=by
 refine hB (k1:=D+1) (PR:=fun _ _=>False) Tryz.func87 (D6 _ _ _ _ _) ?_
 repeat' first|refine ZN ?_|refine Z2 ?_ ?_|intro h h';try simp[*,-h] at h'
 all_goals exact⟨rfl,rfl⟩
theorem BU (D d:Nat)(hp1:Hp)(e:Int)(he:e≠0):HB P0 EC LC D d 87 [iv e] hp1 (fun _ _=>False) (CPan D hp1 e):=by
 refine hB (k1:=D+1) (PR:=CPan D hp1 e) Tryz.func87 (D6 _ _ _ _ _) ?_
 repeat' first|refine ZN ?_|refine Z2 ?_ ?_|intro h h';try simp[*,-h] at h'
 all_goals exact⟨rfl,fun _ _ _ _=>rfl⟩
theorem E8{y:ByteArray}(D d:Nat)(hp1:Hp)(hb:hp1 ⟨0,36,0⟩= .box g (bV ns vs ws t) false)(hx:ws[i]?=some x)(hv:LC.dat 56 [.agg (I7 ns vs),tv x]=some [tv y,bv true]):HB P0 EC LC D d 82 [.ptr ⟨0,36,0⟩ g 0,iv i] hp1 (fun v If=>v=tv y/\If=hp1) (fun _ _=>False):=by
 refine hB (k1:=D+1) (PR:=fun _ _=>False) Tryz.func82 (D6 _ _ _ _ _) ?_;have hwr:(aE ws)[i]?=some [tv x]:=by simp[aE,hx]
 have hwl:i<(aE ws).length:=(Oh.1 hwr).1;have hwr2: ∀h:i<(aE ws).length,(aE ws)[i]'h=[tv x]:=fun h=>nN ((Bs h).symm.trans hwr)
 have hwl2:i<ws.length:=by simpa using hwl
 unfold bV at hb;unfold I7 at hv
 repeat' first|refine ZN ?_|refine Z2 ?_ ?_|intro h h';try simp[*,-h] at h'
 all_goals exact⟨rfl,rfl⟩
theorem Wc{n:Int}(D d:Nat)(hp1:Hp)(hb:hp1 ⟨0,36,0⟩= .box g (bV ns vs ws t) false)(hx:ws[i]?=some x)(hn:0<=n/\n<4294967296)(hv:LC.dat 117 [tv x]=some [uv n,iv 0]):HB P0 EC LC D d 95 [.ptr ⟨0,36,0⟩ g 0,iv i] hp1 (fun v If=>v=iv n/\If=hp1) (fun _ _=>False):=by
 refine hB (k1:=D+1) (PR:=fun _ _=>False) Tryz.func95 (D6 _ _ _ _ _) ?_;have hwr:(aE ws)[i]?=some [tv x]:=by simp[aE,hx]
 have hwl:i<(aE ws).length:=(Oh.1 hwr).1;have hwr2: ∀h:i<(aE ws).length,(aE ws)[i]'h=[tv x]:=fun h=>nN ((Bs h).symm.trans hwr)
 have hwl2:i<ws.length:=by simpa using hwl
 unfold bV at hb;have wn:IntKind.i64.wrap n=n:=Bu Zo Zo
 repeat' (first|refine ZN ?_|refine Z2 ?_ ?_|(intro h h';try simp[*,-h] at h')|((with_reducible apply Ap (f:=87));exact Zv;apply Ov;rotate_right;(rintro _ AH ⟨rfl,kX⟩;rw[kX];clear kX))|fail)
 all_goals exact⟨rfl,rfl⟩
theorem clip_w (D d:Nat)(hp1:Hp)(rows:List (List AV))(hl:rows.length<=1000):HB P0 EC LC D d 129 [.sl false 1 rows] hp1 (fun v If=>v= .sl true 1 rows/\CFr D hp1 If) (fun _ _=>False):=by
 refine hB (k1:=D+1) (PR:=fun _ _=>False) Tryz.func129 (D6 _ _ _ _ _) ?_;have mU:rows.take rows.length=rows:=Kb (D5 _)
 repeat' first|refine ZN ?_|refine Z2 ?_ ?_|intro h h';try simp[*,-h] at h'
 all_goals exact⟨rfl,fun d i c hd=>by have Uc:d≠D+1:=Zo;simp[Uc]⟩
def OC (D g:Nat)(ns vs ws:List ByteArray)(t x v:ByteArray)(hp1:Hp)(w:AV)(If:Hp):Prop:=w= .tup []/\ ∃g1 g2:Nat,
 If ⟨0,36,0⟩= .box g [.own ⟨0,36,1⟩ g1 (ns.length+1),.own ⟨0,36,2⟩ g2 (vs.length+1),.sl false 1 [],.sl false 6 [],.sl false 4 [],iv 0,.sl false 7 [],.sl false 1 (aE ws),tv t] false/\
 If ⟨0,36,1⟩= .arr g1 1 9 (aE (ns++[x])) false/\If ⟨0,36,2⟩= .arr g2 1 9 (aE (vs++[v])) false/\ ∀d i c,d<=D-> ¬(d=0/\i=36)->If ⟨d,i,c⟩=hp1 ⟨d,i,c⟩
theorem K5{v:ByteArray}(D d:Nat)(hp1:Hp)(hb:hp1 ⟨0,36,0⟩= .box g (bV ns vs ws t) false)(hx:ws[0]?=some x)(hl:ns.length<=900)(pP:vs.length<=900)(hn: ∀j:Nat,ns[j]?≠some x):HB P0 EC LC D d 80 [.ptr ⟨0,36,0⟩ g 0,tv v] hp1 (OC D g ns vs ws t x v hp1) (fun _ _=>False):=by
 refine hB (k1:=D+1) (PR:=fun _ _=>False) Tryz.func80 (D6 _ _ _ _ _) ?_;have hwr:(aE ws)[0]?=some [tv x]:=by simp[aE,hx]
 have hwl:0<(aE ws).length:=(Oh.1 hwr).1;have hwr2: ∀h:0<(aE ws).length,(aE ws)[0]'h=[tv x]:=fun h=>nN ((Bs h).symm.trans hwr)
 have hwl2:0<ws.length:=by simpa using hwl
 have hi:=Caa ns x Zo hn;have l1:(aE ns).length=ns.length:=Zi;have l2:(aE vs).length=vs.length:=Zi;have t1:(aE ns).take ns.length=aE ns:=Kb Zi;have t2:(aE vs).take vs.length=aE vs:=Kb Zi;have x1:(ns.length+1)*16<=140737488355328:=Zo;have x2:ns.length<=9223372036854775806:=Zo;have x3:(vs.length+1)*16<=140737488355328:=Zo;have x4:vs.length<=9223372036854775806:=Zo;unfold bV at hb;clear hn
 repeat' (first|refine ZN ?_|refine Z2 ?_ ?_|(intro h h';try simp[*,-h] at h')|((with_reducible apply Ap (f:=129));exact Zv;apply clip_w;(simp;omega);rotate_right;(rintro _ If ⟨rfl,hcf⟩;have q0:=hcf 0 36 0 Zo;have q1:=hcf 0 36 1 Zo;simp[*] at q0 q1;have hC:=Lib.hid hcf;clear hcf))|fail)
 rename_i hpa qa1 qa0 hCa;refine⟨rfl,(hp1 ⟨0,36,1⟩).gen+1,(If ⟨0,36,2⟩).gen+1,Zi,by simp[aE,q1],by simp[aE],fun d i c hd hn=>?_⟩;have Uc:d≠D+1:=Zo;have n0: ∀c',(⟨d,i,c⟩:Nm)≠⟨0,36,c'⟩:=fun c' e=>by injection e with e1 e2 _;exact hn ⟨e1,e2⟩
 simp[Uc,n0];rw[hC.out d i c Zo];simp[Uc,n0];exact hCa.out d i c Zo
end
section
open Go Go.Ab Go.Ab.Sy
theorem dq{n:Nat}(t:ByteArray)(s:t.size<=2:=by decide)(h:tF P0 EC (eP P0 EC XC) 40 Tryz.f321 [iv n]=some [tv t]:=by kernel_rfl): ∃t:ByteArray,t.size<=2/\LC.dat 321 [iv n]=some [tv t]:=⟨t,s,Al Tryz.func321 (Ah Zd) h⟩
theorem IS : ∀n:Nat,n<=50-> ∃t:ByteArray,t.size<=2/\LC.dat 321 [iv n]=some [tv t]
 |0,_=>dq ⟨#[48]⟩
 |1,_=>dq ⟨#[49]⟩
 |2,_=>dq ⟨#[50]⟩
 |3,_=>dq ⟨#[51]⟩
 |4,_=>dq ⟨#[52]⟩
 |5,_=>dq ⟨#[53]⟩
 |6,_=>dq ⟨#[54]⟩
 |7,_=>dq ⟨#[55]⟩
 |8,_=>dq ⟨#[56]⟩
 |9,_=>dq ⟨#[57]⟩
 |10,_=>dq ⟨#[49,48]⟩
 |11,_=>dq ⟨#[49,49]⟩
 |12,_=>dq ⟨#[49,50]⟩
 |13,_=>dq ⟨#[49,51]⟩
 |14,_=>dq ⟨#[49,52]⟩
 |15,_=>dq ⟨#[49,53]⟩
 |16,_=>dq ⟨#[49,54]⟩
 |17,_=>dq ⟨#[49,55]⟩
 |18,_=>dq ⟨#[49,56]⟩
 |19,_=>dq ⟨#[49,57]⟩
 |20,_=>dq ⟨#[50,48]⟩
 |21,_=>dq ⟨#[50,49]⟩
 |22,_=>dq ⟨#[50,50]⟩
 |23,_=>dq ⟨#[50,51]⟩
 |24,_=>dq ⟨#[50,52]⟩
 |25,_=>dq ⟨#[50,53]⟩
 |26,_=>dq ⟨#[50,54]⟩
 |27,_=>dq ⟨#[50,55]⟩
 |28,_=>dq ⟨#[50,56]⟩
 |29,_=>dq ⟨#[50,57]⟩
 |30,_=>dq ⟨#[51,48]⟩
 |31,_=>dq ⟨#[51,49]⟩
 |32,_=>dq ⟨#[51,50]⟩
 |33,_=>dq ⟨#[51,51]⟩
 |34,_=>dq ⟨#[51,52]⟩
 |35,_=>dq ⟨#[51,53]⟩
 |36,_=>dq ⟨#[51,54]⟩
 |37,_=>dq ⟨#[51,55]⟩
 |38,_=>dq ⟨#[51,56]⟩
 |39,_=>dq ⟨#[51,57]⟩
 |40,_=>dq ⟨#[52,48]⟩
 |41,_=>dq ⟨#[52,49]⟩
 |42,_=>dq ⟨#[52,50]⟩
 |43,_=>dq ⟨#[52,51]⟩
 |44,_=>dq ⟨#[52,52]⟩
 |45,_=>dq ⟨#[52,53]⟩
 |46,_=>dq ⟨#[52,54]⟩
 |47,_=>dq ⟨#[52,55]⟩
 |48,_=>dq ⟨#[52,56]⟩
 |49,_=>dq ⟨#[52,57]⟩
 |50,_=>dq ⟨#[53,48]⟩
 |n+51,h=>absurd h Zo
theorem Jsa (n:Nat)(hn:n<=50): ∃rs,LC.dat 238 [iv n,iv 10]=some rs/\ ∃t:ByteArray,t.size<=10/\rs=[tv t]:=by
 refine fR (R:=fun rs=> ∃t:ByteArray,t.size<=10/\rs=[tv t]) Tryz.func238 (Ah Zd) ?_;obtain⟨t,hz,ht⟩:=IS n hn;have e1:(0:Int)<=n:=Zo;have e2:(n:Int)<100:=Zo
 repeat' first|refine ZN ?_|refine Z2 ?_ ?_|intro h h';try simp[*,-h] at h'
 all_goals exact⟨_,(by first|omega|decide),rfl⟩
theorem LH (n:Nat)(hn:n<=50): ∃rs,LC.dat 163 [iv n]=some rs/\ ∃t:ByteArray,t.size<=10/\rs=[tv t]:=by
 refine fR (R:=fun rs=> ∃t:ByteArray,t.size<=10/\rs=[tv t]) Tryz.func163 (Ah Zd) ?_;obtain⟨_,ht,t,hz,rfl⟩:=Jsa n hn
 repeat' first|refine ZN ?_|refine Z2 ?_ ?_|intro h h';try simp[*,-h] at h'
 all_goals exact⟨_,(by first|omega|decide),rfl⟩
theorem itoa_w (n:Nat)(hn:n<=50): ∃rs,LC.dat 100 [iv n]=some rs/\ ∃t:ByteArray,t.size<=10/\rs=[tv t]:=by
 refine fR (R:=fun rs=> ∃t:ByteArray,t.size<=10/\rs=[tv t]) Tryz.func100 (Ah Zd) ?_;obtain⟨_,ht,t,hz,rfl⟩:=LH n hn
 repeat' first|refine ZN ?_|refine Z2 ?_ ?_|intro h h';try simp[*,-h] at h'
 all_goals exact⟨_,(by first|omega|decide),rfl⟩
theorem Sa (n:Int): ∃rs,LC.dat 96 [iv n]=some rs/\ ∃t:ByteArray,t.size<=10/\rs=[tv t]:=by
 refine fR (R:=fun rs=> ∃t:ByteArray,t.size<=10/\rs=[tv t]) Tryz.func96 (Ah Zd) ?_
 repeat' first|refine ZN ?_|refine Z2 ?_ ?_|intro h h';try simp[*,-h] at h'
 all_goals exact⟨_,(by first|omega|decide),rfl⟩
end
section
open Go Go.Ab Go.Ab.Sy
variable {t x:ByteArray}{ns vs ws:List ByteArray}{g:Nat}
@[simp] theorem okFn_91 :Il P0 91=true:=Zf
@[simp] theorem ptys_91 :Um P0 91=[9]:=Zf
@[simp] theorem rtys_91 :Iv P0 91=[9,3,33]:=Zf
@[simp] theorem flatF_91 :Af P0 91=true:=Zf
@[simp] theorem okFn_94 :Il P0 94=true:=Zf
@[simp] theorem ptys_94 :Um P0 94=[9,9,3]:=Zf
@[simp] theorem rtys_94 :Iv P0 94=[141,33]:=Zf
@[simp] theorem flatF_94 :Af P0 94=true:=Zf
theorem set_w{v:ByteArray}(D d:Nat)(hp1:Hp)(hb:hp1 ⟨0,36,0⟩= .box g (bV ns vs ws t) false)(hx:ws[0]?=some x)(h1:ws[1]?=some v)(hl:ns.length<=900)(pP:vs.length<=900)(hn: ∀j:Nat,ns[j]?≠some x):HB P0 EC LC D d 34 [.ptr ⟨0,36,0⟩ g 0] hp1 (OC D g ns vs ws t x v hp1) (fun _ _=>False):=by
 refine hB (k1:=D+1) (PR:=fun _ _=>False) Tryz.func34 (D6 _ _ _ _ _) ?_;have HB0:=Lib.hid hb;have hB:=hb;unfold bV at hB;clear hb;have wr1:(aE ws)[1]?=some [tv v]:=by simp[aE,h1]
 have wl1:1<(aE ws).length:=(Oh.1 wr1).1;have wq1: ∀h:1<(aE ws).length,(aE ws)[1]'h=[tv v]:=fun h=>nN ((Bs h).symm.trans wr1)
 have wm1:1<ws.length:=by simpa using wl1
 clear h1
 repeat' (first|refine ZN ?_|refine Z2 ?_ ?_|(intro h h';try simp[*,-h] at h')|((with_reducible apply Ap (f:=80));exact Zv;apply K5;(first|exact HB0.out|(simp[HB0.out]));exact hx;omega;omega;exact hn;rotate_right;(rintro _ If ⟨rfl,g1,g2,k0,k1,k2,lW⟩;have HF:=Lib.hid lW;have q2:=lW (D+1) 2 0 (D5 _) Zo;have q5:=lW (D+1) 5 0 (D5 _) Zo;(try simp at q2);(try simp at q5);clear lW))|fail)
 all_goals exact⟨rfl,g1,g2,k0,k1,k2,fun d i c hd hn=>HF.out d i c Zo hn⟩
def TellR (D g:Nat)(ns vs ws:List ByteArray)(t:ByteArray)(hp1:Hp)(w:AV)(If:Hp):Prop:=w= .tup []/\If ⟨0,36,0⟩= .box g (bV ns vs ws t) false/\ ∀d i c,d<=D-> ¬(d=0/\i=36)->If ⟨d,i,c⟩=hp1 ⟨d,i,c⟩
theorem JL{y:ByteArray}(D d:Nat)(hp1:Hp)(hb:hp1 ⟨0,36,0⟩= .box g (bV ns vs ws t) false)(hx:ws[0]?=some x)(hv:LC.dat 56 [.agg (I7 ns vs),tv x]=some [tv y,bv true]):HB P0 EC LC D d 37 [.ptr ⟨0,36,0⟩ g 0] hp1 (TellR D g ns vs ws y hp1) (fun _ _=>False):=by
 refine hB (k1:=D+1) (PR:=fun _ _=>False) Tryz.func37 (D6 _ _ _ _ _) ?_;have HB0:=Lib.hid hb;have hB:=hb;unfold bV at hB;clear hb
 repeat' (first|refine ZN ?_|refine Z2 ?_ ?_|(intro h h';try simp[*,-h] at h')|((with_reducible apply Ap (f:=82));exact Zv;apply E8 (i:=0);(first|exact HB0.out|(simp[HB0.out]));exact hx;exact hv;rotate_right;(rintro _ AH ⟨rfl,kX⟩;rw[kX];clear kX))|fail)
 all_goals exact⟨rfl,by simp[bV],fun d i c hd hn=>by have n0: ∀c',(⟨d,i,c⟩:Nm)≠⟨0,36,c'⟩:=fun c' e=>(by injection e with e1 e2 _;exact hn ⟨e1,e2⟩);simp[n0]⟩
theorem IN{z y img:ByteArray}(D d:Nat)(hp1:Hp)(hb:hp1 ⟨0,36,0⟩= .box g (bV ns vs ws t) false){na:Int}(hx:ws[0]?=some x)(h1:ws[1]?=some z)(hv:LC.dat 56 [.agg (I7 ns vs),tv z]=some [tv y,bv true])(hc:LC.dat 91 [tv y]=some [tv img,iv na,iv 0])(hl:ns.length<=900)(pP:vs.length<=900)(hn: ∀j:Nat,ns[j]?≠some x):HB P0 EC LC D d 42 [.ptr ⟨0,36,0⟩ g 0] hp1 (OC D g ns vs ws t x img hp1) (fun _ _=>False):=by
 refine hB (k1:=D+1) (PR:=fun _ _=>False) Tryz.func42 (D6 _ _ _ _ _) ?_;have HB0:=Lib.hid hb;have hB:=hb;unfold bV at hB;clear hb
 repeat' (first|refine ZN ?_|refine Z2 ?_ ?_|(intro h h';try simp[*,-h] at h')|((with_reducible apply Ap (f:=82));exact Zv;apply E8 (i:=1);(first|exact HB0.out|(simp[HB0.out]));exact h1;exact hv;rotate_right;(rintro _ AH ⟨rfl,kX⟩;rw[kX];clear kX))|((with_reducible apply Ap (f:=87));exact Zv;apply Ov;rotate_right;(rintro _ AH ⟨rfl,kX⟩;rw[kX];clear kX))|((with_reducible apply Ap (f:=80));exact Zv;apply K5;(first|exact HB0.out|(simp[HB0.out]));exact hx;omega;omega;exact hn;rotate_right;(rintro _ If ⟨rfl,g1,g2,k0,k1,k2,lW⟩;have HF:=Lib.hid lW;have q2:=lW (D+1) 2 0 (D5 _) Zo;have q5:=lW (D+1) 5 0 (D5 _) Zo;(try simp at q2);(try simp at q5);clear lW))|fail)
 all_goals exact⟨rfl,g1,g2,k0,k1,k2,fun d i c hd hn=>HF.out d i c Zo hn⟩
def FE (D g:Nat)(ns vs ws:List ByteArray)(x v:ByteArray)(hp1:Hp)(w:AV)(If:Hp):Prop:=w= .tup []/\ ∃(t:ByteArray) (g1 g2:Nat),
 If ⟨0,36,0⟩= .box g [.own ⟨0,36,1⟩ g1 (ns.length+1),.own ⟨0,36,2⟩ g2 (vs.length+1),.sl false 1 [],.sl false 6 [],.sl false 4 [],iv 0,.sl false 7 [],.sl false 1 (aE ws),tv t] false/\
 If ⟨0,36,1⟩= .arr g1 1 9 (aE (ns++[x])) false/\If ⟨0,36,2⟩= .arr g2 1 9 (aE (vs++[v])) false/\ ∀d i c,d<=D-> ¬(d=0/\i=36)->If ⟨d,i,c⟩=hp1 ⟨d,i,c⟩
theorem run_w{z1 z2 z3 y1 y2 out:ByteArray}(D d:Nat)(hp1:Hp)(hb:hp1 ⟨0,36,0⟩= .box g (bV ns vs ws t) false)(hx:ws[0]?=some x)(h1:ws[1]?=some z1)(h2:ws[2]?=some z2)(h3:ws[3]?=some z3)(v1:LC.dat 56 [.agg (I7 ns vs),tv z1]=some [tv y1,bv true])(v2:LC.dat 56 [.agg (I7 ns vs),tv z2]=some [tv y2,bv true]){n:Int}(pI:0<=(1000000:Int)/\(1000000:Int)<4294967296)(v3:LC.dat 117 [tv z3]=some [uv 1000000,iv 0])(hc:LC.dat 94 [tv y1,tv y2,iv 1000000]=some [.agg [iv 1,tv out,iv n],iv 0])(hl:ns.length<=900)(pP:vs.length<=900)(hn: ∀j:Nat,ns[j]?≠some x):HB P0 EC LC D d 44 [.ptr ⟨0,36,0⟩ g 0] hp1 (FE D g ns vs ws x out hp1) (fun _ _=>False):=by
 refine hB (k1:=D+1) (PR:=fun _ _=>False) Tryz.func44 (D6 _ _ _ _ _) ?_;have HB0:=Lib.hid hb;have hB:=hb;unfold bV at hB;clear hb;obtain⟨_,he,w,_,rfl⟩:=Sa 1
 repeat' (first|refine ZN ?_|refine Z2 ?_ ?_|(intro h h';try simp[*,-h] at h')|((with_reducible apply Ap (f:=82));exact Zv;apply E8 (i:=1);(first|exact HB0.out|(simp[HB0.out]));exact h1;exact v1;rotate_right;(rintro _ AH ⟨rfl,kX⟩;rw[kX];clear kX))|((with_reducible apply Ap (f:=82));exact Zv;apply E8 (i:=2);(first|exact HB0.out|(simp[HB0.out]));exact h2;exact v2;rotate_right;(rintro _ AH ⟨rfl,kX⟩;rw[kX];clear kX))|((with_reducible apply Ap (f:=95));exact Zv;apply Wc (i:=3);(first|exact HB0.out|(simp[HB0.out]));exact h3;exact pI;exact v3;rotate_right;(rintro _ AH ⟨rfl,kX⟩;rw[kX];clear kX))|((with_reducible apply Ap (f:=87));exact Zv;apply Ov;rotate_right;(rintro _ AH ⟨rfl,kX⟩;rw[kX];clear kX))|((with_reducible apply Ap (f:=80));exact Zv;apply K5;(first|exact HB0.out|(simp[HB0.out]));exact hx;omega;omega;exact hn;rotate_right;(rintro _ If ⟨rfl,g1,g2,k0,k1,k2,lW⟩;have HF:=Lib.hid lW;have q2:=lW (D+1) 2 0 (D5 _) Zo;have q5:=lW (D+1) 5 0 (D5 _) Zo;(try simp at q2);(try simp at q5);clear lW))|fail)
 all_goals exact⟨rfl,w,g1,g2,Zm,Zm,Zm,fun d i c hd hn=>by have Uc:d≠D+1:=Zo;have n0: ∀c',(⟨d,i,c⟩:Nm)≠⟨0,36,c'⟩:=fun c' e=>(by injection e with e1 e2 _;exact hn ⟨e1,e2⟩);simp[n0,Uc];rw[HF.out d i c Zo hn];simp[n0,Uc]⟩
end
section
open Go Go.Ab Go.Ab.Sy
variable {t z1 y1:ByteArray}{a:Int}{ns vs ws:List ByteArray}{g:Nat}
def ER (D:Nat)(hp1:Hp)(e:Int)(v:Value)(If:Hp):Prop:=v=iX e/\ ∀d i c,d<=D-> ¬(d=0/\i=36)->If ⟨d,i,c⟩=hp1 ⟨d,i,c⟩
theorem Q8{x:ByteArray}(D d:Nat)(hp1:Hp)(hb:hp1 ⟨0,36,0⟩= .box g (bV ns vs ws t) false)(h1:ws[1]?=some z1)(v1:LC.dat 56 [.agg (I7 ns vs),tv z1]=some [tv y1,bv true]){e:Int}(he:e≠0)(hP:LC.dat 97 [tv y1]=some [.agg [.vec 1 [],.vec 2 [],.vec 5 []],iv a,iv e]):HB P0 EC LC D d 45 [.ptr ⟨0,36,0⟩ g 0] hp1 (fun _ _=>False) (ER D hp1 e):=by
 refine hB (k1:=D+1) (PR:=ER D hp1 e) Tryz.func45 (D6 _ _ _ _ _) ?_;have HB0:=Lib.hid hb;have hB:=hb;unfold bV at hB;clear hb
 repeat' (first|refine ZN ?_|refine Z2 ?_ ?_|(intro h h';try simp[*,-h] at h')|(exact⟨rfl,fun d i c hd hn=>by have Uc:d≠D+1:=Zo;rw[U7 d i c Zo];simp[Uc]⟩)|((with_reducible apply Ap (f:=82));exact Zv;apply E8 (i:=1);(first|exact HB0.out|(simp[HB0.out]));exact h1;exact v1;rotate_right;(rintro _ AH ⟨rfl,kX⟩;rw[kX];clear kX))|((with_reducible apply Aq (f:=87));exact Zv;apply BU;exact he;rotate_left;rintro _ dG ⟨rfl,U7⟩;rotate_right;exact ZF)|fail)
theorem D1a{x:ByteArray}(D d:Nat)(hp1:Hp)(hb:hp1 ⟨0,36,0⟩= .box g (bV ns vs ws t) false)(h1:ws[1]?=some z1)(v1:LC.dat 56 [.agg (I7 ns vs),tv z1]=some [tv y1,bv true]){pv:List Tx}{pa:List (Tx×Int)}{pf:List Sy.Fu}(hP:LC.dat 97 [tv y1]=some [.agg [.sl false 1 (Ib pv),.sl false 2 (Ih pa),.sl false 5 (pf.map Sy.Fu.row)],iv a,iv 0]){e:Int}(he:e≠0)(hS:LC.dat 98 [.agg [.sl false 1 (Ib pv),.sl false 2 (Ih pa),.sl false 5 (pf.map Sy.Fu.row)]]=some [iv e]):HB P0 EC LC D d 45 [.ptr ⟨0,36,0⟩ g 0] hp1 (fun _ _=>False) (ER D hp1 e):=by
 refine hB (k1:=D+1) (PR:=ER D hp1 e) Tryz.func45 (D6 _ _ _ _ _) ?_;have HB0:=Lib.hid hb;have hB:=hb;unfold bV at hB;clear hb
 repeat' (first|refine ZN ?_|refine Z2 ?_ ?_|(intro h h';try simp[*,-h] at h')|(exact⟨rfl,fun d i c hd hn=>by have Uc:d≠D+1:=Zo;rw[U7 d i c Zo];simp[Uc]⟩)|((with_reducible apply Ap (f:=82));exact Zv;apply E8 (i:=1);(first|exact HB0.out|(simp[HB0.out]));exact h1;exact v1;rotate_right;(rintro _ AH ⟨rfl,kX⟩;rw[kX];clear kX))|((with_reducible apply Ap (f:=87));exact Zv;apply Ov;rotate_right;(rintro _ AH ⟨rfl,kX⟩;rw[kX];clear kX))|((with_reducible apply Aq (f:=87));exact Zv;apply BU;exact he;rotate_left;rintro _ dG ⟨rfl,U7⟩;rotate_right;exact ZF)|fail)
end
section
open Go Go.Ab Go.Ab.Sy
variable {t x:ByteArray}{c0 c1 c2 d3 d4:Code}{n:Int}{pa:List (Tx×Int)}{ns vs ws:List ByteArray}{pf:List Sy.Fu}{pv:List Tx}{g i:Nat}
theorem A7a{y:ByteArray}(D d:Nat)(hp1:Hp)(hb:hp1 ⟨0,36,0⟩= .box g (bV ns vs ws t) false)(hx:ws[i]?=some x)(hv:LC.dat 56 [.agg (I7 ns vs),tv x]=some [tv y,bv true]):LC.hpc D d 82 [.ptr ⟨0,36,0⟩ g 0,iv i] hp1=some (tv y,hp1):=by
 rcases E8 D d hp1 hb hx hv with⟨v,hp',h,rfl,rfl⟩|⟨_,_,_,_,hf⟩
 ·exact h
 ·exact hf.elim
theorem We(D d:Nat)(hp1:Hp)(hb:hp1 ⟨0,36,0⟩= .box g (bV ns vs ws t) false)(hx:ws[i]?=some x)(hn:0<=n/\n<4294967296)(hv:LC.dat 117 [tv x]=some [uv n,iv 0]):LC.hpc D d 95 [.ptr ⟨0,36,0⟩ g 0,iv i] hp1=some (iv n,hp1):=by
 rcases Wc D d hp1 hb hx hn hv with⟨v,hp',h,rfl,rfl⟩|⟨_,_,_,_,hf⟩
 ·exact h
 ·exact hf.elim
structure MeanH (g:Nat)(ns vs ws:List ByteArray)(t:ByteArray)(pv:List Tx)(pa:List (Tx×Int))(pf:List Sy.Fu)(hp1:Hp)(g2:Nat)(s:AS):Prop where
 f0:s.fr 0= .ptr ⟨0,36,0⟩ g 0
 f2:s.fr 2= .ptr ⟨1,2,0⟩ g2 0
 b2:s.hp ⟨1,2,0⟩= .box g2 [.sl false 1 (Ib pv),.sl false 2 (Ih pa),.sl false 5 (pf.map Sy.Fu.row)] false
 bx:s.hp ⟨0,36,0⟩= .box g (bV ns vs ws t) false
 low: ∀i c,s.hp ⟨0,i,c⟩=hp1 ⟨0,i,c⟩
theorem D0a(hb:Tryz.f45.body=some (.seq c0 (.seq c1 (.seq c2 (.seq d3 d4))))){z1 y1:ByteArray}(hp1:Hp)(Ul:hp1 ⟨0,36,0⟩= .box g (bV ns vs ws t) false)(h1:ws[1]?=some z1)(v1:LC.dat 56 [.agg (I7 ns vs),tv z1]=some [tv y1,bv true]){a:Int}(hP:LC.dat 97 [tv y1]=some [.agg [.sl false 1 (Ib pv),.sl false 2 (Ih pa),.sl false 5 (pf.map Sy.Fu.row)],iv a,iv 0])(hS:LC.dat 98 [.agg [.sl false 1 (Ib pv),.sl false 2 (Ih pa),.sl false 5 (pf.map Sy.Fu.row)]]=some [iv 0]):
  lM P0 EC 1 LC (fun _ _=>False) (MeanH g ns vs ws t pv pa pf hp1 ((hp1 ⟨1,2,0⟩).gen+1)) [c0,c1,c2] ⟨Uh [.ptr ⟨0,36,0⟩ g 0],hp1⟩:=by
 have HB0:=Lib.hid Ul;have hB:=Ul;unfold bV at hB;clear Ul
 cases hb
 simp only[lM]
 repeat' (first|refine ZN ?_|refine Z2 ?_ ?_|(intro h h';try simp[*,-h] at h')|((with_reducible apply Ap (f:=82));exact Zv;apply E8 (i:=1);(first|exact HB0.out|(simp[HB0.out]));exact h1;exact v1;rotate_right;(rintro _ AH ⟨rfl,kX⟩;rw[kX];clear kX))|((with_reducible apply Ap (f:=87));exact Zv;apply Ov;rotate_right;(rintro _ AH ⟨rfl,kX⟩;rw[kX];clear kX))|fail)
 all_goals exact⟨Zi,Zi,Zi,by simp[HB0.out],fun i c=>Zi⟩
structure MeanR (g g5:Nat)(ns vs ws:List ByteArray)(t out:ByteArray)(ce n:Int)(hp1:Hp)(s:AS):Prop where
 f0:s.fr 0= .ptr ⟨0,36,0⟩ g 0
 f5:s.fr 5= .ptr ⟨1,5,0⟩ g5 0
 b5:s.hp ⟨1,5,0⟩= .box g5 [iv ce,tv out,iv n] false
 bx:s.hp ⟨0,36,0⟩= .box g (bV ns vs ws t) false
 low: ∀i c,s.hp ⟨0,i,c⟩=hp1 ⟨0,i,c⟩
theorem KK(hb:Tryz.f45.body=some (.seq c0 (.seq c1 (.seq c2 (.seq d3 d4))))){z2 z3 y2 out:ByteArray}{g2:Nat}{hp1:Hp}{s:AS}{ce:Int}(h:MeanH g ns vs ws t pv pa pf hp1 g2 s)(h2:ws[2]?=some z2)(h3:ws[3]?=some z3)(v2:LC.dat 56 [.agg (I7 ns vs),tv z2]=some [tv y2,bv true])(v3:LC.dat 117 [tv z3]=some [uv 50,iv 0])
  (hR:LC.dat 99 [.agg [.sl false 1 (Ib pv),.sl false 2 (Ih pa),.sl false 5 (pf.map Sy.Fu.row)],tv y2,iv 50]=some [.agg [iv ce,tv out,iv n]]): ∃(g5:Nat) (s2:AS),MeanR g g5 ns vs ws t out ce n hp1 s2/\
  ∀(K:Nat->Prop) (B:jZ) (a:Act) (w:World) (Q:Exit->Act->World->Prop),aX 1 39 K B s a w->(∀a' w',aX 1 39 K B s2 a' w'->Q .normal a' w')->d3.wp P0 Q a w:=by
 obtain⟨fr,hq⟩:=s;obtain⟨f0,f2,b2,bx,low⟩:=h;simp only at f0 f2 b2 bx low;obtain⟨g5,hg5⟩: ∃g,(hq ⟨1,5,0⟩).gen+1=g:=⟨_,rfl⟩;have q1:LC.hpc 1 20 82 [.ptr ⟨0,36,0⟩ g 0,iv 2] hq=some (tv y2,hq):=A7a 1 20 hq bx h2 v2;have q2:LC.hpc 1 22 95 [.ptr ⟨0,36,0⟩ g 0,iv 3] hq=some (iv 50,hq):=We 1 22 hq bx h3 ⟨Zd,Zd⟩ v3;have q3:LC.hpc 1 20 82 [.ptr ⟨0,36,0⟩ g 0,iv 2] (Ur hq ⟨1,5,0⟩ (.box g5 [iv 0,tv ⟨⟨[]⟩⟩,iv 0] false))=some (tv y2,Ur hq ⟨1,5,0⟩ (.box g5 [iv 0,tv ⟨⟨[]⟩⟩,iv 0] false)):=A7a 1 20 (Ur hq ⟨1,5,0⟩ (.box g5 [iv 0,tv ⟨⟨[]⟩⟩,iv 0] false)) (by simpa using bx) h2 v2;have q4:LC.hpc 1 22 95 [.ptr ⟨0,36,0⟩ g 0,iv 3] (Ur hq ⟨1,5,0⟩ (.box g5 [iv 0,tv ⟨⟨[]⟩⟩,iv 0] false))=some (iv 50,Ur hq ⟨1,5,0⟩ (.box g5 [iv 0,tv ⟨⟨[]⟩⟩,iv 0] false)):=We 1 22 (Ur hq ⟨1,5,0⟩ (.box g5 [iv 0,tv ⟨⟨[]⟩⟩,iv 0] false)) (by simpa using bx) h3 ⟨Zd,Zd⟩ v3;have BX:=Lib.hid bx;have LO:=Lib.hid low;clear bx low;have key: ∃(frF:Nat->AV) (l:List Oper) (id:Nat) (oc:Oper) (v:AV) (uR:Hp),d3= .region id l.toArray true/\Cy l.toArray 7=true/\((waits l.toArray.toList []).getD 7 0).testBit 6=true/\(∀j,j<l.toArray.size->j≠7->((waits l.toArray.toList []).getD 7 0).testBit j=true)/\((List.range l.toArray.size).filter fun j=>Ce l.toArray 7 j)=[0,1,2,3,4,5,6]/\
   eS P0 EC 1 LC 6 hq (Ur hq ⟨1,5,0⟩ (.box g5 [iv 0,tv ⟨⟨[]⟩⟩,iv 0] false)) ([0,1,2,3,4,5,6].map fun j=>(j,l.toArray.getD j default)) fr frF/\l.toArray[7]?=some oc/\oc.guard=none/\oc.dst=none/\
   (bL P0 EC 1 LC frF oc).run (Ur hq ⟨1,5,0⟩ (.box g5 [iv 0,tv ⟨⟨[]⟩⟩,iv 0] false))=some (v,uR)/\Im 39 (.region id l.toArray true)=true/\frF 0= .ptr ⟨0,36,0⟩ g 0/\frF 5= .ptr ⟨1,5,0⟩ g5 0/\(uR ⟨1,5,0⟩= .box g5 [iv ce,tv out,iv n] false/\ ∀x,x≠⟨1,5,0⟩->uR x=hq x):=by
  cases hb
  refine⟨?frF,_,_,_,?v,?uR,rfl,?k1,?k2,?k3,?k4,?k5,rfl,rfl,rfl,?k9,?k10,?k11,?k12,?k13⟩
  case k1=>kernel_rfl
  case k2=>kernel_rfl
  case k3=>decide
  case k4=>kernel_rfl
  case k5=>(simp only[T9,nT,Nh,X4,Rt,T7,X1]);(repeat' (first|exact eS.nil|((with_reducible apply J8);exact Zc)|((with_reducible apply J7);decide;exact Zc;exact Zc)))
  case k9=>exact Zc
  case k10=>kernel_rfl
  case k11=>simp[*]
  case k12=>simp[*]
  case k13=>exact⟨Zi,fun x hx=>by simp[hx]⟩
 obtain⟨frF,l,id,oc,v,uR,rfl,k1,k2,k3,k4,k5,k6,k7,k8,k9,k10,k11,k12,k13,k14⟩:=key;refine⟨g5,⟨Uw frF oc.dst v,uR⟩,⟨by rw[k8];exact k11,by rw[k8];exact k12,k13,by simp only;rw[k14 _ Zi];exact BX.out,fun i c=>by simp only;rw[k14 _ Zi];exact LO.out i c⟩,fun K B a w Q S hQ=>?_⟩;exact Ta An Dh jV k1 k2 k3 k4 k5 k6 k7 k9 k10 S hQ
end
section
open Go Go.Ab Go.Ab.Sy
theorem KJ {c0 c1 c2 d3 d4:Code}(hb:Tryz.f45.body=some (.seq c0 (.seq c1 (.seq c2 (.seq d3 d4))))){ns vs ws:List ByteArray}{t x out:ByteArray}{g g5 n:Nat}{ce:Int}{hp1:Hp}{s:AS}(h:MeanR g g5 ns vs ws t out ce n hp1 s)(hx:ws[0]?=some x)(zL:n<=50)(hl:ns.length<=900)(pP:vs.length<=900)(hn: ∀j:Nat,ns[j]?≠some x):
  W P0 EC 1 LC d4 s (wB P0 0 0 [] (FE 0 g ns vs ws x out hp1) (fun _ _=>False)):=by
 obtain⟨fr,hq⟩:=s;obtain⟨f0,f5,b5,bx,low⟩:=h;simp only at f0 f5 b5 bx low;have HB0:=Lib.hid bx;have hB:=bx;unfold bV at hB;have LO:=Lib.hid low;obtain⟨_,hE,e1,z1,rfl⟩:=Sa ce;obtain⟨_,hI,i1,z2,rfl⟩:=itoa_w n zL;have zs:(⟨#[32]⟩:ByteArray).size=1:=rfl;have z3:e1.size+(⟨#[32]⟩:ByteArray).size<=9223372036854775807:=Zo;have z4:e1.size+(⟨#[32]⟩:ByteArray).size+i1.size<=9223372036854775807:=Zo;have z5:(e1++(⟨#[32]⟩:ByteArray)).size+i1.size<=9223372036854775807:=by rw[ByteArray.size_append];omega
 clear zs;clear bx low
 cases hb
 repeat' (first|refine ZN ?_|refine Z2 ?_ ?_|(intro h h';try simp[*,-h] at h')|((with_reducible apply Ap (f:=80));exact Zv;apply K5;(first|exact HB0.out|(simp[HB0.out]));exact hx;omega;omega;exact hn;rotate_right;(rintro _ If ⟨rfl,g1,g2,k0,k1,k2,lW⟩;have HF:=Lib.hid lW;have q2:=lW 1 2 0 (D5 _) Zo;have q5:=lW 1 5 0 (D5 _) Zo;(try simp at q2);(try simp at q5);clear lW))|fail)
 all_goals exact⟨rfl,_,g1,g2,by simp;rfl,Zm,Zm,fun d i c hd hn=>by have hd0:d=0:=Zo;subst hd0;have n0: ∀c',(⟨0,i,c⟩:Nm)≠⟨0,36,c'⟩:=fun c' e=>(by injection e with e1 e2 _;exact hn ⟨rfl,e2⟩);simp[n0];rw[HF.out 0 i c Zo hn];exact LO.out i c⟩
theorem Ow {c0 c1 c2 d3 d4:Code}(hb:Tryz.f45.body=some (.seq c0 (.seq c1 (.seq c2 (.seq d3 d4))))):(∀c∈[c0,c1,c2],Im 39 c=true)/\Im 39 d3=true/\Im 39 d4=true:=by
 have h:Im 39 (.seq c0 (.seq c1 (.seq c2 (.seq d3 d4))))=true:=by
  have h0:(match Tryz.f45.body with|some c=>Im 39 c|none=>false)=true:=Zf;rw[hb] at h0;exact h0
 simp only[Im,Ed] at h;obtain⟨a0,a1,a2,a3,a4⟩:=h;refine⟨?_,a3,a4⟩;intro c hc;simp only[sV,Ac4,or_false] at hc;rcases hc with rfl|rfl|rfl<;>assumption
theorem Hma {ns vs ws:List ByteArray}{t x z1 z2 z3 y1 y2 out:ByteArray}{g n:Nat}{a ce:Int}{hp1:Hp}(Ul:hp1 ⟨0,36,0⟩= .box g (bV ns vs ws t) false)(hx:ws[0]?=some x)(h1:ws[1]?=some z1)(h2:ws[2]?=some z2)(h3:ws[3]?=some z3)(v1:LC.dat 56 [.agg (I7 ns vs),tv z1]=some [tv y1,bv true])(v2:LC.dat 56 [.agg (I7 ns vs),tv z2]=some [tv y2,bv true])(v3:LC.dat 117 [tv z3]=some [uv 50,iv 0]){pv:List Tx}{pa:List (Tx×Int)}{pf:List Sy.Fu}
  (hP:LC.dat 97 [tv y1]=some [.agg [.sl false 1 (Ib pv),.sl false 2 (Ih pa),.sl false 5 (pf.map Sy.Fu.row)],iv a,iv 0]) (hS:LC.dat 98 [.agg [.sl false 1 (Ib pv),.sl false 2 (Ih pa),.sl false 5 (pf.map Sy.Fu.row)]]=some [iv 0]) (hR:LC.dat 99 [.agg [.sl false 1 (Ib pv),.sl false 2 (Ih pa),.sl false 5 (pf.map Sy.Fu.row)],tv y2,iv 50]=some [.agg [iv ce,tv out,iv n]]) (zL:n<=50) (hl:ns.length<=900) (pP:vs.length<=900) (hn: ∀j:Nat,ns[j]?≠some x):
  ∃v hp',sG P0 0 45 [.ptr ⟨0,36,0⟩ g 0] hp1 v hp'/\FE 0 g ns vs ws x out hp1 v hp':=by
 obtain⟨c0,c1,c2,d3,d4,hb⟩: ∃c0 c1 c2 d3 d4,Tryz.f45.body=some (.seq c0 (.seq c1 (.seq c2 (.seq d3 d4)))):=⟨_,_,_,_,_,rfl⟩;obtain⟨e1,s1,vR,hh1⟩:=lM.pick _ (D0a hb hp1 Ul h1 v1 hP hS);rcases hh1 with⟨rfl,hH⟩|⟨_,hf⟩
 case inr=>exact hf.elim
 obtain⟨g5,s2,hM,gI⟩:=KK hb hH h2 h3 v2 v3 hR;obtain⟨e4,s4,hW4,h4⟩:=W.pick (KJ hb hM hx zL hl pP hn);have xK:e4= .normal\/e4= .ret:=by
  cases e4 with
  |normal=>exact .inl rfl
  |ret=>exact .inr rfl
  |exit i=>exact h4.elim
  |panic v=>exact h4.elim
 obtain⟨v,hp',hl4,hr4⟩: ∃v hp',(dU P0 s4.fr 0 0 []).run s4.hp=some (v,hp')/\FE 0 g ns vs ws x out hp1 v hp':=by
  rcases xK with rfl|rfl<;>exact h4
 refine⟨v,hp',?_,hr4⟩;intro Uz I K m w us G ha;have hl:us.length=1:=by rw[<-ha.1];rfl
 have hN:Tryz.f45.ntmps=39:=rfl;have S0:aX 1 39 K ⟨I,m,hp1,w,[]⟩ ⟨Uh [.ptr ⟨0,36,0⟩ g 0],hp1⟩ {tmps:=(⟨us⟩:Array Value)++Array.replicate (Tryz.f45.ntmps - (⟨us⟩:Array Value).size) undef,defers:=[]} w:=by
  refine⟨I,m,G,.refl _ _ _ _ _,fun t=>Cl (ha.imp fun a u h=>Ie.depth (uY 0) a u h) t,?_,rfl⟩;simp only[AX,AW,BA,hN];omega
 refine Ad1 Tryz.func45 hb ?_;refine lM.wp An Dh jV (fun s2 a' w' hh S=>?_) (fun e s2 a' w' Ir hh S=>(Ir hh.1).elim) (fun v hp' a' w' h=>nomatch h.1) [c0,c1,c2] vR (Ow hb).1 S0;obtain⟨rfl,_⟩:=hh;refine nM (gI K _ a' w' _ S fun a2 w2 S2=>?_);refine W.wp An Dh jV hW4 (Ow hb).2.2 S2 (fun e s2 a3 w3 hh S3=>?_) (fun v hp' a3 w3 h=>by rcases xK with rfl|rfl<;>exact nomatch h.1);obtain⟨rfl,rfl⟩:=hh;obtain⟨I1,m1,G1,E1,mY,_,nX⟩:=S3;obtain⟨us',Uk,I2,m2,G2,E2,R2⟩:=Fa (k:=0) G1 mY hl4;have lH:a3.defers=[]/\ ∃v',(results Tryz.f45 a3.tmps).run P0 w3= .ok v' w3/\ ∃u,Ending.returned v'= .returned u/\ ∃I' m',sF I' K m' hp' w3 v 0 I m hp1 w u:=
  ⟨nX,gF us',Bl Tryz.f45 _ us' Uk,gF us',rfl,I2,m2,G2,E1.trans E2,R2⟩
 rcases xK with rfl|rfl<;>exact lH
end
end Go.Proofs.YtggghdmdjpianaaGreatDoor
