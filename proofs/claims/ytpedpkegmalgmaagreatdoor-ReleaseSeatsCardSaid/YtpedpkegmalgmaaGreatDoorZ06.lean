/- A part of the proof: Qa, Qb. -/
import Derived.Test.YtpedpkegmalgmaaGreatDoorZ05
import Derived.Lib.Hide
set_option linter.unusedSimpArgs false
set_option linter.unusedVariables false
set_option maxRecDepth 200000
set_option maxHeartbeats 8000000
namespace Go.Proofs.YtpedpkegmalgmaaGreatDoor.Q
section
open Go Go.Ab
attribute [-simp] Prog.bind getCs putCs
attribute [local simp ↓] run_bind
attribute [local simp ↓] runF_bind
attribute [local simp] run_getCsN runF_getCsN facetsC putCs_one run_putCsN
def xorW (a b:Int):Int:=IntKind.u32.wrap ((BitVec.ofInt IntKind.u32.bits a^^^BitVec.ofInt IntKind.u32.bits b).toNat)
def orW (a b:Int):Int:=IntKind.u32.wrap ((BitVec.ofInt IntKind.u32.bits a|||BitVec.ofInt IntKind.u32.bits b).toNat)
def andX (a b:Int):Int:=IntKind.u64.wrap ((BitVec.ofInt IntKind.u64.bits a&&&BitVec.ofInt IntKind.u64.bits b).toNat)
theorem evInt_xor (a b:Int):evInt .xor .u32 a b=some (.int .u32 (xorW a b)):=rfl
theorem evInt_or (a b:Int):evInt .or .u32 a b=some (.int .u32 (orW a b)):=rfl
theorem evInt_and64 (a b:Int):evInt .and .u64 a b=some (.int .u64 (andX a b)):=rfl
theorem orW_nat {x y:Nat}(hx:x<4294967296)(hy:y<4294967296):orW (x:Int) (y:Int)=((x|||y:Nat):Int):=bits_or hx hy
theorem wrap_U32 (x:Int):U (IntKind.u32.wrap x):=by rw[IntKind.wrap_u32];unfold U;omega
theorem xorW_U (a b:Int):U (xorW a b):=wrap_U32 _
def turnP (x:Int)(k:Nat):Int:=x*2^k%4294967296+x/2^(32 - k)
attribute [local simp ↓] evInt_xor evInt_or evInt_and64
theorem turnP_7 (x:Int):turnP x 7=x*128%4294967296+x/33554432:=rfl
theorem or_turn_7 {x:Int}(h:U x):orW (IntKind.u32.wrap (x*128)) (x/33554432)=turnP x 7:=by
 obtain⟨n,rfl⟩: ∃n:Nat,x=n:=⟨x.toNat,by unfold U at h;omega⟩
 have hn:n<4294967296:=by unfold U at h;omega
 have e:IntKind.u32.wrap ((n:Int)*128)=((n%33554432*128:Nat):Int):=by rw[IntKind.wrap_u32];omega
 have e2:(n:Int)/33554432=((n/33554432:Nat):Int):=by omega
 have o:=or_add (x:=n/33554432) (y:=n%33554432) 7 (by omega)
 rw[show(2:Nat)^7=128 from rfl] at o
 rw[e,e2,orW_nat (by omega) (by omega),Nat.or_comm,o,turnP_7]
 omega
@[simp] theorem fd25 (w:Int):w.fdiv (2^min 25 IntKind.u32.bits)=w/33554432:=by rw[show(2:Int)^min 25 IntKind.u32.bits=33554432 from by decide+kernel];exact Int.fdiv_eq_ediv_of_nonneg _ (by omega)
@[simp] theorem sh7 (w:Int):w*2^min 7 IntKind.u32.bits=w*128:=by rw[show(2:Int)^min 7 IntKind.u32.bits=128 from by decide+kernel]
theorem and_7 :andX 7 31=7:=by decide+kernel
theorem d88_7 (x:Int)(h:U x):(lim Tryz.prog E47 X46).dat 91 [uv x,iv 7]=some [uv (turnP x 7)]:=by
 refine fnW Tryz.func91 rfl rfl bodyOk_91 rfl rtys_91 rfl ?_
 have a1:IntKind.u64.wrap 7=7:=by decide+kernel
 have a2:IntKind.u64.wrap 25=25:=by decide+kernel
 have a3:=and_7
 have a4:=or_turn_7 h
 clear h
 repeat' (first|(refine ZN ?_)|(refine Z2 ?_ ?_)|(intro h h';try simp[*,-h] at h'))
 all_goals rfl
theorem turnP_9 (x:Int):turnP x 9=x*512%4294967296+x/8388608:=rfl
theorem or_turn_9 {x:Int}(h:U x):orW (IntKind.u32.wrap (x*512)) (x/8388608)=turnP x 9:=by
 obtain⟨n,rfl⟩: ∃n:Nat,x=n:=⟨x.toNat,by unfold U at h;omega⟩
 have hn:n<4294967296:=by unfold U at h;omega
 have e:IntKind.u32.wrap ((n:Int)*512)=((n%8388608*512:Nat):Int):=by rw[IntKind.wrap_u32];omega
 have e2:(n:Int)/8388608=((n/8388608:Nat):Int):=by omega
 have o:=or_add (x:=n/8388608) (y:=n%8388608) 9 (by omega)
 rw[show(2:Nat)^9=512 from rfl] at o
 rw[e,e2,orW_nat (by omega) (by omega),Nat.or_comm,o,turnP_9]
 omega
@[simp] theorem fd23 (w:Int):w.fdiv (2^min 23 IntKind.u32.bits)=w/8388608:=by rw[show(2:Int)^min 23 IntKind.u32.bits=8388608 from by decide+kernel];exact Int.fdiv_eq_ediv_of_nonneg _ (by omega)
@[simp] theorem sh9 (w:Int):w*2^min 9 IntKind.u32.bits=w*512:=by rw[show(2:Int)^min 9 IntKind.u32.bits=512 from by decide+kernel]
theorem and_9 :andX 9 31=9:=by decide+kernel
theorem d88_9 (x:Int)(h:U x):(lim Tryz.prog E47 X46).dat 91 [uv x,iv 9]=some [uv (turnP x 9)]:=by
 refine fnW Tryz.func91 rfl rfl bodyOk_91 rfl rtys_91 rfl ?_
 have a1:IntKind.u64.wrap 9=9:=by decide+kernel
 have a2:IntKind.u64.wrap 23=23:=by decide+kernel
 have a3:=and_9
 have a4:=or_turn_9 h
 clear h
 repeat' (first|(refine ZN ?_)|(refine Z2 ?_ ?_)|(intro h h';try simp[*,-h] at h'))
 all_goals rfl
theorem turnP_13 (x:Int):turnP x 13=x*8192%4294967296+x/524288:=rfl
theorem or_turn_13 {x:Int}(h:U x):orW (IntKind.u32.wrap (x*8192)) (x/524288)=turnP x 13:=by
 obtain⟨n,rfl⟩: ∃n:Nat,x=n:=⟨x.toNat,by unfold U at h;omega⟩
 have hn:n<4294967296:=by unfold U at h;omega
 have e:IntKind.u32.wrap ((n:Int)*8192)=((n%524288*8192:Nat):Int):=by rw[IntKind.wrap_u32];omega
 have e2:(n:Int)/524288=((n/524288:Nat):Int):=by omega
 have o:=or_add (x:=n/524288) (y:=n%524288) 13 (by omega)
 rw[show(2:Nat)^13=8192 from rfl] at o
 rw[e,e2,orW_nat (by omega) (by omega),Nat.or_comm,o,turnP_13]
 omega
@[simp] theorem fd19 (w:Int):w.fdiv (2^min 19 IntKind.u32.bits)=w/524288:=by rw[show(2:Int)^min 19 IntKind.u32.bits=524288 from by decide+kernel];exact Int.fdiv_eq_ediv_of_nonneg _ (by omega)
@[simp] theorem sh13 (w:Int):w*2^min 13 IntKind.u32.bits=w*8192:=by rw[show(2:Int)^min 13 IntKind.u32.bits=8192 from by decide+kernel]
theorem and_13 :andX 13 31=13:=by decide+kernel
theorem d88_13 (x:Int)(h:U x):(lim Tryz.prog E47 X46).dat 91 [uv x,iv 13]=some [uv (turnP x 13)]:=by
 refine fnW Tryz.func91 rfl rfl bodyOk_91 rfl rtys_91 rfl ?_
 have a1:IntKind.u64.wrap 13=13:=by decide+kernel
 have a2:IntKind.u64.wrap 19=19:=by decide+kernel
 have a3:=and_13
 have a4:=or_turn_13 h
 clear h
 repeat' (first|(refine ZN ?_)|(refine Z2 ?_ ?_)|(intro h h';try simp[*,-h] at h'))
 all_goals rfl
theorem turnP_18 (x:Int):turnP x 18=x*262144%4294967296+x/16384:=rfl
theorem or_turn_18 {x:Int}(h:U x):orW (IntKind.u32.wrap (x*262144)) (x/16384)=turnP x 18:=by
 obtain⟨n,rfl⟩: ∃n:Nat,x=n:=⟨x.toNat,by unfold U at h;omega⟩
 have hn:n<4294967296:=by unfold U at h;omega
 have e:IntKind.u32.wrap ((n:Int)*262144)=((n%16384*262144:Nat):Int):=by rw[IntKind.wrap_u32];omega
 have e2:(n:Int)/16384=((n/16384:Nat):Int):=by omega
 have o:=or_add (x:=n/16384) (y:=n%16384) 18 (by omega)
 rw[show(2:Nat)^18=262144 from rfl] at o
 rw[e,e2,orW_nat (by omega) (by omega),Nat.or_comm,o,turnP_18]
 omega
@[simp] theorem fd14 (w:Int):w.fdiv (2^min 14 IntKind.u32.bits)=w/16384:=by rw[show(2:Int)^min 14 IntKind.u32.bits=16384 from by decide+kernel];exact Int.fdiv_eq_ediv_of_nonneg _ (by omega)
@[simp] theorem sh18 (w:Int):w*2^min 18 IntKind.u32.bits=w*262144:=by rw[show(2:Int)^min 18 IntKind.u32.bits=262144 from by decide+kernel]
theorem and_18 :andX 18 31=18:=by decide+kernel
theorem d88_18 (x:Int)(h:U x):(lim Tryz.prog E47 X46).dat 91 [uv x,iv 18]=some [uv (turnP x 18)]:=by
 refine fnW Tryz.func91 rfl rfl bodyOk_91 rfl rtys_91 rfl ?_
 have a1:IntKind.u64.wrap 18=18:=by decide+kernel
 have a2:IntKind.u64.wrap 14=14:=by decide+kernel
 have a3:=and_18
 have a4:=or_turn_18 h
 clear h
 repeat' (first|(refine ZN ?_)|(refine Z2 ?_ ?_)|(intro h h';try simp[*,-h] at h'))
 all_goals rfl
theorem turnP_U {x:Int}(h:U x): ∀i,i≤18→U (turnP x i):=by
 intro i hi
 unfold U at*
 have:i=0∨i=1∨i=2∨i=3∨i=4∨i=5∨i=6∨i=7∨i=8∨i=9∨i=10∨i=11∨i=12∨i=13∨i=14∨i=15∨i=16∨i=17∨i=18:=by omega
 rcases this with rfl|rfl|rfl|rfl|rfl|rfl|rfl|rfl|rfl|rfl|rfl|rfl|rfl|rfl|rfl|rfl|rfl|rfl|rfl<;>simp only[turnP,Nat.reduceSub,Int.reducePow]<;>omega
theorem turnP_step {x:Int}(h:U x): ∀i,i<18→2*turnP x i%4294967296+turnP x i/2147483648=turnP x (i+1):=by
 intro i hi
 unfold U at*
 have:i=0∨i=1∨i=2∨i=3∨i=4∨i=5∨i=6∨i=7∨i=8∨i=9∨i=10∨i=11∨i=12∨i=13∨i=14∨i=15∨i=16∨i=17:=by omega
 rcases this with rfl|rfl|rfl|rfl|rfl|rfl|rfl|rfl|rfl|rfl|rfl|rfl|rfl|rfl|rfl|rfl|rfl|rfl
 ·simp only[turnP,Nat.reduceSub,Nat.reduceAdd,Int.reducePow]
  have e1:x*1%4294967296=x%4294967296*1:=by omega
  have e2:x*2%4294967296=x%2147483648*2:=by omega
  rw[e1,e2]
  obtain⟨q,t,r,hx,ht,hr⟩: ∃q t r:Int,x=4294967296*q+2147483648*t+r∧(t=0∨t=1)∧0≤r∧r<2147483648:=⟨x/4294967296,x/2147483648%2,x%2147483648,by omega,by omega,by omega,by omega⟩
  have hq:0≤q∧q<1:=by omega
  obtain⟨s,hs⟩: ∃s,s=r*1+q:=⟨_,rfl⟩
  have hs1:0≤s∧s<2147483648:=by omega
  have g0:(2147483648*0+r)*1+q=s:=by omega
  have g1:(2147483648*1+r)*1+q=2147483648+s:=by omega
  have g2:r*2+(2*q+0)=2*s:=by omega
  have g3:r*2+(2*q+1)=2*s+1:=by omega
  have f1:x%4294967296=2147483648*t+r:=by omega
  have f2:x/4294967296=q:=by omega
  have f3:x%2147483648=r:=by omega
  have f4:x/2147483648=2*q+t:=by omega
  rw[f1,f2,f3,f4]
  rcases ht with rfl|rfl
  ·rw[g0,g2];clear g0 g1 g2 g3 f1 f2 f3 f4 e1 e2 hs hx hr hq;omega
  ·rw[g1,g3];clear g0 g1 g2 g3 f1 f2 f3 f4 e1 e2 hs hx hr hq;omega
 ·simp only[turnP,Nat.reduceSub,Nat.reduceAdd,Int.reducePow]
  have e1:x*2%4294967296=x%2147483648*2:=by omega
  have e2:x*4%4294967296=x%1073741824*4:=by omega
  rw[e1,e2]
  obtain⟨q,t,r,hx,ht,hr⟩: ∃q t r:Int,x=2147483648*q+1073741824*t+r∧(t=0∨t=1)∧0≤r∧r<1073741824:=⟨x/2147483648,x/1073741824%2,x%1073741824,by omega,by omega,by omega,by omega⟩
  have hq:0≤q∧q<2:=by omega
  obtain⟨s,hs⟩: ∃s,s=r*2+q:=⟨_,rfl⟩
  have hs1:0≤s∧s<2147483648:=by omega
  have g0:(1073741824*0+r)*2+q=s:=by omega
  have g1:(1073741824*1+r)*2+q=2147483648+s:=by omega
  have g2:r*4+(2*q+0)=2*s:=by omega
  have g3:r*4+(2*q+1)=2*s+1:=by omega
  have f1:x%2147483648=1073741824*t+r:=by omega
  have f2:x/2147483648=q:=by omega
  have f3:x%1073741824=r:=by omega
  have f4:x/1073741824=2*q+t:=by omega
  rw[f1,f2,f3,f4]
  rcases ht with rfl|rfl
  ·rw[g0,g2];clear g0 g1 g2 g3 f1 f2 f3 f4 e1 e2 hs hx hr hq;omega
  ·rw[g1,g3];clear g0 g1 g2 g3 f1 f2 f3 f4 e1 e2 hs hx hr hq;omega
 ·simp only[turnP,Nat.reduceSub,Nat.reduceAdd,Int.reducePow]
  have e1:x*4%4294967296=x%1073741824*4:=by omega
  have e2:x*8%4294967296=x%536870912*8:=by omega
  rw[e1,e2]
  obtain⟨q,t,r,hx,ht,hr⟩: ∃q t r:Int,x=1073741824*q+536870912*t+r∧(t=0∨t=1)∧0≤r∧r<536870912:=⟨x/1073741824,x/536870912%2,x%536870912,by omega,by omega,by omega,by omega⟩
  have hq:0≤q∧q<4:=by omega
  obtain⟨s,hs⟩: ∃s,s=r*4+q:=⟨_,rfl⟩
  have hs1:0≤s∧s<2147483648:=by omega
  have g0:(536870912*0+r)*4+q=s:=by omega
  have g1:(536870912*1+r)*4+q=2147483648+s:=by omega
  have g2:r*8+(2*q+0)=2*s:=by omega
  have g3:r*8+(2*q+1)=2*s+1:=by omega
  have f1:x%1073741824=536870912*t+r:=by omega
  have f2:x/1073741824=q:=by omega
  have f3:x%536870912=r:=by omega
  have f4:x/536870912=2*q+t:=by omega
  rw[f1,f2,f3,f4]
  rcases ht with rfl|rfl
  ·rw[g0,g2];clear g0 g1 g2 g3 f1 f2 f3 f4 e1 e2 hs hx hr hq;omega
  ·rw[g1,g3];clear g0 g1 g2 g3 f1 f2 f3 f4 e1 e2 hs hx hr hq;omega
 ·simp only[turnP,Nat.reduceSub,Nat.reduceAdd,Int.reducePow]
  have e1:x*8%4294967296=x%536870912*8:=by omega
  have e2:x*16%4294967296=x%268435456*16:=by omega
  rw[e1,e2]
  obtain⟨q,t,r,hx,ht,hr⟩: ∃q t r:Int,x=536870912*q+268435456*t+r∧(t=0∨t=1)∧0≤r∧r<268435456:=⟨x/536870912,x/268435456%2,x%268435456,by omega,by omega,by omega,by omega⟩
  have hq:0≤q∧q<8:=by omega
  obtain⟨s,hs⟩: ∃s,s=r*8+q:=⟨_,rfl⟩
  have hs1:0≤s∧s<2147483648:=by omega
  have g0:(268435456*0+r)*8+q=s:=by omega
  have g1:(268435456*1+r)*8+q=2147483648+s:=by omega
  have g2:r*16+(2*q+0)=2*s:=by omega
  have g3:r*16+(2*q+1)=2*s+1:=by omega
  have f1:x%536870912=268435456*t+r:=by omega
  have f2:x/536870912=q:=by omega
  have f3:x%268435456=r:=by omega
  have f4:x/268435456=2*q+t:=by omega
  rw[f1,f2,f3,f4]
  rcases ht with rfl|rfl
  ·rw[g0,g2];clear g0 g1 g2 g3 f1 f2 f3 f4 e1 e2 hs hx hr hq;omega
  ·rw[g1,g3];clear g0 g1 g2 g3 f1 f2 f3 f4 e1 e2 hs hx hr hq;omega
 ·simp only[turnP,Nat.reduceSub,Nat.reduceAdd,Int.reducePow]
  have e1:x*16%4294967296=x%268435456*16:=by omega
  have e2:x*32%4294967296=x%134217728*32:=by omega
  rw[e1,e2]
  obtain⟨q,t,r,hx,ht,hr⟩: ∃q t r:Int,x=268435456*q+134217728*t+r∧(t=0∨t=1)∧0≤r∧r<134217728:=⟨x/268435456,x/134217728%2,x%134217728,by omega,by omega,by omega,by omega⟩
  have hq:0≤q∧q<16:=by omega
  obtain⟨s,hs⟩: ∃s,s=r*16+q:=⟨_,rfl⟩
  have hs1:0≤s∧s<2147483648:=by omega
  have g0:(134217728*0+r)*16+q=s:=by omega
  have g1:(134217728*1+r)*16+q=2147483648+s:=by omega
  have g2:r*32+(2*q+0)=2*s:=by omega
  have g3:r*32+(2*q+1)=2*s+1:=by omega
  have f1:x%268435456=134217728*t+r:=by omega
  have f2:x/268435456=q:=by omega
  have f3:x%134217728=r:=by omega
  have f4:x/134217728=2*q+t:=by omega
  rw[f1,f2,f3,f4]
  rcases ht with rfl|rfl
  ·rw[g0,g2];clear g0 g1 g2 g3 f1 f2 f3 f4 e1 e2 hs hx hr hq;omega
  ·rw[g1,g3];clear g0 g1 g2 g3 f1 f2 f3 f4 e1 e2 hs hx hr hq;omega
 ·simp only[turnP,Nat.reduceSub,Nat.reduceAdd,Int.reducePow]
  have e1:x*32%4294967296=x%134217728*32:=by omega
  have e2:x*64%4294967296=x%67108864*64:=by omega
  rw[e1,e2]
  obtain⟨q,t,r,hx,ht,hr⟩: ∃q t r:Int,x=134217728*q+67108864*t+r∧(t=0∨t=1)∧0≤r∧r<67108864:=⟨x/134217728,x/67108864%2,x%67108864,by omega,by omega,by omega,by omega⟩
  have hq:0≤q∧q<32:=by omega
  obtain⟨s,hs⟩: ∃s,s=r*32+q:=⟨_,rfl⟩
  have hs1:0≤s∧s<2147483648:=by omega
  have g0:(67108864*0+r)*32+q=s:=by omega
  have g1:(67108864*1+r)*32+q=2147483648+s:=by omega
  have g2:r*64+(2*q+0)=2*s:=by omega
  have g3:r*64+(2*q+1)=2*s+1:=by omega
  have f1:x%134217728=67108864*t+r:=by omega
  have f2:x/134217728=q:=by omega
  have f3:x%67108864=r:=by omega
  have f4:x/67108864=2*q+t:=by omega
  rw[f1,f2,f3,f4]
  rcases ht with rfl|rfl
  ·rw[g0,g2];clear g0 g1 g2 g3 f1 f2 f3 f4 e1 e2 hs hx hr hq;omega
  ·rw[g1,g3];clear g0 g1 g2 g3 f1 f2 f3 f4 e1 e2 hs hx hr hq;omega
 ·simp only[turnP,Nat.reduceSub,Nat.reduceAdd,Int.reducePow]
  have e1:x*64%4294967296=x%67108864*64:=by omega
  have e2:x*128%4294967296=x%33554432*128:=by omega
  rw[e1,e2]
  obtain⟨q,t,r,hx,ht,hr⟩: ∃q t r:Int,x=67108864*q+33554432*t+r∧(t=0∨t=1)∧0≤r∧r<33554432:=⟨x/67108864,x/33554432%2,x%33554432,by omega,by omega,by omega,by omega⟩
  have hq:0≤q∧q<64:=by omega
  obtain⟨s,hs⟩: ∃s,s=r*64+q:=⟨_,rfl⟩
  have hs1:0≤s∧s<2147483648:=by omega
  have g0:(33554432*0+r)*64+q=s:=by omega
  have g1:(33554432*1+r)*64+q=2147483648+s:=by omega
  have g2:r*128+(2*q+0)=2*s:=by omega
  have g3:r*128+(2*q+1)=2*s+1:=by omega
  have f1:x%67108864=33554432*t+r:=by omega
  have f2:x/67108864=q:=by omega
  have f3:x%33554432=r:=by omega
  have f4:x/33554432=2*q+t:=by omega
  rw[f1,f2,f3,f4]
  rcases ht with rfl|rfl
  ·rw[g0,g2];clear g0 g1 g2 g3 f1 f2 f3 f4 e1 e2 hs hx hr hq;omega
  ·rw[g1,g3];clear g0 g1 g2 g3 f1 f2 f3 f4 e1 e2 hs hx hr hq;omega
 ·simp only[turnP,Nat.reduceSub,Nat.reduceAdd,Int.reducePow]
  have e1:x*128%4294967296=x%33554432*128:=by omega
  have e2:x*256%4294967296=x%16777216*256:=by omega
  rw[e1,e2]
  obtain⟨q,t,r,hx,ht,hr⟩: ∃q t r:Int,x=33554432*q+16777216*t+r∧(t=0∨t=1)∧0≤r∧r<16777216:=⟨x/33554432,x/16777216%2,x%16777216,by omega,by omega,by omega,by omega⟩
  have hq:0≤q∧q<128:=by omega
  obtain⟨s,hs⟩: ∃s,s=r*128+q:=⟨_,rfl⟩
  have hs1:0≤s∧s<2147483648:=by omega
  have g0:(16777216*0+r)*128+q=s:=by omega
  have g1:(16777216*1+r)*128+q=2147483648+s:=by omega
  have g2:r*256+(2*q+0)=2*s:=by omega
  have g3:r*256+(2*q+1)=2*s+1:=by omega
  have f1:x%33554432=16777216*t+r:=by omega
  have f2:x/33554432=q:=by omega
  have f3:x%16777216=r:=by omega
  have f4:x/16777216=2*q+t:=by omega
  rw[f1,f2,f3,f4]
  rcases ht with rfl|rfl
  ·rw[g0,g2];clear g0 g1 g2 g3 f1 f2 f3 f4 e1 e2 hs hx hr hq;omega
  ·rw[g1,g3];clear g0 g1 g2 g3 f1 f2 f3 f4 e1 e2 hs hx hr hq;omega
 ·simp only[turnP,Nat.reduceSub,Nat.reduceAdd,Int.reducePow]
  have e1:x*256%4294967296=x%16777216*256:=by omega
  have e2:x*512%4294967296=x%8388608*512:=by omega
  rw[e1,e2]
  obtain⟨q,t,r,hx,ht,hr⟩: ∃q t r:Int,x=16777216*q+8388608*t+r∧(t=0∨t=1)∧0≤r∧r<8388608:=⟨x/16777216,x/8388608%2,x%8388608,by omega,by omega,by omega,by omega⟩
  have hq:0≤q∧q<256:=by omega
  obtain⟨s,hs⟩: ∃s,s=r*256+q:=⟨_,rfl⟩
  have hs1:0≤s∧s<2147483648:=by omega
  have g0:(8388608*0+r)*256+q=s:=by omega
  have g1:(8388608*1+r)*256+q=2147483648+s:=by omega
  have g2:r*512+(2*q+0)=2*s:=by omega
  have g3:r*512+(2*q+1)=2*s+1:=by omega
  have f1:x%16777216=8388608*t+r:=by omega
  have f2:x/16777216=q:=by omega
  have f3:x%8388608=r:=by omega
  have f4:x/8388608=2*q+t:=by omega
  rw[f1,f2,f3,f4]
  rcases ht with rfl|rfl
  ·rw[g0,g2];clear g0 g1 g2 g3 f1 f2 f3 f4 e1 e2 hs hx hr hq;omega
  ·rw[g1,g3];clear g0 g1 g2 g3 f1 f2 f3 f4 e1 e2 hs hx hr hq;omega
 ·simp only[turnP,Nat.reduceSub,Nat.reduceAdd,Int.reducePow]
  have e1:x*512%4294967296=x%8388608*512:=by omega
  have e2:x*1024%4294967296=x%4194304*1024:=by omega
  rw[e1,e2]
  obtain⟨q,t,r,hx,ht,hr⟩: ∃q t r:Int,x=8388608*q+4194304*t+r∧(t=0∨t=1)∧0≤r∧r<4194304:=⟨x/8388608,x/4194304%2,x%4194304,by omega,by omega,by omega,by omega⟩
  have hq:0≤q∧q<512:=by omega
  obtain⟨s,hs⟩: ∃s,s=r*512+q:=⟨_,rfl⟩
  have hs1:0≤s∧s<2147483648:=by omega
  have g0:(4194304*0+r)*512+q=s:=by omega
  have g1:(4194304*1+r)*512+q=2147483648+s:=by omega
  have g2:r*1024+(2*q+0)=2*s:=by omega
  have g3:r*1024+(2*q+1)=2*s+1:=by omega
  have f1:x%8388608=4194304*t+r:=by omega
  have f2:x/8388608=q:=by omega
  have f3:x%4194304=r:=by omega
  have f4:x/4194304=2*q+t:=by omega
  rw[f1,f2,f3,f4]
  rcases ht with rfl|rfl
  ·rw[g0,g2];clear g0 g1 g2 g3 f1 f2 f3 f4 e1 e2 hs hx hr hq;omega
  ·rw[g1,g3];clear g0 g1 g2 g3 f1 f2 f3 f4 e1 e2 hs hx hr hq;omega
 ·simp only[turnP,Nat.reduceSub,Nat.reduceAdd,Int.reducePow]
  have e1:x*1024%4294967296=x%4194304*1024:=by omega
  have e2:x*2048%4294967296=x%2097152*2048:=by omega
  rw[e1,e2]
  obtain⟨q,t,r,hx,ht,hr⟩: ∃q t r:Int,x=4194304*q+2097152*t+r∧(t=0∨t=1)∧0≤r∧r<2097152:=⟨x/4194304,x/2097152%2,x%2097152,by omega,by omega,by omega,by omega⟩
  have hq:0≤q∧q<1024:=by omega
  obtain⟨s,hs⟩: ∃s,s=r*1024+q:=⟨_,rfl⟩
  have hs1:0≤s∧s<2147483648:=by omega
  have g0:(2097152*0+r)*1024+q=s:=by omega
  have g1:(2097152*1+r)*1024+q=2147483648+s:=by omega
  have g2:r*2048+(2*q+0)=2*s:=by omega
  have g3:r*2048+(2*q+1)=2*s+1:=by omega
  have f1:x%4194304=2097152*t+r:=by omega
  have f2:x/4194304=q:=by omega
  have f3:x%2097152=r:=by omega
  have f4:x/2097152=2*q+t:=by omega
  rw[f1,f2,f3,f4]
  rcases ht with rfl|rfl
  ·rw[g0,g2];clear g0 g1 g2 g3 f1 f2 f3 f4 e1 e2 hs hx hr hq;omega
  ·rw[g1,g3];clear g0 g1 g2 g3 f1 f2 f3 f4 e1 e2 hs hx hr hq;omega
 ·simp only[turnP,Nat.reduceSub,Nat.reduceAdd,Int.reducePow]
  have e1:x*2048%4294967296=x%2097152*2048:=by omega
  have e2:x*4096%4294967296=x%1048576*4096:=by omega
  rw[e1,e2]
  obtain⟨q,t,r,hx,ht,hr⟩: ∃q t r:Int,x=2097152*q+1048576*t+r∧(t=0∨t=1)∧0≤r∧r<1048576:=⟨x/2097152,x/1048576%2,x%1048576,by omega,by omega,by omega,by omega⟩
  have hq:0≤q∧q<2048:=by omega
  obtain⟨s,hs⟩: ∃s,s=r*2048+q:=⟨_,rfl⟩
  have hs1:0≤s∧s<2147483648:=by omega
  have g0:(1048576*0+r)*2048+q=s:=by omega
  have g1:(1048576*1+r)*2048+q=2147483648+s:=by omega
  have g2:r*4096+(2*q+0)=2*s:=by omega
  have g3:r*4096+(2*q+1)=2*s+1:=by omega
  have f1:x%2097152=1048576*t+r:=by omega
  have f2:x/2097152=q:=by omega
  have f3:x%1048576=r:=by omega
  have f4:x/1048576=2*q+t:=by omega
  rw[f1,f2,f3,f4]
  rcases ht with rfl|rfl
  ·rw[g0,g2];clear g0 g1 g2 g3 f1 f2 f3 f4 e1 e2 hs hx hr hq;omega
  ·rw[g1,g3];clear g0 g1 g2 g3 f1 f2 f3 f4 e1 e2 hs hx hr hq;omega
 ·simp only[turnP,Nat.reduceSub,Nat.reduceAdd,Int.reducePow]
  have e1:x*4096%4294967296=x%1048576*4096:=by omega
  have e2:x*8192%4294967296=x%524288*8192:=by omega
  rw[e1,e2]
  obtain⟨q,t,r,hx,ht,hr⟩: ∃q t r:Int,x=1048576*q+524288*t+r∧(t=0∨t=1)∧0≤r∧r<524288:=⟨x/1048576,x/524288%2,x%524288,by omega,by omega,by omega,by omega⟩
  have hq:0≤q∧q<4096:=by omega
  obtain⟨s,hs⟩: ∃s,s=r*4096+q:=⟨_,rfl⟩
  have hs1:0≤s∧s<2147483648:=by omega
  have g0:(524288*0+r)*4096+q=s:=by omega
  have g1:(524288*1+r)*4096+q=2147483648+s:=by omega
  have g2:r*8192+(2*q+0)=2*s:=by omega
  have g3:r*8192+(2*q+1)=2*s+1:=by omega
  have f1:x%1048576=524288*t+r:=by omega
  have f2:x/1048576=q:=by omega
  have f3:x%524288=r:=by omega
  have f4:x/524288=2*q+t:=by omega
  rw[f1,f2,f3,f4]
  rcases ht with rfl|rfl
  ·rw[g0,g2];clear g0 g1 g2 g3 f1 f2 f3 f4 e1 e2 hs hx hr hq;omega
  ·rw[g1,g3];clear g0 g1 g2 g3 f1 f2 f3 f4 e1 e2 hs hx hr hq;omega
 ·simp only[turnP,Nat.reduceSub,Nat.reduceAdd,Int.reducePow]
  have e1:x*8192%4294967296=x%524288*8192:=by omega
  have e2:x*16384%4294967296=x%262144*16384:=by omega
  rw[e1,e2]
  obtain⟨q,t,r,hx,ht,hr⟩: ∃q t r:Int,x=524288*q+262144*t+r∧(t=0∨t=1)∧0≤r∧r<262144:=⟨x/524288,x/262144%2,x%262144,by omega,by omega,by omega,by omega⟩
  have hq:0≤q∧q<8192:=by omega
  obtain⟨s,hs⟩: ∃s,s=r*8192+q:=⟨_,rfl⟩
  have hs1:0≤s∧s<2147483648:=by omega
  have g0:(262144*0+r)*8192+q=s:=by omega
  have g1:(262144*1+r)*8192+q=2147483648+s:=by omega
  have g2:r*16384+(2*q+0)=2*s:=by omega
  have g3:r*16384+(2*q+1)=2*s+1:=by omega
  have f1:x%524288=262144*t+r:=by omega
  have f2:x/524288=q:=by omega
  have f3:x%262144=r:=by omega
  have f4:x/262144=2*q+t:=by omega
  rw[f1,f2,f3,f4]
  rcases ht with rfl|rfl
  ·rw[g0,g2];clear g0 g1 g2 g3 f1 f2 f3 f4 e1 e2 hs hx hr hq;omega
  ·rw[g1,g3];clear g0 g1 g2 g3 f1 f2 f3 f4 e1 e2 hs hx hr hq;omega
 ·simp only[turnP,Nat.reduceSub,Nat.reduceAdd,Int.reducePow]
  have e1:x*16384%4294967296=x%262144*16384:=by omega
  have e2:x*32768%4294967296=x%131072*32768:=by omega
  rw[e1,e2]
  obtain⟨q,t,r,hx,ht,hr⟩: ∃q t r:Int,x=262144*q+131072*t+r∧(t=0∨t=1)∧0≤r∧r<131072:=⟨x/262144,x/131072%2,x%131072,by omega,by omega,by omega,by omega⟩
  have hq:0≤q∧q<16384:=by omega
  obtain⟨s,hs⟩: ∃s,s=r*16384+q:=⟨_,rfl⟩
  have hs1:0≤s∧s<2147483648:=by omega
  have g0:(131072*0+r)*16384+q=s:=by omega
  have g1:(131072*1+r)*16384+q=2147483648+s:=by omega
  have g2:r*32768+(2*q+0)=2*s:=by omega
  have g3:r*32768+(2*q+1)=2*s+1:=by omega
  have f1:x%262144=131072*t+r:=by omega
  have f2:x/262144=q:=by omega
  have f3:x%131072=r:=by omega
  have f4:x/131072=2*q+t:=by omega
  rw[f1,f2,f3,f4]
  rcases ht with rfl|rfl
  ·rw[g0,g2];clear g0 g1 g2 g3 f1 f2 f3 f4 e1 e2 hs hx hr hq;omega
  ·rw[g1,g3];clear g0 g1 g2 g3 f1 f2 f3 f4 e1 e2 hs hx hr hq;omega
 ·simp only[turnP,Nat.reduceSub,Nat.reduceAdd,Int.reducePow]
  have e1:x*32768%4294967296=x%131072*32768:=by omega
  have e2:x*65536%4294967296=x%65536*65536:=by omega
  rw[e1,e2]
  obtain⟨q,t,r,hx,ht,hr⟩: ∃q t r:Int,x=131072*q+65536*t+r∧(t=0∨t=1)∧0≤r∧r<65536:=⟨x/131072,x/65536%2,x%65536,by omega,by omega,by omega,by omega⟩
  have hq:0≤q∧q<32768:=by omega
  obtain⟨s,hs⟩: ∃s,s=r*32768+q:=⟨_,rfl⟩
  have hs1:0≤s∧s<2147483648:=by omega
  have g0:(65536*0+r)*32768+q=s:=by omega
  have g1:(65536*1+r)*32768+q=2147483648+s:=by omega
  have g2:r*65536+(2*q+0)=2*s:=by omega
  have g3:r*65536+(2*q+1)=2*s+1:=by omega
  have f1:x%131072=65536*t+r:=by omega
  have f2:x/131072=q:=by omega
  have f3:x%65536=r:=by omega
  have f4:x/65536=2*q+t:=by omega
  rw[f1,f2,f3,f4]
  rcases ht with rfl|rfl
  ·rw[g0,g2];clear g0 g1 g2 g3 f1 f2 f3 f4 e1 e2 hs hx hr hq;omega
  ·rw[g1,g3];clear g0 g1 g2 g3 f1 f2 f3 f4 e1 e2 hs hx hr hq;omega
 ·simp only[turnP,Nat.reduceSub,Nat.reduceAdd,Int.reducePow]
  have e1:x*65536%4294967296=x%65536*65536:=by omega
  have e2:x*131072%4294967296=x%32768*131072:=by omega
  rw[e1,e2]
  obtain⟨q,t,r,hx,ht,hr⟩: ∃q t r:Int,x=65536*q+32768*t+r∧(t=0∨t=1)∧0≤r∧r<32768:=⟨x/65536,x/32768%2,x%32768,by omega,by omega,by omega,by omega⟩
  have hq:0≤q∧q<65536:=by omega
  obtain⟨s,hs⟩: ∃s,s=r*65536+q:=⟨_,rfl⟩
  have hs1:0≤s∧s<2147483648:=by omega
  have g0:(32768*0+r)*65536+q=s:=by omega
  have g1:(32768*1+r)*65536+q=2147483648+s:=by omega
  have g2:r*131072+(2*q+0)=2*s:=by omega
  have g3:r*131072+(2*q+1)=2*s+1:=by omega
  have f1:x%65536=32768*t+r:=by omega
  have f2:x/65536=q:=by omega
  have f3:x%32768=r:=by omega
  have f4:x/32768=2*q+t:=by omega
  rw[f1,f2,f3,f4]
  rcases ht with rfl|rfl
  ·rw[g0,g2];clear g0 g1 g2 g3 f1 f2 f3 f4 e1 e2 hs hx hr hq;omega
  ·rw[g1,g3];clear g0 g1 g2 g3 f1 f2 f3 f4 e1 e2 hs hx hr hq;omega
 ·simp only[turnP,Nat.reduceSub,Nat.reduceAdd,Int.reducePow]
  have e1:x*131072%4294967296=x%32768*131072:=by omega
  have e2:x*262144%4294967296=x%16384*262144:=by omega
  rw[e1,e2]
  obtain⟨q,t,r,hx,ht,hr⟩: ∃q t r:Int,x=32768*q+16384*t+r∧(t=0∨t=1)∧0≤r∧r<16384:=⟨x/32768,x/16384%2,x%16384,by omega,by omega,by omega,by omega⟩
  have hq:0≤q∧q<131072:=by omega
  obtain⟨s,hs⟩: ∃s,s=r*131072+q:=⟨_,rfl⟩
  have hs1:0≤s∧s<2147483648:=by omega
  have g0:(16384*0+r)*131072+q=s:=by omega
  have g1:(16384*1+r)*131072+q=2147483648+s:=by omega
  have g2:r*262144+(2*q+0)=2*s:=by omega
  have g3:r*262144+(2*q+1)=2*s+1:=by omega
  have f1:x%32768=16384*t+r:=by omega
  have f2:x/32768=q:=by omega
  have f3:x%16384=r:=by omega
  have f4:x/16384=2*q+t:=by omega
  rw[f1,f2,f3,f4]
  rcases ht with rfl|rfl
  ·rw[g0,g2];clear g0 g1 g2 g3 f1 f2 f3 f4 e1 e2 hs hx hr hq;omega
  ·rw[g1,g3];clear g0 g1 g2 g3 f1 f2 f3 f4 e1 e2 hs hx hr hq;omega
theorem turnP_zero {x:Int}(h:U x):turnP x 0=x:=by
 unfold U at h;simp only[turnP,Nat.reduceSub,Int.reducePow];omega
theorem d78_7 (x:Int)(h:U x):(lim Tryz.prog E47 X46).dat 82 [uv x,iv 7]=some [uv (turnP x 7)]:=by
 refine fnW Tryz.func82 rfl rfl bodyOk_82 rfl rtys_82 rfl ?_
 have h88:=d88_7 x h
 clear h
 repeat' (first|(refine ZN ?_)|(refine Z2 ?_ ?_)|(intro h h';try simp[*,-h] at h'))
 all_goals rfl
theorem d76_7 (x:Int)(h:U x):(lim Tryz.prog E47 X46).dat 75 [uv x,iv 7]=some [uv (turnP x 7)]:=by
 refine fnW Tryz.func75 rfl rfl bodyOk_75 rfl rtys_75 rfl ?_
 have hx0:IntKind.u64.wrap x=x:=by rw[IntKind.wrap_u64];unfold U at h;omega
 have hh:=Lib.hid h
 clear h
 repeat' (first|(refine ZN ?_)|(refine Z2 ?_ ?_)|(intro h h';try simp[*,-h] at h'))
 refine W_loopS (n:=7) (fun s0 m s=> ∃i:Nat,m=7 - i∧i≤7∧s.fr 7=iv i∧s.fr 6= .sc (.int .u64 (turnP x i))∧s.fr 5=s0.fr 5) ⟨0,by simp,by omega,by simp,by simp[turnP_zero hh.out,hx0],by simp⟩ ?_
 rintro m ⟨fr,hp⟩ ⟨i,rfl,hi,hs7,hs6,hs5⟩
 simp at hs7 hs6 hs5
 have hy:=turnP_U hh.out i (by omega)
 by_cases hlt:i<7
 ·have hw:=wrapN (k:=i) (by omega)
  have hlI:(i:Int)<7:=by omega
  have hst:=Lib.hid (turnP_step hh.out i (by omega))
  generalize turnP x i=y at*
  have m1:IntKind.u64.wrap (2*y)=2*y:=by rw[IntKind.wrap_u64];unfold U at hy;omega
  have m2:(2*y).tmod 4294967296=2*y%4294967296:=Int.tmod_eq_emod_of_nonneg (by unfold U at hy;omega)
  have m3:y.tdiv 2147483648=y/2147483648:=Int.tdiv_eq_ediv_of_nonneg hy.1
  have m4:IntKind.u64.wrap (y/2147483648)=y/2147483648:=by rw[IntKind.wrap_u64];unfold U at hy;omega
  have m5:IntKind.u64.wrap (2*y%4294967296+y/2147483648)=2*y%4294967296+y/2147483648:=by rw[IntKind.wrap_u64];unfold U at hy;omega
  clear hy
  repeat' (first|(refine ZN ?_)|(refine Z2 ?_ ?_)|(intro h h';try simp[*,-h] at h'))
  all_goals exact⟨_,by omega,i+1,rfl,hlt,by simp[*],by rw[←hst.out];simp[*],by simp[*]⟩
 ·obtain rfl:i=7:=by omega
  have m1:IntKind.u32.wrap (turnP x 7)=turnP x 7:=by rw[IntKind.wrap_u32];unfold U at hy;omega
  clear hy
  repeat' (first|(refine ZN ?_)|(refine Z2 ?_ ?_)|(intro h h';try simp[*,-h] at h'))
  all_goals rfl
theorem d78_9 (x:Int)(h:U x):(lim Tryz.prog E47 X46).dat 82 [uv x,iv 9]=some [uv (turnP x 9)]:=by
 refine fnW Tryz.func82 rfl rfl bodyOk_82 rfl rtys_82 rfl ?_
 have h88:=d88_9 x h
 clear h
 repeat' (first|(refine ZN ?_)|(refine Z2 ?_ ?_)|(intro h h';try simp[*,-h] at h'))
 all_goals rfl
theorem d76_9 (x:Int)(h:U x):(lim Tryz.prog E47 X46).dat 75 [uv x,iv 9]=some [uv (turnP x 9)]:=by
 refine fnW Tryz.func75 rfl rfl bodyOk_75 rfl rtys_75 rfl ?_
 have hx0:IntKind.u64.wrap x=x:=by rw[IntKind.wrap_u64];unfold U at h;omega
 have hh:=Lib.hid h
 clear h
 repeat' (first|(refine ZN ?_)|(refine Z2 ?_ ?_)|(intro h h';try simp[*,-h] at h'))
 refine W_loopS (n:=9) (fun s0 m s=> ∃i:Nat,m=9 - i∧i≤9∧s.fr 7=iv i∧s.fr 6= .sc (.int .u64 (turnP x i))∧s.fr 5=s0.fr 5) ⟨0,by simp,by omega,by simp,by simp[turnP_zero hh.out,hx0],by simp⟩ ?_
 rintro m ⟨fr,hp⟩ ⟨i,rfl,hi,hs7,hs6,hs5⟩
 simp at hs7 hs6 hs5
 have hy:=turnP_U hh.out i (by omega)
 by_cases hlt:i<9
 ·have hw:=wrapN (k:=i) (by omega)
  have hlI:(i:Int)<9:=by omega
  have hst:=Lib.hid (turnP_step hh.out i (by omega))
  generalize turnP x i=y at*
  have m1:IntKind.u64.wrap (2*y)=2*y:=by rw[IntKind.wrap_u64];unfold U at hy;omega
  have m2:(2*y).tmod 4294967296=2*y%4294967296:=Int.tmod_eq_emod_of_nonneg (by unfold U at hy;omega)
  have m3:y.tdiv 2147483648=y/2147483648:=Int.tdiv_eq_ediv_of_nonneg hy.1
  have m4:IntKind.u64.wrap (y/2147483648)=y/2147483648:=by rw[IntKind.wrap_u64];unfold U at hy;omega
  have m5:IntKind.u64.wrap (2*y%4294967296+y/2147483648)=2*y%4294967296+y/2147483648:=by rw[IntKind.wrap_u64];unfold U at hy;omega
  clear hy
  repeat' (first|(refine ZN ?_)|(refine Z2 ?_ ?_)|(intro h h';try simp[*,-h] at h'))
  all_goals exact⟨_,by omega,i+1,rfl,hlt,by simp[*],by rw[←hst.out];simp[*],by simp[*]⟩
 ·obtain rfl:i=9:=by omega
  have m1:IntKind.u32.wrap (turnP x 9)=turnP x 9:=by rw[IntKind.wrap_u32];unfold U at hy;omega
  clear hy
  repeat' (first|(refine ZN ?_)|(refine Z2 ?_ ?_)|(intro h h';try simp[*,-h] at h'))
  all_goals rfl
theorem d78_13 (x:Int)(h:U x):(lim Tryz.prog E47 X46).dat 82 [uv x,iv 13]=some [uv (turnP x 13)]:=by
 refine fnW Tryz.func82 rfl rfl bodyOk_82 rfl rtys_82 rfl ?_
 have h88:=d88_13 x h
 clear h
 repeat' (first|(refine ZN ?_)|(refine Z2 ?_ ?_)|(intro h h';try simp[*,-h] at h'))
 all_goals rfl
theorem d76_13 (x:Int)(h:U x):(lim Tryz.prog E47 X46).dat 75 [uv x,iv 13]=some [uv (turnP x 13)]:=by
 refine fnW Tryz.func75 rfl rfl bodyOk_75 rfl rtys_75 rfl ?_
 have hx0:IntKind.u64.wrap x=x:=by rw[IntKind.wrap_u64];unfold U at h;omega
 have hh:=Lib.hid h
 clear h
 repeat' (first|(refine ZN ?_)|(refine Z2 ?_ ?_)|(intro h h';try simp[*,-h] at h'))
 refine W_loopS (n:=13) (fun s0 m s=> ∃i:Nat,m=13 - i∧i≤13∧s.fr 7=iv i∧s.fr 6= .sc (.int .u64 (turnP x i))∧s.fr 5=s0.fr 5) ⟨0,by simp,by omega,by simp,by simp[turnP_zero hh.out,hx0],by simp⟩ ?_
 rintro m ⟨fr,hp⟩ ⟨i,rfl,hi,hs7,hs6,hs5⟩
 simp at hs7 hs6 hs5
 have hy:=turnP_U hh.out i (by omega)
 by_cases hlt:i<13
 ·have hw:=wrapN (k:=i) (by omega)
  have hlI:(i:Int)<13:=by omega
  have hst:=Lib.hid (turnP_step hh.out i (by omega))
  generalize turnP x i=y at*
  have m1:IntKind.u64.wrap (2*y)=2*y:=by rw[IntKind.wrap_u64];unfold U at hy;omega
  have m2:(2*y).tmod 4294967296=2*y%4294967296:=Int.tmod_eq_emod_of_nonneg (by unfold U at hy;omega)
  have m3:y.tdiv 2147483648=y/2147483648:=Int.tdiv_eq_ediv_of_nonneg hy.1
  have m4:IntKind.u64.wrap (y/2147483648)=y/2147483648:=by rw[IntKind.wrap_u64];unfold U at hy;omega
  have m5:IntKind.u64.wrap (2*y%4294967296+y/2147483648)=2*y%4294967296+y/2147483648:=by rw[IntKind.wrap_u64];unfold U at hy;omega
  clear hy
  repeat' (first|(refine ZN ?_)|(refine Z2 ?_ ?_)|(intro h h';try simp[*,-h] at h'))
  all_goals exact⟨_,by omega,i+1,rfl,hlt,by simp[*],by rw[←hst.out];simp[*],by simp[*]⟩
 ·obtain rfl:i=13:=by omega
  have m1:IntKind.u32.wrap (turnP x 13)=turnP x 13:=by rw[IntKind.wrap_u32];unfold U at hy;omega
  clear hy
  repeat' (first|(refine ZN ?_)|(refine Z2 ?_ ?_)|(intro h h';try simp[*,-h] at h'))
  all_goals rfl
theorem d78_18 (x:Int)(h:U x):(lim Tryz.prog E47 X46).dat 82 [uv x,iv 18]=some [uv (turnP x 18)]:=by
 refine fnW Tryz.func82 rfl rfl bodyOk_82 rfl rtys_82 rfl ?_
 have h88:=d88_18 x h
 clear h
 repeat' (first|(refine ZN ?_)|(refine Z2 ?_ ?_)|(intro h h';try simp[*,-h] at h'))
 all_goals rfl
theorem d76_18 (x:Int)(h:U x):(lim Tryz.prog E47 X46).dat 75 [uv x,iv 18]=some [uv (turnP x 18)]:=by
 refine fnW Tryz.func75 rfl rfl bodyOk_75 rfl rtys_75 rfl ?_
 have hx0:IntKind.u64.wrap x=x:=by rw[IntKind.wrap_u64];unfold U at h;omega
 have hh:=Lib.hid h
 clear h
 repeat' (first|(refine ZN ?_)|(refine Z2 ?_ ?_)|(intro h h';try simp[*,-h] at h'))
 refine W_loopS (n:=18) (fun s0 m s=> ∃i:Nat,m=18 - i∧i≤18∧s.fr 7=iv i∧s.fr 6= .sc (.int .u64 (turnP x i))∧s.fr 5=s0.fr 5) ⟨0,by simp,by omega,by simp,by simp[turnP_zero hh.out,hx0],by simp⟩ ?_
 rintro m ⟨fr,hp⟩ ⟨i,rfl,hi,hs7,hs6,hs5⟩
 simp at hs7 hs6 hs5
 have hy:=turnP_U hh.out i (by omega)
 by_cases hlt:i<18
 ·have hw:=wrapN (k:=i) (by omega)
  have hlI:(i:Int)<18:=by omega
  have hst:=Lib.hid (turnP_step hh.out i (by omega))
  generalize turnP x i=y at*
  have m1:IntKind.u64.wrap (2*y)=2*y:=by rw[IntKind.wrap_u64];unfold U at hy;omega
  have m2:(2*y).tmod 4294967296=2*y%4294967296:=Int.tmod_eq_emod_of_nonneg (by unfold U at hy;omega)
  have m3:y.tdiv 2147483648=y/2147483648:=Int.tdiv_eq_ediv_of_nonneg hy.1
  have m4:IntKind.u64.wrap (y/2147483648)=y/2147483648:=by rw[IntKind.wrap_u64];unfold U at hy;omega
  have m5:IntKind.u64.wrap (2*y%4294967296+y/2147483648)=2*y%4294967296+y/2147483648:=by rw[IntKind.wrap_u64];unfold U at hy;omega
  clear hy
  repeat' (first|(refine ZN ?_)|(refine Z2 ?_ ?_)|(intro h h';try simp[*,-h] at h'))
  all_goals exact⟨_,by omega,i+1,rfl,hlt,by simp[*],by rw[←hst.out];simp[*],by simp[*]⟩
 ·obtain rfl:i=18:=by omega
  have m1:IntKind.u32.wrap (turnP x 18)=turnP x 18:=by rw[IntKind.wrap_u32];unfold U at hy;omega
  clear hy
  repeat' (first|(refine ZN ?_)|(refine Z2 ?_ ?_)|(intro h h';try simp[*,-h] at h'))
  all_goals rfl
end
section
open Go Go.Ab
attribute [-simp] Prog.bind getCs putCs
attribute [local simp ↓] run_bind
attribute [local simp ↓] runF_bind
attribute [local simp] run_getCsN runF_getCsN facetsC putCs_one run_putCsN runF_putCsN facetsW facetsH
attribute [local simp ↓] evInt_xor evInt_or evInt_and64
@[simp] theorem wrap_3 :IntKind.i64.wrap 3=3:=by decide+kernel
@[simp] theorem wrap_4 :IntKind.i64.wrap 4=4:=by decide+kernel
@[simp] theorem wrap_5 :IntKind.i64.wrap 5=5:=by decide+kernel
@[simp] theorem wrap_6 :IntKind.i64.wrap 6=6:=by decide+kernel
@[simp] theorem wrap_7 :IntKind.i64.wrap 7=7:=by decide+kernel
@[simp] theorem wrap_8 :IntKind.i64.wrap 8=8:=by decide+kernel
@[simp] theorem wrap_9 :IntKind.i64.wrap 9=9:=by decide+kernel
@[simp] theorem wrap_10 :IntKind.i64.wrap 10=10:=by decide+kernel
@[simp] theorem wrap_11 :IntKind.i64.wrap 11=11:=by decide+kernel
@[simp] theorem wrap_12 :IntKind.i64.wrap 12=12:=by decide+kernel
attribute [local simp] globT
structure S8 where
 a0:Int
 a1:Int
 a2:Int
 a3:Int
 a4:Int
 a5:Int
 a6:Int
 a7:Int
abbrev wrapU (x:Int):Int:=IntKind.u32.wrap x
def rnd (k:Int)(s:S8):S8:=
 ⟨wrapU (s.a3+s.a7),turnP (xorW s.a4 (wrapU (wrapU (s.a0+wrapU (2654435769*(k+1)))+s.a4))) 7,turnP (xorW s.a5 (wrapU (s.a1+s.a5))) 9,turnP (xorW s.a6 (wrapU (s.a2+s.a6))) 13,
  turnP (xorW s.a7 (wrapU (s.a3+s.a7))) 18,wrapU (wrapU (s.a0+wrapU (2654435769*(k+1)))+s.a4),wrapU (s.a1+s.a5),wrapU (s.a2+s.a6)⟩
def mixN :Nat→S8→S8
 |0,s=>s
 |k+1,s=>rnd k (mixN k s)
def S8.row (s:S8):List AV:=[uv s.a0,uv s.a1,uv s.a2,uv s.a3,uv s.a4,uv s.a5,uv s.a6,uv s.a7]
theorem d66 (s:S8):(lim Tryz.prog E47 X46).dat 68 [.agg s.row]=some [.agg (mixN 8 s).row]:=by
 refine fnW Tryz.func68 rfl rfl bodyOk_68 rfl rtys_68 rfl ?_
 have t7: ∀a b,(lim Tryz.prog E47 X46).dat 82 [uv (xorW a b),iv 7]=some [uv (turnP (xorW a b) 7)]:=fun a b=>d78_7 _ (xorW_U a b)
 have t9: ∀a b,(lim Tryz.prog E47 X46).dat 82 [uv (xorW a b),iv 9]=some [uv (turnP (xorW a b) 9)]:=fun a b=>d78_9 _ (xorW_U a b)
 have t13: ∀a b,(lim Tryz.prog E47 X46).dat 82 [uv (xorW a b),iv 13]=some [uv (turnP (xorW a b) 13)]:=fun a b=>d78_13 _ (xorW_U a b)
 have t18: ∀a b,(lim Tryz.prog E47 X46).dat 82 [uv (xorW a b),iv 18]=some [uv (turnP (xorW a b) 18)]:=fun a b=>d78_18 _ (xorW_U a b)
 unfold S8.row
 repeat' (first|(refine ZN ?_)|(refine Z2 ?_ ?_)|(intro h h';try simp[*,-h] at h'))
 refine W_loopS (n:=8) (fun s0 m q=> ∃k:Nat,m=8 - k∧k≤8∧q.fr 3=uv k∧q.hp ⟨0,1,0⟩= .box 1 (mixN k s).row false∧q.fr 1=s0.fr 1∧q.fr 2=s0.fr 2∧q.hp ⟨0,2,0⟩=s0.hp ⟨0,2,0⟩) ⟨0,by simp,by omega,by simp,by simp[mixN,S8.row],by simp,by simp,by simp⟩ ?_
 rintro m ⟨fr,hp⟩ ⟨k,rfl,hk,hs,hh1,hk1,hk2,hh2⟩
 simp at hs hk1 hk2 hh2
 simp only at hh1
 by_cases hlt:k<8
 ·have hw:IntKind.u32.wrap ((k:Int)+1)=(k:Int)+1:=by rw[IntKind.wrap_u32];omega
  have hlI:(k:Int)<8:=by omega
  have hm:mixN (k+1) s=rnd k (mixN k s):=rfl
  have hm':=Lib.hid hm
  clear hm
  generalize mixN k s=z at*
  obtain⟨x0,x1,x2,x3,x4,x5,x6,x7⟩:=z
  simp only[S8.row] at hh1
  repeat' (first|(refine ZN ?_)|(refine Z2 ?_ ?_)|(intro h h';try simp[*,-h] at h')|with_reducible apply W_unroll|fail)
  all_goals exact⟨_,by omega,k+1,rfl,hlt,by simp[*],by rw[hm'.out];simp[S8.row,rnd],by simp[*],by simp[*],by simp[*]⟩
 ·obtain rfl:k=8:=by omega
  generalize mixN 8 s=z at*
  obtain⟨x0,x1,x2,x3,x4,x5,x6,x7⟩:=z
  simp only[S8.row] at hh1
  repeat' (first|(refine ZN ?_)|(refine Z2 ?_ ?_)|(intro h h';try simp[*,-h] at h'))
  all_goals rfl
theorem d75 :(lim Tryz.prog E47 X46).dat 74 []=some [.agg [iv 7,iv 9,iv 13,iv 18]]:=lim_dat.2 ⟨10,by kernel_rfl⟩
theorem d60 (s:S8):(lim Tryz.prog E47 X46).dat 62 [.agg s.row]=some [.agg (mixN 8 s).row]:=by
 refine fnW Tryz.func62 rfl rfl bodyOk_62 rfl rtys_62 rfl ?_
 have t7: ∀a b,(lim Tryz.prog E47 X46).dat 75 [uv (xorW a b),iv 7]=some [uv (turnP (xorW a b) 7)]:=fun a b=>d76_7 _ (xorW_U a b)
 have t9: ∀a b,(lim Tryz.prog E47 X46).dat 75 [uv (xorW a b),iv 9]=some [uv (turnP (xorW a b) 9)]:=fun a b=>d76_9 _ (xorW_U a b)
 have t13: ∀a b,(lim Tryz.prog E47 X46).dat 75 [uv (xorW a b),iv 13]=some [uv (turnP (xorW a b) 13)]:=fun a b=>d76_13 _ (xorW_U a b)
 have t18: ∀a b,(lim Tryz.prog E47 X46).dat 75 [uv (xorW a b),iv 18]=some [uv (turnP (xorW a b) 18)]:=fun a b=>d76_18 _ (xorW_U a b)
 have h75:=d75
 unfold S8.row
 repeat' (first|(refine ZN ?_)|(refine Z2 ?_ ?_)|(intro h h';try simp[*,-h] at h'))
 refine W_loopS (n:=8) (fun s0 m q=> ∃k:Nat,m=8 - k∧k≤8∧q.fr 4=iv k∧q.hp ⟨0,1,0⟩= .box 1 (mixN k s).row false∧q.fr 1=s0.fr 1∧q.fr 2=s0.fr 2∧q.hp ⟨0,2,0⟩=s0.hp ⟨0,2,0⟩∧q.fr 3=s0.fr 3∧q.hp ⟨0,3,0⟩=s0.hp ⟨0,3,0⟩) ⟨0,by simp,by omega,by simp,by simp[mixN,S8.row],by simp,by simp,by simp,by simp,by simp⟩ ?_
 rintro m ⟨fr,hp⟩ ⟨k,rfl,hk,hs,hh1,hk1,hk2,hh2,hk3,hh3⟩
 simp at hs hk1 hk2 hh2 hk3 hh3
 simp only at hh1
 by_cases hlt:k<8
 ·have hw:IntKind.u32.wrap ((k:Int)+1)=(k:Int)+1:=by rw[IntKind.wrap_u32];omega
  have hw2:=wrapN (k:=k) (by omega)
  have hlI:(k:Int)<8:=by omega
  have hm:mixN (k+1) s=rnd k (mixN k s):=rfl
  have hm':=Lib.hid hm
  clear hm
  generalize mixN k s=z at*
  obtain⟨x0,x1,x2,x3,x4,x5,x6,x7⟩:=z
  simp only[S8.row] at hh1
  repeat' (first|(refine ZN ?_)|(refine Z2 ?_ ?_)|(intro h h';try simp[*,-h] at h')|with_reducible apply W_unroll|fail)
  all_goals exact⟨_,by omega,k+1,rfl,hlt,by simp[*],by rw[hm'.out];simp[S8.row,rnd],by simp[*],by simp[*],by simp[*],by simp[*],by simp[*]⟩
 ·obtain rfl:k=8:=by omega
  generalize mixN 8 s=z at*
  obtain⟨x0,x1,x2,x3,x4,x5,x6,x7⟩:=z
  simp only[S8.row] at hh1
  repeat' (first|(refine ZN ?_)|(refine Z2 ?_ ?_)|(intro h h';try simp[*,-h] at h'))
  all_goals rfl
end
end Go.Proofs.YtpedpkegmalgmaaGreatDoor.Q
