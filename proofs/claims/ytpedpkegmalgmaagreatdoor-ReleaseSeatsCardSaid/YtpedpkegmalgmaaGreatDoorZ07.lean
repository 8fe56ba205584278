/- A part of the proof: Qc, Qx, Qd, Qe, Qf, Qh. -/
import Derived.Test.YtpedpkegmalgmaaGreatDoorZ06
import Derived.Lib.Hide
set_option linter.unusedSimpArgs false
set_option linter.unusedVariables false
set_option maxRecDepth 200000
set_option maxHeartbeats 8000000
namespace Go.Proofs.YtpedpkegmalgmaaGreatDoor.Q
section
open Go Go.Ab
attribute [-simp] Prog.bind getCs putCs
attribute [local simp ↓] run_bind
attribute [local simp ↓] runF_bind
attribute [local simp] run_getCsN runF_getCsN facetsC putCs_one run_putCsN runF_putCsN facetsW facetsH
attribute [local simp ↓] evInt_xor evInt_or evInt_and64
structure D4 where
 d0:Int
 d1:Int
 d2:Int
 d3:Int
deriving DecidableEq
def D4.row (d:D4):List AV:=[uv d.d0,uv d.d1,uv d.d2,uv d.d3]
def takeP (s:S8)(b:D4):S8:=mixN 8 ⟨xorW s.a0 b.d0,xorW s.a1 b.d1,xorW s.a2 b.d2,xorW s.a3 b.d3,s.a4,s.a5,s.a6,s.a7⟩
def front (s:S8):D4:=⟨s.a0,s.a1,s.a2,s.a3⟩
def pairP (a b:D4):D4:=front (takeP (takeP ⟨2,0,0,0,0,0,0,0⟩ a) b)
theorem d51 (s:S8)(b:D4):(lim Tryz.prog E47 X46).dat 54 [.agg s.row,.agg b.row]=some [.agg (takeP s b).row]:=by
 refine fnW Tryz.func54 rfl rfl bodyOk_54 rfl rtys_54 rfl ?_
 obtain⟨x0,x1,x2,x3,x4,x5,x6,x7⟩:=s
 obtain⟨b0,b1,b2,b3⟩:=b
 have hm:=d66 ⟨xorW x0 b0,xorW x1 b1,xorW x2 b2,xorW x3 b3,x4,x5,x6,x7⟩
 unfold takeP
 simp only
 generalize mixN 8 ⟨xorW x0 b0,xorW x1 b1,xorW x2 b2,xorW x3 b3,x4,x5,x6,x7⟩=z at*
 obtain⟨z0,z1,z2,z3,z4,z5,z6,z7⟩:=z
 simp only[S8.row] at hm
 simp only[S8.row,D4.row]
 repeat' (first|(refine ZN ?_)|(refine Z2 ?_ ?_)|(intro h h';try simp[*,-h] at h')|with_reducible apply W_unroll|fail)
 all_goals rfl
theorem d45 (s:S8)(b:D4):(lim Tryz.prog E47 X46).dat 47 [.agg s.row,.agg b.row]=some [.agg (takeP s b).row]:=by
 refine fnW Tryz.func47 rfl rfl bodyOk_47 rfl rtys_47 rfl ?_
 obtain⟨x0,x1,x2,x3,x4,x5,x6,x7⟩:=s
 obtain⟨b0,b1,b2,b3⟩:=b
 have hm:=d60 ⟨xorW x0 b0,xorW x1 b1,xorW x2 b2,xorW x3 b3,x4,x5,x6,x7⟩
 unfold takeP
 simp only
 generalize mixN 8 ⟨xorW x0 b0,xorW x1 b1,xorW x2 b2,xorW x3 b3,x4,x5,x6,x7⟩=z at*
 obtain⟨z0,z1,z2,z3,z4,z5,z6,z7⟩:=z
 simp only[S8.row] at hm
 simp only[S8.row,D4.row]
 repeat' (first|(refine ZN ?_)|(refine Z2 ?_ ?_)|(intro h h';try simp[*,-h] at h')|with_reducible apply W_unroll|fail)
 all_goals rfl
theorem d50 (s:S8):(lim Tryz.prog E47 X46).dat 53 [.agg s.row]=some [.agg (front s).row]:=by
 refine fnW Tryz.func53 rfl rfl bodyOk_53 rfl rtys_53 rfl ?_
 obtain⟨x0,x1,x2,x3,x4,x5,x6,x7⟩:=s
 simp only[S8.row,D4.row,front]
 repeat' (first|(refine ZN ?_)|(refine Z2 ?_ ?_)|(intro h h';try simp[*,-h] at h'))
 all_goals rfl
theorem orW_word (a b c d:UInt8):orW (orW (orW (a.toNat:Int) (b.toNat*256)) (c.toNat*65536)) (d.toNat*16777216)=(a.toNat:Int)+256*b.toNat+65536*c.toNat+16777216*d.toNat:=by
 have ha:=a.toNat_lt
 have hb:=b.toNat_lt
 have hc:=c.toNat_lt
 have hd:=d.toNat_lt
 have c1:(b.toNat:Int)*256=((b.toNat*256:Nat):Int):=by omega
 have c2:(c.toNat:Int)*65536=((c.toNat*65536:Nat):Int):=by omega
 have c3:(d.toNat:Int)*16777216=((d.toNat*16777216:Nat):Int):=by omega
 have o1:=or_add (x:=a.toNat) (y:=b.toNat) 8 (by omega)
 have o2:=or_add (x:=a.toNat+b.toNat*256) (y:=c.toNat) 16 (by omega)
 have o3:=or_add (x:=a.toNat+b.toNat*256+c.toNat*65536) (y:=d.toNat) 24 (by omega)
 rw[show(2:Nat)^8=256 from rfl] at o1
 rw[show(2:Nat)^16=65536 from rfl] at o2
 rw[show(2:Nat)^24=16777216 from rfl] at o3
 rw[c1,c2,c3,orW_nat (by omega) (by omega),o1,orW_nat (by omega) (by omega),o2,orW_nat (by omega) (by omega),o3]
 omega
def four (s:ByteArray)(i:Nat):D4:=⟨wordAt s i,wordAt s (i+4),wordAt s (i+8),wordAt s (i+12)⟩
@[simp] theorem shl8 (w:Int):w*2^min 8 IntKind.u32.bits=w*256:=by rw[show(2:Int)^min 8 IntKind.u32.bits=256 from by decide+kernel]
@[simp] theorem shl16 (w:Int):w*2^min 16 IntKind.u32.bits=w*65536:=by rw[show(2:Int)^min 16 IntKind.u32.bits=65536 from by decide+kernel]
@[simp] theorem shl24 (w:Int):w*2^min 24 IntKind.u32.bits=w*16777216:=by rw[show(2:Int)^min 24 IntKind.u32.bits=16777216 from by decide+kernel]
def w4 (s:ByteArray)(i:Nat):Nat→List AV
 |0=>[uv 0,uv 0,uv 0,uv 0]
 |1=>[uv (wordAt s i),uv 0,uv 0,uv 0]
 |2=>[uv (wordAt s i),uv (wordAt s (i+4)),uv 0,uv 0]
 |3=>[uv (wordAt s i),uv (wordAt s (i+4)),uv (wordAt s (i+8)),uv 0]
 |_=>[uv (wordAt s i),uv (wordAt s (i+4)),uv (wordAt s (i+8)),uv (wordAt s (i+12))]
theorem d52 (s:ByteArray)(at_:Nat)(hs:s.size≤1048576)(ha:at_+16≤s.size):(lim Tryz.prog E47 X46).dat 55 [.sc (.string s),iv at_]=some [.agg (four s at_).row]:=by
 refine fnW Tryz.func55 rfl rfl bodyOk_55 rfl rtys_55 rfl ?_
 repeat' (first|(refine ZN ?_)|(refine Z2 ?_ ?_)|(intro h h';try simp[*,-h] at h'))
 refine W_loopS (n:=4) (fun s0 m q=> ∃k:Nat,m=4 - k∧k≤4∧q.fr 8=iv k∧q.hp ⟨0,5,0⟩= .box 1 (w4 s at_ k) false∧q.fr 0=s0.fr 0∧q.fr 1=s0.fr 1∧q.fr 4=s0.fr 4∧q.fr 5=s0.fr 5∧q.hp ⟨0,4,0⟩=s0.hp ⟨0,4,0⟩) ⟨0,by simp,by omega,by simp,by simp[w4],by simp,by simp,by simp,by simp,by simp⟩ ?_
 rintro m ⟨fr,hp⟩ ⟨k,rfl,hk,hs8,hh5,hs0,hs1,hs4,hs5,hh4⟩
 simp at hs8 hs0 hs1 hs4 hs5 hh4
 simp only at hh5
 have hk4:k=0∨k=1∨k=2∨k=3∨k=4:=by omega
 rcases hk4 with rfl|rfl|rfl|rfl|rfl
 ·simp only[w4] at hh5
  obtain⟨b,hb⟩: ∃b:Nat,b=at_+0:=⟨_,rfl⟩
  have wb:IntKind.i64.wrap ((b:Int))=b:=by rw[wrap64 (by omega) (by omega)];try omega
  have wz:at_=b:=by omega
  obtain⟨B0,h0,e0⟩:=byte_data (s:=s) (i:=b) (by omega)
  have v0:=B0.toNat_lt
  have u0:IntKind.u32.wrap (B0.toNat:Int)=B0.toNat:=by rw[IntKind.wrap_u32];omega
  obtain⟨B1,h1,e1⟩:=byte_data (s:=s) (i:=b+1) (by omega)
  have v1:=B1.toNat_lt
  have u1:IntKind.u32.wrap (B1.toNat:Int)=B1.toNat:=by rw[IntKind.wrap_u32];omega
  have w1:IntKind.i64.wrap ((b:Int)+1)=(b:Int)+1:=wrap64 (by omega) (by omega)
  have p1:(0:Int)≤(b:Int)+1:=by omega
  have t1:((b:Int)+1).toNat=b+1:=by omega
  have s1:IntKind.u32.wrap ((B1.toNat:Int)*256)=B1.toNat*256:=by rw[IntKind.wrap_u32];omega
  obtain⟨B2,h2,e2⟩:=byte_data (s:=s) (i:=b+2) (by omega)
  have v2:=B2.toNat_lt
  have u2:IntKind.u32.wrap (B2.toNat:Int)=B2.toNat:=by rw[IntKind.wrap_u32];omega
  have w2:IntKind.i64.wrap ((b:Int)+2)=(b:Int)+2:=wrap64 (by omega) (by omega)
  have p2:(0:Int)≤(b:Int)+2:=by omega
  have t2:((b:Int)+2).toNat=b+2:=by omega
  have s2:IntKind.u32.wrap ((B2.toNat:Int)*65536)=B2.toNat*65536:=by rw[IntKind.wrap_u32];omega
  obtain⟨B3,h3,e3⟩:=byte_data (s:=s) (i:=b+3) (by omega)
  have v3:=B3.toNat_lt
  have u3:IntKind.u32.wrap (B3.toNat:Int)=B3.toNat:=by rw[IntKind.wrap_u32];omega
  have w3:IntKind.i64.wrap ((b:Int)+3)=(b:Int)+3:=wrap64 (by omega) (by omega)
  have p3:(0:Int)≤(b:Int)+3:=by omega
  have t3:((b:Int)+3).toNat=b+3:=by omega
  have s3:IntKind.u32.wrap ((B3.toNat:Int)*16777216)=B3.toNat*16777216:=by rw[IntKind.wrap_u32];omega
  have o:orW (orW (orW (B0.toNat:Int) (B1.toNat*256)) (B2.toNat*65536)) (B3.toNat*16777216)=wordAt s b:=by
   rw[orW_word B0 B1 B2 B3]
   unfold wordAt
   rw[←e0,←e1,←e2,←e3]
  clear e0 e1 e2 e3 v0 v1 v2 v3 hb ha hs
  repeat' (first|(refine ZN ?_)|(refine Z2 ?_ ?_)|(intro h h';try simp[*,-h] at h'))
  all_goals exact⟨_,by omega,1,rfl,by omega,by simp[*],by simp[*,w4],by simp[*],by simp[*],by simp[*],by simp[*],by simp[*]⟩
 ·simp only[w4] at hh5
  obtain⟨b,hb⟩: ∃b:Nat,b=at_+4:=⟨_,rfl⟩
  have wb:IntKind.i64.wrap ((at_:Int)+4)=b:=by rw[wrap64 (by omega) (by omega)];try omega
  have wz:at_+4=b:=by omega
  obtain⟨B0,h0,e0⟩:=byte_data (s:=s) (i:=b) (by omega)
  have v0:=B0.toNat_lt
  have u0:IntKind.u32.wrap (B0.toNat:Int)=B0.toNat:=by rw[IntKind.wrap_u32];omega
  obtain⟨B1,h1,e1⟩:=byte_data (s:=s) (i:=b+1) (by omega)
  have v1:=B1.toNat_lt
  have u1:IntKind.u32.wrap (B1.toNat:Int)=B1.toNat:=by rw[IntKind.wrap_u32];omega
  have w1:IntKind.i64.wrap ((b:Int)+1)=(b:Int)+1:=wrap64 (by omega) (by omega)
  have p1:(0:Int)≤(b:Int)+1:=by omega
  have t1:((b:Int)+1).toNat=b+1:=by omega
  have s1:IntKind.u32.wrap ((B1.toNat:Int)*256)=B1.toNat*256:=by rw[IntKind.wrap_u32];omega
  obtain⟨B2,h2,e2⟩:=byte_data (s:=s) (i:=b+2) (by omega)
  have v2:=B2.toNat_lt
  have u2:IntKind.u32.wrap (B2.toNat:Int)=B2.toNat:=by rw[IntKind.wrap_u32];omega
  have w2:IntKind.i64.wrap ((b:Int)+2)=(b:Int)+2:=wrap64 (by omega) (by omega)
  have p2:(0:Int)≤(b:Int)+2:=by omega
  have t2:((b:Int)+2).toNat=b+2:=by omega
  have s2:IntKind.u32.wrap ((B2.toNat:Int)*65536)=B2.toNat*65536:=by rw[IntKind.wrap_u32];omega
  obtain⟨B3,h3,e3⟩:=byte_data (s:=s) (i:=b+3) (by omega)
  have v3:=B3.toNat_lt
  have u3:IntKind.u32.wrap (B3.toNat:Int)=B3.toNat:=by rw[IntKind.wrap_u32];omega
  have w3:IntKind.i64.wrap ((b:Int)+3)=(b:Int)+3:=wrap64 (by omega) (by omega)
  have p3:(0:Int)≤(b:Int)+3:=by omega
  have t3:((b:Int)+3).toNat=b+3:=by omega
  have s3:IntKind.u32.wrap ((B3.toNat:Int)*16777216)=B3.toNat*16777216:=by rw[IntKind.wrap_u32];omega
  have o:orW (orW (orW (B0.toNat:Int) (B1.toNat*256)) (B2.toNat*65536)) (B3.toNat*16777216)=wordAt s b:=by
   rw[orW_word B0 B1 B2 B3]
   unfold wordAt
   rw[←e0,←e1,←e2,←e3]
  clear e0 e1 e2 e3 v0 v1 v2 v3 hb ha hs
  repeat' (first|(refine ZN ?_)|(refine Z2 ?_ ?_)|(intro h h';try simp[*,-h] at h'))
  all_goals exact⟨_,by omega,2,rfl,by omega,by simp[*],by simp[*,w4],by simp[*],by simp[*],by simp[*],by simp[*],by simp[*]⟩
 ·simp only[w4] at hh5
  obtain⟨b,hb⟩: ∃b:Nat,b=at_+8:=⟨_,rfl⟩
  have wb:IntKind.i64.wrap ((at_:Int)+8)=b:=by rw[wrap64 (by omega) (by omega)];try omega
  have wz:at_+8=b:=by omega
  obtain⟨B0,h0,e0⟩:=byte_data (s:=s) (i:=b) (by omega)
  have v0:=B0.toNat_lt
  have u0:IntKind.u32.wrap (B0.toNat:Int)=B0.toNat:=by rw[IntKind.wrap_u32];omega
  obtain⟨B1,h1,e1⟩:=byte_data (s:=s) (i:=b+1) (by omega)
  have v1:=B1.toNat_lt
  have u1:IntKind.u32.wrap (B1.toNat:Int)=B1.toNat:=by rw[IntKind.wrap_u32];omega
  have w1:IntKind.i64.wrap ((b:Int)+1)=(b:Int)+1:=wrap64 (by omega) (by omega)
  have p1:(0:Int)≤(b:Int)+1:=by omega
  have t1:((b:Int)+1).toNat=b+1:=by omega
  have s1:IntKind.u32.wrap ((B1.toNat:Int)*256)=B1.toNat*256:=by rw[IntKind.wrap_u32];omega
  obtain⟨B2,h2,e2⟩:=byte_data (s:=s) (i:=b+2) (by omega)
  have v2:=B2.toNat_lt
  have u2:IntKind.u32.wrap (B2.toNat:Int)=B2.toNat:=by rw[IntKind.wrap_u32];omega
  have w2:IntKind.i64.wrap ((b:Int)+2)=(b:Int)+2:=wrap64 (by omega) (by omega)
  have p2:(0:Int)≤(b:Int)+2:=by omega
  have t2:((b:Int)+2).toNat=b+2:=by omega
  have s2:IntKind.u32.wrap ((B2.toNat:Int)*65536)=B2.toNat*65536:=by rw[IntKind.wrap_u32];omega
  obtain⟨B3,h3,e3⟩:=byte_data (s:=s) (i:=b+3) (by omega)
  have v3:=B3.toNat_lt
  have u3:IntKind.u32.wrap (B3.toNat:Int)=B3.toNat:=by rw[IntKind.wrap_u32];omega
  have w3:IntKind.i64.wrap ((b:Int)+3)=(b:Int)+3:=wrap64 (by omega) (by omega)
  have p3:(0:Int)≤(b:Int)+3:=by omega
  have t3:((b:Int)+3).toNat=b+3:=by omega
  have s3:IntKind.u32.wrap ((B3.toNat:Int)*16777216)=B3.toNat*16777216:=by rw[IntKind.wrap_u32];omega
  have o:orW (orW (orW (B0.toNat:Int) (B1.toNat*256)) (B2.toNat*65536)) (B3.toNat*16777216)=wordAt s b:=by
   rw[orW_word B0 B1 B2 B3]
   unfold wordAt
   rw[←e0,←e1,←e2,←e3]
  clear e0 e1 e2 e3 v0 v1 v2 v3 hb ha hs
  repeat' (first|(refine ZN ?_)|(refine Z2 ?_ ?_)|(intro h h';try simp[*,-h] at h'))
  all_goals exact⟨_,by omega,3,rfl,by omega,by simp[*],by simp[*,w4],by simp[*],by simp[*],by simp[*],by simp[*],by simp[*]⟩
 ·simp only[w4] at hh5
  obtain⟨b,hb⟩: ∃b:Nat,b=at_+12:=⟨_,rfl⟩
  have wb:IntKind.i64.wrap ((at_:Int)+12)=b:=by rw[wrap64 (by omega) (by omega)];try omega
  have wz:at_+12=b:=by omega
  obtain⟨B0,h0,e0⟩:=byte_data (s:=s) (i:=b) (by omega)
  have v0:=B0.toNat_lt
  have u0:IntKind.u32.wrap (B0.toNat:Int)=B0.toNat:=by rw[IntKind.wrap_u32];omega
  obtain⟨B1,h1,e1⟩:=byte_data (s:=s) (i:=b+1) (by omega)
  have v1:=B1.toNat_lt
  have u1:IntKind.u32.wrap (B1.toNat:Int)=B1.toNat:=by rw[IntKind.wrap_u32];omega
  have w1:IntKind.i64.wrap ((b:Int)+1)=(b:Int)+1:=wrap64 (by omega) (by omega)
  have p1:(0:Int)≤(b:Int)+1:=by omega
  have t1:((b:Int)+1).toNat=b+1:=by omega
  have s1:IntKind.u32.wrap ((B1.toNat:Int)*256)=B1.toNat*256:=by rw[IntKind.wrap_u32];omega
  obtain⟨B2,h2,e2⟩:=byte_data (s:=s) (i:=b+2) (by omega)
  have v2:=B2.toNat_lt
  have u2:IntKind.u32.wrap (B2.toNat:Int)=B2.toNat:=by rw[IntKind.wrap_u32];omega
  have w2:IntKind.i64.wrap ((b:Int)+2)=(b:Int)+2:=wrap64 (by omega) (by omega)
  have p2:(0:Int)≤(b:Int)+2:=by omega
  have t2:((b:Int)+2).toNat=b+2:=by omega
  have s2:IntKind.u32.wrap ((B2.toNat:Int)*65536)=B2.toNat*65536:=by rw[IntKind.wrap_u32];omega
  obtain⟨B3,h3,e3⟩:=byte_data (s:=s) (i:=b+3) (by omega)
  have v3:=B3.toNat_lt
  have u3:IntKind.u32.wrap (B3.toNat:Int)=B3.toNat:=by rw[IntKind.wrap_u32];omega
  have w3:IntKind.i64.wrap ((b:Int)+3)=(b:Int)+3:=wrap64 (by omega) (by omega)
  have p3:(0:Int)≤(b:Int)+3:=by omega
  have t3:((b:Int)+3).toNat=b+3:=by omega
  have s3:IntKind.u32.wrap ((B3.toNat:Int)*16777216)=B3.toNat*16777216:=by rw[IntKind.wrap_u32];omega
  have o:orW (orW (orW (B0.toNat:Int) (B1.toNat*256)) (B2.toNat*65536)) (B3.toNat*16777216)=wordAt s b:=by
   rw[orW_word B0 B1 B2 B3]
   unfold wordAt
   rw[←e0,←e1,←e2,←e3]
  clear e0 e1 e2 e3 v0 v1 v2 v3 hb ha hs
  repeat' (first|(refine ZN ?_)|(refine Z2 ?_ ?_)|(intro h h';try simp[*,-h] at h'))
  all_goals exact⟨_,by omega,4,rfl,by omega,by simp[*],by simp[*,w4],by simp[*],by simp[*],by simp[*],by simp[*],by simp[*]⟩
 ·simp only[w4] at hh5
  unfold four
  simp only[D4.row]
  repeat' (first|(refine ZN ?_)|(refine Z2 ?_ ?_)|(intro h h';try simp[*,-h] at h'))
  all_goals rfl
end
section
open Go Go.Ab
theorem txtW_size (l:List Int):(txtW l).size=4*l.length:=by
 show(toBytes (bys l)).toArray.size=_
 simp[toBytes,bys_len]
def zP (n:Nat):Nat:=(23 - n%16)%16
theorem zP_spec (n:Nat):(n+1+zP n)%16=8:=by unfold zP;omega
theorem zP_lt {n i:Nat}(h:i<zP n):(n+1+i)%16≠8:=by unfold zP at h;omega
theorem zP_le (n:Nat):zP n<16:=by unfold zP;omega
def padR (L:List UInt8):List UInt8:=L++128::List.replicate (zP L.length) 0
def padL (L:List UInt8):List UInt8:=padR L++toBytes (bys [(L.length:Int),0])
def padS (s:ByteArray):ByteArray:=⟨⟨padL s.data.toList⟩⟩
def spongeP (p:ByteArray):Nat→S8
 |0=>⟨1,0,0,0,0,0,0,0⟩
 |i+1=>takeP (spongeP p i) (four p (16*i))
def ofP (s:ByteArray):D4:=front (spongeP (padS s) ((padS s).size/16))
theorem padR_len (L:List UInt8):(padR L).length=L.length+1+zP L.length:=by simp[padR];omega
theorem padL_len (L:List UInt8):(padL L).length=L.length+1+zP L.length+8:=by
 unfold padL
 rw[List.length_append,padR_len,toBytes_len,bys_len];rfl
theorem padS_size (s:ByteArray):(padS s).size=s.size+1+zP s.size+8:=by
 rw[ba_size,ba_size s];exact padL_len _
theorem wordL_pre (A T:List UInt8)(i:Nat)(h:i+4≤A.length):wordL (A++T) i=wordL A i:=by
 have e: ∀j,j<A.length→(A++T).getD j 0=A.getD j 0:=fun j hj=>by
  simp[List.getD_eq_getElem?_getD,List.getElem?_append_left hj]
 unfold wordL
 rw[e _ (by omega),e _ (by omega),e _ (by omega),e _ (by omega)]
theorem four_pre (s:ByteArray)(i:Nat)(h:i+16≤s.size):four s i=four (padS s) i:=by
 rw[ba_size] at h
 have e: ∀j,j+4≤s.data.toList.length→wordAt (padS s) j=wordAt s j:=fun j hj=>by
  rw[wordAt_L,wordAt_L]
  show wordL (padL _) j=_
  unfold padL padR
  rw[List.append_assoc,wordL_pre _ _ _ hj]
 unfold four
 rw[e _ (by omega),e _ (by omega),e _ (by omega),e _ (by omega)]
theorem tail_eq (s:ByteArray)(w:Nat)(hw:w≤s.size):padL s.data.toList=s.data.toList.take w++((s.data.toList.drop w++128::List.replicate (zP s.size) 0)++toBytes (bys [(s.size:Int),0])):=by
 have e:s.data.toList=s.data.toList.take w++s.data.toList.drop w:=(List.take_append_drop w _).symm
 unfold padL padR
 rw[ba_size]
 generalize (s.data.toList).length=n
 rw[←List.append_assoc,←List.append_assoc,←e]
theorem four_tail (s:ByteArray)(w:Nat)(hw:w≤s.size)(t:ByteArray)(ht:t.data.toList=(s.data.toList.drop w++128::List.replicate (zP s.size) 0)++toBytes (bys [(s.size:Int),0]))(i:Nat):four t i=four (padS s) (w+i):=by
 have e: ∀j,wordAt (padS s) (w+j)=wordAt t j:=fun j=>by
  rw[wordAt_L,wordAt_L,ht]
  show wordL (padL _) (w+j)=_
  rw[tail_eq s w hw]
  have hl:(s.data.toList.take w).length=w:=by rw[List.length_take,←ba_size];omega
  have:=wordL_app (s.data.toList.take w) ((s.data.toList.drop w++128::List.replicate (zP s.size) 0)++toBytes (bys [(s.size:Int),0])) j
  rwa [hl] at this
 unfold four
 rw[←e,←e,←e,←e,Nat.add_assoc,Nat.add_assoc,Nat.add_assoc]
abbrev rowU (l:List UInt8):List (List AV):=l.map fun b=>[.sc (.int .u8 b.toNat)]
theorem bytes_rowU : ∀l:List UInt8,bytesOfRows (rowU l)=some l
 |[]=>rfl
 |x::l=>by
  have:=bytes_rowU l
  unfold rowU at this⊢
  simp only[List.map_cons,bytesOfRows,this,Option.map_some]
  simp
theorem rowU_snoc (l:List UInt8)(b:UInt8)(n:Int)(h:n=b.toNat):rowU l++[[.sc (.int .u8 n)]]=rowU (l++[b]):=by subst h;simp
theorem txtW_list (l:List Int):(txtW l).data.toList=toBytes (bys l):=rfl
end
section
open Go Go.Ab
attribute [-simp] Prog.bind getCs putCs
attribute [local simp ↓] run_bind
attribute [local simp ↓] runF_bind
attribute [local simp] run_getCsN runF_getCsN facetsC putCs_one run_putCsN runF_putCsN facetsW facetsH
@[simp] theorem fdx32 (w:Int):w.fdiv (2^min 32 IntKind.u64.bits)=w/4294967296:=by rw[show(2:Int)^min 32 IntKind.u64.bits=4294967296 from by decide+kernel];exact Int.fdiv_eq_ediv_of_nonneg _ (by omega)
theorem d34 (s:ByteArray)(hs:s.size≤1000000):(lim Tryz.prog E47 X46).dat 34 [.sc (.string s)]=some [.agg (ofP s).row]:=by
 refine fnW Tryz.func34 rfl rfl bodyOk_34 rfl rtys_34 rfl ?_
 obtain⟨w,hw⟩: ∃w,w=s.size/16*16:=⟨_,rfl⟩
 obtain⟨g,hg⟩: ∃g,g=s.size/16:=⟨_,rfl⟩
 have q1:IntKind.i64.wrap ((s.size:Int)/16)=(g:Int):=by rw[wrap64 (by omega) (by omega)];omega
 have q1':IntKind.i64.wrap ((s.size:Int).tdiv 16)=(g:Int):=by rw[Int.tdiv_eq_ediv_of_nonneg (by omega)];exact q1
 have q3:IntKind.i64.wrap ((s.size:Int)/16*16)=(w:Int):=by rw[wrap64 (by omega) (by omega)];omega
 have q2:IntKind.i64.wrap ((g:Int)*16)=(w:Int):=by rw[wrap64 (by omega) (by omega)];omega
 have hws:w≤s.size:=by omega
 have hgK:=Lib.hid hg
 have hwK:=Lib.hid hw
 clear hg hw q3 q1'
 repeat' (first|(refine ZN ?_)|(refine Z2 ?_ ?_)|(intro h h';try simp[*,-h] at h'))
 refine W_loopS (n:=g) (fun s0 m q=> ∃k a:Nat,m=g - k∧k≤g∧a=16*k∧q.fr 5=iv a∧q.hp ⟨0,3,0⟩= .box 1 (spongeP (padS s) k).row false∧q.fr 0=s0.fr 0∧q.fr 2=s0.fr 2∧q.fr 3=s0.fr 3∧q.fr 4=s0.fr 4∧q.hp ⟨0,2,0⟩=s0.hp ⟨0,2,0⟩∧(q.hp ⟨0,28,0⟩).gen=0) ⟨0,0,by simp,by omega,by simp,by simp,by simp[spongeP,S8.row],by simp,by simp,by simp,by simp,by simp,by simp⟩ ?_
 rintro m ⟨fr,hp⟩ ⟨k,a,rfl,hk,ha,hs5,hh3,hs0,hs2,hs3,hs4,hh2,hg28⟩
 simp at hs5 hs0 hs2 hs3 hs4 hh2 hg28
 simp only at hh3
 have hg:=hgK.out
 have hw:=hwK.out
 by_cases hlt:k<g
 ·have hlI:(a:Int)<w:=by omega
  have haw:IntKind.i64.wrap ((a:Int)+16)=((a+16:Nat):Int):=by rw[wrap64 (by omega) (by omega)];omega
  have h52:=d52 s a (by omega) (by omega)
  rw[four_pre s a (by omega)] at h52
  have h51:=d51 (spongeP (padS s) k) (four (padS s) a)
  obtain⟨z',hz'⟩: ∃z',z'=spongeP (padS s) (k+1):=⟨_,rfl⟩
  have hk1:takeP (spongeP (padS s) k) (four (padS s) a)=z':=by subst ha hz';rfl
  rw[hk1] at h51
  have ha1:a+16=16*(k+1):=by omega
  obtain⟨a',ha'⟩: ∃a',a'=a+16:=⟨_,rfl⟩
  rw[←ha'] at haw ha1
  have hH:=Lib.hid ha1
  have hz2:=Lib.hid hz'
  clear hk1 ha ha1 ha' hz'
  generalize spongeP (padS s) k=z at*
  generalize four (padS s) a=y at*
  obtain⟨x0,x1,x2,x3,x4,x5,x6,x7⟩:=z
  obtain⟨z0,z1,z2,z3,z4,z5,z6,z7⟩:=z'
  obtain⟨y0,y1,y2,y3⟩:=y
  simp only[S8.row,D4.row] at h51 h52 hh3
  clear hw hg
  repeat' (first|(refine ZN ?_)|(refine Z2 ?_ ?_)|(intro h h';try simp[*,-h] at h'))
  all_goals exact⟨_,by omega,k+1,a',rfl,hlt,hH.out,by simp[*],by rw[←hz2.out];simp[*,S8.row],by simp[*],by simp[*],by simp[*],by simp[*],by simp[*],by simp[*]⟩
 ·obtain rfl:k=g:=by omega
  obtain rfl:a=w:=by omega
  clear hlt ha hg hw
  have c1:IntKind.u64.wrap (s.size:Int)=s.size:=by rw[IntKind.wrap_u64];omega
  obtain⟨R0,hR0⟩: ∃R0,R0=s.data.toList.drop a:=⟨_,rfl⟩
  obtain⟨n0,hn0⟩: ∃n0,n0=s.size - a:=⟨_,rfl⟩
  have hRl:R0.length=n0:=by rw[hR0,List.length_drop,←ba_size,hn0]
  have x1:n0≤9223372036854775807:=by omega
  have x2:List.take n0 (List.drop a (List.map (fun b=>[AV.sc (Value.int IntKind.u8 b.toNat)]) s.data.toList))=rowU R0:=by
   rw[←List.map_drop,←hR0,←List.map_take,List.take_of_length_le (by omega)]
  have x3:s.size - a=n0:=hn0.symm
  have x4:(n0+1)≤140737488355328:=by omega
  have x5:n0≤9223372036854775806:=by omega
  have x6:rowU R0++[[.sc (.int .u8 128)]]=rowU (R0++[128]):=rowU_snoc _ _ _ rfl
  have x7:(rowU R0).length=n0:=by rw[List.length_map];exact hRl
  have hn:=Lib.hid hn0
  have hR:=Lib.hid hR0
  have hRn:=Lib.hid hRl
  clear hn0 hR0 hRl
  obtain⟨RU,hRU⟩: ∃RU,RU=rowU R0:=⟨_,rfl⟩
  obtain⟨RV,hRV⟩: ∃RV,RV=rowU (R0++[128]):=⟨_,rfl⟩
  rw[←hRU] at x2 x6 x7
  rw[←hRV] at x6
  have hRVK:=Lib.hid hRV
  clear hRU hRV
  repeat' (first|(refine ZN ?_)|(refine Z2 ?_ ?_)|(intro h h';try simp[*,-h] at h'))
  refine W_loopS (n:=16) (fun s0 m q=> ∃i g:Nat,m=16 - i∧i≤zP s.size∧q.fr 6= .own ⟨0,28,0⟩ g (n0+1+i)∧q.hp ⟨0,28,0⟩= .arr g 1 5 (rowU (R0++128::List.replicate i 0)) false∧q.fr 0=s0.fr 0∧q.fr 2=s0.fr 2∧q.fr 3=s0.fr 3∧q.hp ⟨0,2,0⟩=s0.hp ⟨0,2,0⟩∧q.hp ⟨0,3,0⟩=s0.hp ⟨0,3,0⟩) ⟨0,2,by simp,by omega,by simp[hg28],by rw[show R0++128::List.replicate 0 0=R0++[128] from rfl,←hRVK.out];simp[hg28],by simp,by simp,by simp,by simp,by simp⟩ ?_
  rintro m ⟨fr,hp⟩ ⟨i,g,rfl,hi,hs6,hh28,gs0,gs2,gs3,gh2,gh3⟩
  simp[hs0,hs2,hs3,hh2,hh3] at hs6 gs0 gs2 gs3 gh2 gh3
  simp only at hh28
  obtain⟨N,hN⟩: ∃N,N=n0+1+i:=⟨_,rfl⟩
  obtain⟨c,hc⟩: ∃c,c=N%16:=⟨_,rfl⟩
  have hcN:(N:Int)%16=c:=by omega
  have hcN':(N:Int).tmod 16=c:=by rw[Int.tmod_eq_emod_of_nonneg (by omega)];exact hcN
  have hz8:n0%16=s.size%16:=by have:=hn.out;have:=hwK.out;omega
  obtain⟨RR,hRR⟩: ∃RR,RR=R0++128::List.replicate i 0:=⟨_,rfl⟩
  have hRRl:(rowU RR).length=N:=by rw[List.length_map,hRR,List.length_append,hRn.out,hN];simp;omega
  rw[←hRR] at hh28
  rw[←hN] at hs6
  by_cases hlt:i<zP s.size
  ·have hc8: ¬c=8:=by
    have:=zP_lt hlt
    omega
   have hc8': ¬(c:Int)=8:=by omega
   have y1:N+1≤140737488355328:=by have:=zP_le s.size;omega
   have y2:N≤9223372036854775806:=by omega
   have y3:rowU RR++[[.sc (.int .u8 0)]]=rowU (RR++[0]):=rowU_snoc _ _ _ rfl
   have y4:RR++[0]=R0++128::List.replicate (i+1) 0:=by rw[hRR,List.append_assoc,List.replicate_succ'];rfl
   rw[y4] at y3
   have hNK:=Lib.hid hN
   clear hN hc hRR y4
   obtain⟨RZ,hRZ⟩: ∃RZ,RZ=rowU (R0++128::List.replicate (i+1) 0):=⟨_,rfl⟩
   rw[←hRZ] at y3
   have hRZK:=Lib.hid hRZ
   clear hRZ
   generalize rowU RR=RN at*
   repeat' (first|(refine ZN ?_)|(refine Z2 ?_ ?_)|(intro h h';try simp[*,-h] at h'))
   all_goals exact⟨_,by have:=zP_le s.size;omega,i+1,g+1,rfl,hlt,by simp[*];(try (have:=hNK.out;omega)),by rw[←hRZK.out];simp[*],by simp[*],by simp[*],by simp[*],by simp[*],by simp[*]⟩
  ·obtain rfl:i=zP s.size:=by omega
   have hc8:c=8:=by have:=zP_spec s.size;have:=zP_le s.size;omega
   have c2:IntKind.u32.wrap (s.size:Int)=s.size:=by rw[IntKind.wrap_u32];omega
   have c3:(s.size:Int)/4294967296=0:=by omega
   have c4:IntKind.u32.wrap 0=0:=by decide+kernel
   have h26:=d26 [(s.size:Int),0] (by simp) (by simp[U];omega)
   obtain⟨X8,hX8⟩: ∃X8,X8=txtW [(s.size:Int),0]:=⟨_,rfl⟩
   have hXs:X8.size=8:=by rw[hX8,txtW_size];rfl
   rw[←hX8] at h26
   have h26':(lim Tryz.prog E47 X46).dat 35 [.sl false 1 [[uv (s.size:Int)],[uv 0]]]=some [.sc (.string X8)]:=h26
   clear h26
   have hbr:=bytes_rowU RR
   have htk:(rowU RR).take N=rowU RR:=List.take_of_length_le (by omega)
   have hRRn:RR.length=N:=by rw[←hRRl,List.length_map]
   obtain⟨T,hT⟩: ∃T,T=(⟨⟨RR⟩⟩:ByteArray)++X8:=⟨_,rfl⟩
   have hTs:T.size=N+8:=by rw[hT,ByteArray.size_append,hXs,←hRRn];rfl
   have hTl:T.data.toList=RR++X8.data.toList:=by rw[hT,ByteArray.data_append,Array.toList_append]
   have hT':=hT.symm
   have hTN:N+8≤9223372036854775807:=by have:=zP_le s.size;omega
   have hfour: ∀j,four T j=four (padS s) (a+j):=fun j=>by
    refine four_tail s a hws T ?_ j
    rw[hTl,hRR,hR.out,hX8,txtW_list]
   have hTs':=Lib.hid hTs
   have hfK:=Lib.hid hfour
   have hNK:=Lib.hid hN
   have hzz:=zP_spec s.size
   have hzl:=zP_le s.size
   have hps:=padS_size s
   have hzK:=Lib.hid (⟨hzz,hzl,hps⟩:_∧_∧_)
   clear hT hTl hRR hX8 hfour hN hc hz8 hlt hi hzz hzl hps hTs
   generalize rowU RR=RN at*
   have rp2: ∀x:List AV,List.replicate 2 x=[x,x]:=fun _=>rfl
   have z1:(⟨⟨RR⟩⟩:ByteArray).size≤9223372036854775799:=by show RR.length≤_;omega
   repeat' (first|(refine ZN ?_)|(refine Z2 ?_ ?_)|(intro h h';try simp[*,-h] at h'))
   obtain⟨nt,hnt⟩: ∃nt,nt=T.size/16:=⟨_,rfl⟩
   have hT16:T.size=16*nt:=by
    have:=hTs'.out;have:=hNK.out;have:=hzK.out.1;have:=hn.out;have:=hwK.out;omega
   have hP16:(padS s).size/16=k+nt:=by
    have:=hTs'.out;have:=hNK.out;have:=hzK.out.2.2;have:=hn.out;have:=hwK.out;have:=hgK.out;omega
   have hTb:T.size≤1048576:=by
    have:=hTs'.out;have:=hNK.out;have:=hzK.out.2.1;omega
   unfold ofP
   rw[hP16]
   have hP:=Lib.hid hP16
   have hT1:=Lib.hid hT16
   have hak:a=16*k:=by have:=hwK.out;have:=hgK.out;omega
   have hak':=Lib.hid hak
   clear hP16 hT16 hnt hak
   refine W_loopS (n:=nt) (fun s0 m q=> ∃j b:Nat,m=nt - j∧j≤nt∧b=16*j∧q.fr 9=iv b∧q.hp ⟨0,3,0⟩= .box 1 (spongeP (padS s) (k+j)).row false∧q.fr 8=s0.fr 8∧q.fr 2=s0.fr 2∧q.fr 3=s0.fr 3∧q.hp ⟨0,2,0⟩=s0.hp ⟨0,2,0⟩) ⟨0,0,by simp,by omega,by simp,by simp,by simp[*],by simp,by simp,by simp,by simp⟩ ?_
   rintro m ⟨fr,hp⟩ ⟨j,b,rfl,hj,hb,hs9,hh3,hs8,hs2,hs3,hh2⟩
   simp[gs2,gs3,gh2] at hs9 hs8 hs2 hs3 hh2
   simp only at hh3
   by_cases hlt:j<nt
   ·have hlI:(b:Int)<T.size:=by have:=hT1.out;omega
    have hbw:IntKind.i64.wrap ((b:Int)+16)=((b+16:Nat):Int):=by rw[wrap64 (by omega) (by omega)];omega
    have h52:=d52 T b (by omega) (by have:=hT1.out;omega)
    rw[hfK.out b] at h52
    have h51:=d51 (spongeP (padS s) (k+j)) (four (padS s) (a+b))
    obtain⟨z',hz'⟩: ∃z',z'=spongeP (padS s) (k+(j+1)):=⟨_,rfl⟩
    have hk1:takeP (spongeP (padS s) (k+j)) (four (padS s) (a+b))=z':=by
     have:=hak'.out
     rw[hz',show a+b=16*(k+j) by omega];rfl
    rw[hk1] at h51
    have hb1:b+16=16*(j+1):=by omega
    obtain⟨b',hb'⟩: ∃b',b'=b+16:=⟨_,rfl⟩
    rw[←hb'] at hbw hb1
    have hH:=Lib.hid hb1
    have hz2:=Lib.hid hz'
    clear hk1 hb hb1 hb' hz'
    generalize spongeP (padS s) (k+j)=z at*
    generalize four (padS s) (a+b)=y at*
    obtain⟨x0,x1,x2,x3,x4,x5,x6,x7⟩:=z
    obtain⟨z0,z1,z2,z3,z4,z5,z6,z7⟩:=z'
    obtain⟨y0,y1,y2,y3⟩:=y
    simp only[S8.row,D4.row] at h51 h52 hh3
    repeat' (first|(refine ZN ?_)|(refine Z2 ?_ ?_)|(intro h h';try simp[*,-h] at h'))
    all_goals exact⟨_,by omega,j+1,b',rfl,hlt,hH.out,by simp[*],by rw[←hz2.out];simp[*,S8.row],by simp[*],by simp[*],by simp[*],by simp[*]⟩
   ·obtain rfl:j=nt:=by omega
    have hbT:T.size=b:=by have:=hT1.out;omega
    have h50:=d50 (spongeP (padS s) (k+j))
    generalize spongeP (padS s) (k+j)=z at*
    generalize front z=y at*
    obtain⟨x0,x1,x2,x3,x4,x5,x6,x7⟩:=z
    obtain⟨y0,y1,y2,y3⟩:=y
    simp only[S8.row,D4.row] at h50 hh3
    simp only[D4.row]
    clear hb hlt
    repeat' (first|(refine ZN ?_)|(refine Z2 ?_ ?_)|(intro h h';try simp[*,-h] at h'))
    all_goals rfl
end
section
open Go Go.Ab
attribute [-simp] Prog.bind getCs putCs
attribute [local simp ↓] run_bind
attribute [local simp ↓] runF_bind
attribute [local simp] run_getCsN runF_getCsN facetsC putCs_one run_putCsN runF_putCsN facetsW facetsH
theorem rowW_app (a b:List Int):rowW (a++b)=rowW a++b.map fun x=>[uv x]:=List.map_append
@[simp] theorem wrap_m1 :IntKind.i64.wrap (-1)= -1:=by decide+kernel
theorem d44 (s:ByteArray)(n:Nat)(hs:s.size≤1048576)(hn:s.size=4*n):(lim Tryz.prog E47 X46).dat 46 [.sc (.string s)]=some [.vec 1 (rowW (upto (fun k=>wordAt s (4*k)) n)),iv 0]:=by
 refine fnW Tryz.func46 rfl rfl bodyOk_46 rfl rtys_46 rfl ?_
 have q1:(s.size:Int)%4=0:=by omega
 have q2:(s.size:Int).tmod 4=0:=by rw[Int.tmod_eq_emod_of_nonneg (by omega)];exact q1
 have q3:IntKind.i64.wrap ((s.size:Int)/4)=(n:Int):=by rw[wrap64 (by omega) (by omega)];omega
 have q4:IntKind.i64.wrap ((s.size:Int).tdiv 4)=(n:Int):=by rw[Int.tdiv_eq_ediv_of_nonneg (by omega)];exact q3
 have q5:(n:Int)*4≤140737488355328:=by omega
 have q6:(n:Int)≤140737488355328:=by omega
 have q7:(n:Int)≤9223372036854775807:=by omega
 have q8:(0:Int)≤n:=by omega
 have q9:IntKind.u32.wrap 0=0:=by decide+kernel
 have hnK:=Lib.hid hn
 clear hn
 repeat' (first|(refine ZN ?_)|(refine Z2 ?_ ?_)|(intro h h';try simp[*,-h] at h'))
 refine W_loopS (n:=n) (fun s0 m q=> ∃k a g:Nat,m=n - k∧k≤n∧a=4*k∧q.fr 5=iv a∧q.fr 4= .own ⟨0,15,0⟩ g k∧q.hp ⟨0,15,0⟩= .arr g 1 22 (rowW (upto (fun k=>wordAt s (4*k)) k)) false∧q.fr 0=s0.fr 0) ⟨0,0,1,by simp,by omega,by simp,by simp,by simp,by simp[upto],by simp⟩ ?_
 rintro m ⟨fr,hp⟩ ⟨k,a,g,rfl,hk,ha,hs5,hs4,hh15,hs0⟩
 simp at hs5 hs4 hs0
 simp only at hh15
 have hn:=hnK.out
 by_cases hlt:k<n
 ·have hlI:(a:Int)<s.size:=by omega
  have haw:IntKind.i64.wrap ((a:Int)+4)=((a+4:Nat):Int):=by rw[wrap64 (by omega) (by omega)];omega
  obtain⟨B0,h0,e0⟩:=byte_data (s:=s) (i:=a) (by omega)
  have v0:=B0.toNat_lt
  have u0:IntKind.u32.wrap (B0.toNat:Int)=B0.toNat:=by rw[IntKind.wrap_u32];omega
  have w0:IntKind.i64.wrap ((a:Int))=(a:Int):=wrap64 (by omega) (by omega)
  obtain⟨B1,h1,e1⟩:=byte_data (s:=s) (i:=a+1) (by omega)
  have v1:=B1.toNat_lt
  have u1:IntKind.u32.wrap (B1.toNat:Int)=B1.toNat:=by rw[IntKind.wrap_u32];omega
  have w1:IntKind.i64.wrap ((a:Int)+1)=(a:Int)+1:=wrap64 (by omega) (by omega)
  have p1:(0:Int)≤(a:Int)+1:=by omega
  have t1:((a:Int)+1).toNat=a+1:=by omega
  obtain⟨B2,h2,e2⟩:=byte_data (s:=s) (i:=a+2) (by omega)
  have v2:=B2.toNat_lt
  have u2:IntKind.u32.wrap (B2.toNat:Int)=B2.toNat:=by rw[IntKind.wrap_u32];omega
  have w2:IntKind.i64.wrap ((a:Int)+2)=(a:Int)+2:=wrap64 (by omega) (by omega)
  have p2:(0:Int)≤(a:Int)+2:=by omega
  have t2:((a:Int)+2).toNat=a+2:=by omega
  obtain⟨B3,h3,e3⟩:=byte_data (s:=s) (i:=a+3) (by omega)
  have v3:=B3.toNat_lt
  have u3:IntKind.u32.wrap (B3.toNat:Int)=B3.toNat:=by rw[IntKind.wrap_u32];omega
  have w3:IntKind.i64.wrap ((a:Int)+3)=(a:Int)+3:=wrap64 (by omega) (by omega)
  have p3:(0:Int)≤(a:Int)+3:=by omega
  have t3:((a:Int)+3).toNat=a+3:=by omega
  have m1:IntKind.u32.wrap ((B3.toNat:Int)*256)=B3.toNat*256:=by rw[IntKind.wrap_u32];omega
  have m2:IntKind.u32.wrap ((B3.toNat:Int)*256+B2.toNat)=B3.toNat*256+B2.toNat:=by rw[IntKind.wrap_u32];omega
  have m3:IntKind.u32.wrap (((B3.toNat:Int)*256+B2.toNat)*256)=(B3.toNat*256+B2.toNat)*256:=by rw[IntKind.wrap_u32];omega
  have m4:IntKind.u32.wrap (((B3.toNat:Int)*256+B2.toNat)*256+B1.toNat)=(B3.toNat*256+B2.toNat)*256+B1.toNat:=by rw[IntKind.wrap_u32];omega
  have m5:IntKind.u32.wrap ((((B3.toNat:Int)*256+B2.toNat)*256+B1.toNat)*256)=((B3.toNat*256+B2.toNat)*256+B1.toNat)*256:=by rw[IntKind.wrap_u32];omega
  have m6:IntKind.u32.wrap ((((B3.toNat:Int)*256+B2.toNat)*256+B1.toNat)*256+B0.toNat)=((B3.toNat*256+B2.toNat)*256+B1.toNat)*256+B0.toNat:=by rw[IntKind.wrap_u32];omega
  have o:wordAt s a=(((B3.toNat:Int)*256+B2.toNat)*256+B1.toNat)*256+B0.toNat:=by
   unfold wordAt
   rw[←e1,←e2,←e3]
   have:=e0
   rw[←this]
   omega
  have y1:(k+1)*4≤140737488355328:=by omega
  have y2:k≤9223372036854775806:=by omega
  have y5:k+1≤140737488355328:=by omega
  have y3:rowW (upto (fun k=>wordAt s (4*k)) k)++[[uv ((((B3.toNat:Int)*256+B2.toNat)*256+B1.toNat)*256+B0.toNat)]]=rowW (upto (fun k=>wordAt s (4*k)) (k+1)):=by
   rw[upto_succ,←o,ha,rowW_app];rfl
  have y4:(rowW (upto (fun k=>wordAt s (4*k)) k)).length=k:=by rw[List.length_map,upto_length]
  have ha1:a+4=4*(k+1):=by omega
  obtain⟨a',ha'⟩: ∃a',a'=a+4:=⟨_,rfl⟩
  rw[←ha'] at haw ha1
  have hH:=Lib.hid ha1
  obtain⟨RZ,hRZ⟩: ∃RZ,RZ=rowW (upto (fun k=>wordAt s (4*k)) (k+1)):=⟨_,rfl⟩
  rw[←hRZ] at y3
  have hRZK:=Lib.hid hRZ
  clear e0 e1 e2 e3 v0 v1 v2 v3 o ha ha1 ha' hRZ hn
  generalize rowW (upto (fun k=>wordAt s (4*k)) k)=RN at*
  repeat' (first|(refine ZN ?_)|(refine Z2 ?_ ?_)|(intro h h';try simp[*,-h] at h')|with_reducible apply W_unroll|fail)
  all_goals exact⟨_,by omega,k+1,a',g+1,rfl,hlt,hH.out,by simp[*],by simp[*],by rw[←hRZK.out];simp[*],by simp[*]⟩
 ·obtain rfl:k=n:=by omega
  have hlI:s.size=a:=by omega
  have y4:(rowW (upto (fun k=>wordAt s (4*k)) k)).length=k:=by rw[List.length_map,upto_length]
  have y5:(rowW (upto (fun k=>wordAt s (4*k)) k)).take k=rowW (upto (fun k=>wordAt s (4*k)) k):=List.take_of_length_le (by omega)
  clear hn ha
  generalize rowW (upto (fun k=>wordAt s (4*k)) k)=RN at*
  repeat' (first|(refine ZN ?_)|(refine Z2 ?_ ?_)|(intro h h';try simp[*,-h] at h'))
  all_goals rfl
end
section
open Go Go.Ab
attribute [-simp] Prog.bind getCs putCs
attribute [local simp ↓] run_bind
attribute [local simp ↓] runF_bind
attribute [local simp] run_getCsN runF_getCsN facetsC putCs_one run_putCsN runF_putCsN facetsW facetsH
def strP (s:ByteArray)(i:Nat):ByteArray:=⟨⟨s.data.toList++128::List.replicate i 0⟩⟩
theorem strP_size (s:ByteArray)(i:Nat):(strP s i).size=s.size+1+i:=by
 rw[ba_size,ba_size s];simp[strP];omega
theorem strP_zero (s:ByteArray):s++⟨#[128]⟩=strP s 0:=by
 apply ba_ext;rw[ByteArray.data_append,Array.toList_append];rfl
theorem strP_succ (s:ByteArray)(i:Nat):strP s i++⟨#[0]⟩=strP s (i+1):=by
 apply ba_ext;rw[ByteArray.data_append,Array.toList_append]
 show(s.data.toList++128::List.replicate i 0)++[0]=s.data.toList++128::List.replicate (i+1) 0
 rw[List.append_assoc,List.replicate_succ'];rfl
theorem words_pad (s:ByteArray)(hs:s.size≤1000000)(n:Nat)(hn:s.size+1+zP s.size=4*n):upto (fun k=>wordAt (strP s (zP s.size)) (4*k)) n++[(s.size:Int),0]=upto (fun k=>wordAt (padS s) (4*k)) (n+2):=by
 have hl:(padR s.data.toList).length=4*n:=by rw[padR_len,←ba_size];exact hn
 have e1: ∀k,k<n→wordAt (strP s (zP s.size)) (4*k)=wordAt (padS s) (4*k):=fun k hk=>by
  rw[wordAt_L,wordAt_L]
  show _=wordL (padL _) _
  unfold padL
  rw[wordL_pre _ _ _ (by omega)]
  rfl
 have hw: ∀k (hk:k<2),wordAt (padS s) (4*(n+k))=[(s.size:Int),0][k]:=fun k hk=>by
  rw[wordAt_L]
  show wordL (padL _) _=_
  unfold padL
  rw[show 4*(n+k)=(padR s.data.toList).length+4*k from by omega,wordL_app]
  have:=wordL_bys [(s.data.toList.length:Int),0] (by simp[U];rw[ba_size] at hs;simp at hs;omega) [] k (by simpa using hk)
  rw[List.append_nil] at this
  rw[this,ba_size]
 rw[upto_succ,upto_succ]
 have h0:=hw 0 (by omega)
 have h1:=hw 1 (by omega)
 rw[List.append_assoc]
 congr 1
 ·unfold upto
  exact List.map_congr_left fun k hk=>e1 k (List.mem_range.1 hk)
 ·simp only[Nat.add_zero] at h0
  rw[h0,h1];rfl
theorem d27 (s:ByteArray)(hs:s.size≤1000000):(lim Tryz.prog E47 X46).dat 28 [.sc (.string s)]=some [.agg (ofP s).row]:=by
 refine fnW Tryz.func28 rfl rfl bodyOk_28 rfl rtys_28 rfl ?_
 have c1:IntKind.u64.wrap (s.size:Int)=s.size:=by rw[IntKind.wrap_u64];omega
 have c2:IntKind.u32.wrap (s.size:Int)=s.size:=by rw[IntKind.wrap_u32];omega
 have c3:(s.size:Int)/4294967296=0:=by omega
 have c4:IntKind.u32.wrap 0=0:=by decide+kernel
 have c5:=strP_zero s
 have c6:s.size+(⟨#[128]⟩:ByteArray).size≤9223372036854775807:=by show s.size+1≤_;omega
 repeat' (first|(refine ZN ?_)|(refine Z2 ?_ ?_)|(intro h h';try simp[*,-h] at h'))
 refine W_loopS (n:=16) (fun s0 m q=> ∃i:Nat,m=16 - i∧i≤zP s.size∧q.fr 0= .sc (.string (strP s i))∧q.fr 2=s0.fr 2∧q.fr 3=s0.fr 3∧q.hp ⟨0,2,0⟩=s0.hp ⟨0,2,0⟩∧q.hp ⟨0,6,0⟩=s0.hp ⟨0,6,0⟩∧q.hp ⟨0,21,1000⟩=s0.hp ⟨0,21,1000⟩) ⟨0,by simp,by omega,by simp,by simp,by simp,by simp,by simp,by simp⟩ ?_
 rintro m ⟨fr,hp⟩ ⟨i,rfl,hi,hs0,hs2,hs3,hh2,hh6,hh21⟩
 simp at hs0 hs2 hs3 hh2 hh6 hh21
 have hsz:=strP_size s i
 have hzl:=zP_le s.size
 obtain⟨N,hN⟩: ∃N,N=s.size+1+i:=⟨_,rfl⟩
 obtain⟨c,hc⟩: ∃c,c=N%16:=⟨_,rfl⟩
 have hcN:(N:Int)%16=c:=by omega
 have hcN':(N:Int).tmod 16=c:=by rw[Int.tmod_eq_emod_of_nonneg (by omega)];exact hcN
 rw[←hN] at hsz
 by_cases hlt:i<zP s.size
 ·have hc8: ¬c=8:=by have:=zP_lt hlt;omega
  have hc8': ¬(c:Int)=8:=by omega
  have y1:N+(⟨#[0]⟩:ByteArray).size≤9223372036854775807:=by show N+1≤_;omega
  have y2:=strP_succ s i
  have hb:16 - (i+1)<16 - i:=by omega
  clear hN hc hzl
  repeat' (first|(refine ZN ?_)|(refine Z2 ?_ ?_)|(intro h h';try simp[*,-h] at h'))
  all_goals exact⟨_,hb,i+1,rfl,hlt,by simp[*],by simp[*],by simp[*],by simp[*],by simp[*],by simp[*]⟩
 ·obtain rfl:i=zP s.size:=by omega
  have hz:=zP_spec s.size
  have hc8:c=8:=by omega
  obtain⟨n,hn⟩: ∃n,N=4*n:=⟨N/4,by omega⟩
  have hN16:N+8=16*(n/4+1):=by omega
  have hn4:n+2=4*(n/4+1):=by omega
  have h44:=d44 (strP s (zP s.size)) n (by rw[hsz];omega) (by rw[hsz];exact hn)
  have hwp:=words_pad s hs n (by omega)
  have hps:(padS s).size/16=n/4+1:=by rw[padS_size];omega
  unfold ofP
  rw[hps]
  obtain⟨W0,hW0⟩: ∃W0,W0=upto (fun k=>wordAt (strP s (zP s.size)) (4*k)) n:=⟨_,rfl⟩
  rw[←hW0] at h44 hwp
  have hWl:W0.length=n:=by rw[hW0,upto_length]
  obtain⟨nb,hnb⟩: ∃nb,nb=n/4+1:=⟨_,rfl⟩
  rw[←hnb] at hn4⊢
  have hn4':=Lib.hid hn4
  have rp2: ∀x:List AV,List.replicate 2 x=[x,x]:=fun _=>rfl
  have y1:(n+2)*4≤140737488355328:=by omega
  have y2:n≤9223372036854775805:=by omega
  have y6:n+2≤140737488355328:=by omega
  have y3:rowW W0++[[uv (s.size:Int)],[uv 0]]=rowW (upto (fun k=>wordAt (padS s) (4*k)) (n+2)):=by rw[←hwp,rowW_app];rfl
  have y4:(rowW W0).length=n:=by rw[List.length_map,hWl]
  have y5:(rowW W0).take n=rowW W0:=List.take_of_length_le (by omega)
  obtain⟨RV,hRV⟩: ∃RV,RV=rowW (upto (fun k=>wordAt (padS s) (4*k)) (n+2)):=⟨_,rfl⟩
  rw[←hRV] at y3
  have hRVK:=Lib.hid hRV
  clear hRV hwp hW0 hWl hN hc hz hzl hlt hi hn hN16 hps hnb hn4
  generalize rowW W0=RW at*
  generalize strP s (zP s.size)=ST at*
  repeat' (first|(refine ZN ?_)|(refine Z2 ?_ ?_)|(intro h h';try simp[*,-h] at h'))
  have hRl:RV.length=n+2:=by rw[hRVK.out,List.length_map,upto_length]
  have hRg: ∀j,j<n+2→ ∀h,RV[j]'h=[uv (wordAt (padS s) (4*j))]:=fun j hj h=>by
   have:=hRVK.out
   subst this
   simp[upto]
  have hRgK:=Lib.hid hRg
  clear hRg
  refine W_loopS (n:=nb) (fun s0 m q=> ∃k a:Nat,m=nb - k∧k≤nb∧a=4*k∧q.fr 7=iv a∧q.hp ⟨0,6,0⟩= .box 1 (spongeP (padS s) k).row false∧q.fr 2=s0.fr 2∧q.fr 4=s0.fr 4∧q.fr 6=s0.fr 6∧q.hp ⟨0,2,0⟩=s0.hp ⟨0,2,0⟩∧q.hp ⟨0,21,1000⟩=s0.hp ⟨0,21,1000⟩) ⟨0,0,by simp,by omega,by simp,by simp,by simp[spongeP,S8.row,hh6],by simp,by simp,by simp,by simp,by simp⟩ ?_
  rintro m ⟨fr,hp⟩ ⟨k,a,rfl,hk,ha,gs7,gh6,gs2,gs4,gs6,gh2,gh21⟩
  simp[hs2,hh2,hh6,hh21] at gs7 gs2 gs4 gs6 gh2 gh21
  simp only at gh6
  by_cases hlt:k<nb
  ·have hn4:=hn4'.out
   have hlI:(a:Int)<(n:Int)+2:=by omega
   have haw:IntKind.i64.wrap ((a:Int)+4)=((a+4:Nat):Int):=by rw[wrap64 (by omega) (by omega)];omega
   have hak:4*a=16*k:=by omega
   have w1:IntKind.i64.wrap ((a:Int)+1)=(a:Int)+1:=wrap64 (by omega) (by omega)
   have p1:(0:Int)≤(a:Int)+1:=by omega
   have t1:((a:Int)+1).toNat=a+1:=by omega
   have w2:IntKind.i64.wrap ((a:Int)+2)=(a:Int)+2:=wrap64 (by omega) (by omega)
   have p2:(0:Int)≤(a:Int)+2:=by omega
   have t2:((a:Int)+2).toNat=a+2:=by omega
   have w3:IntKind.i64.wrap ((a:Int)+3)=(a:Int)+3:=wrap64 (by omega) (by omega)
   have p3:(0:Int)≤(a:Int)+3:=by omega
   have t3:((a:Int)+3).toNat=a+3:=by omega
   have b1:a+1<n+2:=by omega
   have g1: ∀h,RV[a+1]'h=[uv (wordAt (padS s) (16*k+4))]:=fun h=>by rw[hRgK.out _ b1 h];rw[show 4*(a+1)=16*k+4 by omega]
   have b2:a+2<n+2:=by omega
   have g2: ∀h,RV[a+2]'h=[uv (wordAt (padS s) (16*k+8))]:=fun h=>by rw[hRgK.out _ b2 h];rw[show 4*(a+2)=16*k+8 by omega]
   have b3:a+3<n+2:=by omega
   have g3: ∀h,RV[a+3]'h=[uv (wordAt (padS s) (16*k+12))]:=fun h=>by rw[hRgK.out _ b3 h];rw[show 4*(a+3)=16*k+12 by omega]
   have b0:a<n+2:=by omega
   have g0: ∀h,RV[a]'h=[uv (wordAt (padS s) (16*k))]:=fun h=>by rw[hRgK.out _ b0 h];rw[hak]
   have h45:=d45 (spongeP (padS s) k) (four (padS s) (16*k))
   obtain⟨z',hz'⟩: ∃z',z'=spongeP (padS s) (k+1):=⟨_,rfl⟩
   have hk1:takeP (spongeP (padS s) k) (four (padS s) (16*k))=z':=by rw[hz'];rfl
   rw[hk1] at h45
   have ha1:a+4=4*(k+1):=by omega
   obtain⟨a',ha'⟩: ∃a',a'=a+4:=⟨_,rfl⟩
   rw[←ha'] at haw ha1
   have hH:=Lib.hid ha1
   have hz2:=Lib.hid hz'
   unfold four at h45
   clear hk1 ha ha1 ha' hz' hn4 hak
   generalize spongeP (padS s) k=z at*
   generalize wordAt (padS s) (16*k)=y0 at*
   generalize wordAt (padS s) (16*k+4)=y1 at*
   generalize wordAt (padS s) (16*k+8)=y2 at*
   generalize wordAt (padS s) (16*k+12)=y3 at*
   obtain⟨x0,x1,x2,x3,x4,x5,x6,x7⟩:=z
   obtain⟨z0,z1,z2,z3,z4,z5,z6,z7⟩:=z'
   simp only[S8.row,D4.row] at h45 gh6
   repeat' (first|(refine ZN ?_)|(refine Z2 ?_ ?_)|(intro h h';try simp[*,-h] at h'))
   all_goals exact⟨_,by omega,k+1,a',rfl,hlt,hH.out,by simp[*],by rw[←hz2.out];simp[*,S8.row],by simp[*],by simp[*],by simp[*],by simp[*],by simp[*]⟩
  ·obtain rfl:k=nb:=by omega
   have hn4:=hn4'.out
   have hlI:((n:Int)+2)=(a:Int):=by omega
   generalize spongeP (padS s) k=z at*
   obtain⟨x0,x1,x2,x3,x4,x5,x6,x7⟩:=z
   simp only[S8.row] at gh6
   simp only[front,D4.row]
   clear ha hlt hn4
   repeat' (first|(refine ZN ?_)|(refine Z2 ?_ ?_)|(intro h h';try simp[*,-h] at h'))
   all_goals rfl
end
section
open Go Go.Ab
theorem d33 (a b:D4):(lim Tryz.prog E47 X46).dat 33 [.agg a.row,.agg b.row]=some [.agg (pairP a b).row]:=by
 refine fnW Tryz.func33 rfl rfl bodyOk_33 rfl rtys_33 rfl ?_
 have h1:=d51 ⟨2,0,0,0,0,0,0,0⟩ a
 have h2:=d51 (takeP ⟨2,0,0,0,0,0,0,0⟩ a) b
 have h3:=d50 (takeP (takeP ⟨2,0,0,0,0,0,0,0⟩ a) b)
 unfold pairP
 generalize takeP ⟨2,0,0,0,0,0,0,0⟩ a=z at*
 generalize takeP z b=z' at*
 generalize front z'=y at*
 obtain⟨a0,a1,a2,a3⟩:=a
 obtain⟨b0,b1,b2,b3⟩:=b
 obtain⟨y0,y1,y2,y3⟩:=y
 obtain⟨z0,z1,z2,z3,z4,z5,z6,z7⟩:=z
 obtain⟨q0,q1,q2,q3,q4,q5,q6,q7⟩:=z'
 simp only[S8.row,D4.row] at*
 repeat' (first|(refine ZN ?_)|(refine Z2 ?_ ?_)|(intro h h';try simp[*,-h] at h'))
 all_goals rfl
theorem d37 (a b:D4):(lim Tryz.prog E47 X46).dat 37 [.agg a.row,.agg b.row]=some [.agg (pairP a b).row]:=by
 refine fnW Tryz.func37 rfl rfl bodyOk_37 rfl rtys_37 rfl ?_
 have h1:=d45 ⟨2,0,0,0,0,0,0,0⟩ a
 have h2:=d45 (takeP ⟨2,0,0,0,0,0,0,0⟩ a) b
 unfold pairP
 generalize takeP ⟨2,0,0,0,0,0,0,0⟩ a=z at*
 generalize takeP z b=z' at*
 unfold front
 obtain⟨a0,a1,a2,a3⟩:=a
 obtain⟨b0,b1,b2,b3⟩:=b
 obtain⟨z0,z1,z2,z3,z4,z5,z6,z7⟩:=z
 obtain⟨q0,q1,q2,q3,q4,q5,q6,q7⟩:=z'
 simp only[S8.row,D4.row] at*
 repeat' (first|(refine ZN ?_)|(refine Z2 ?_ ?_)|(intro h h';try simp[*,-h] at h'))
 all_goals rfl
end
end Go.Proofs.YtpedpkegmalgmaaGreatDoor.Q
