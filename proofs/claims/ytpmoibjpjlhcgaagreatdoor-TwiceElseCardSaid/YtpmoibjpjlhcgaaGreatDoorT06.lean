/- A part of the proof: Qd, Qe, Qf, Qg, Ya, Yc, Yd, Ye. -/
import Derived.Test.YtpmoibjpjlhcgaaGreatDoorT05
import Derived.Lib.Hide
import Derived.Test.YtpmoibjpjlhcgaaGreatDoorT02
import Derived.Laws.StructEq
import Derived.ChangeKeysEq
import Derived.Test.YtpmoibjpjlhcgaaGreatDoorT00
set_option linter.unusedSimpArgs false
set_option linter.unusedVariables false
set_option maxRecDepth 200000
set_option maxHeartbeats 8000000
namespace Go.Proofs.YtpmoibjpjlhcgaaGreatDoor.Q
section
open Go Go.Ab
attribute [-simp] Prog.bind getCs putCs
attribute [local simp ↓] run_bind
attribute [local simp ↓] Au
attribute [local simp] Ar Am facetsC Ax At Bf facetsW facetsH
@[simp] theorem fdx32 (w:Int):w.fdiv (2^min 32 IntKind.u64.bits)=w/4294967296:=by rw[show(2:Int)^min 32 IntKind.u64.bits=4294967296 from by decide+kernel];exact Int.fdiv_eq_ediv_of_nonneg _ Zo
theorem d34 (s:ByteArray)(hs:s.size<=1000000):(lim P0 E47 X46).dat 12 [.sc (.string s)]=some [.agg (ofP s).row]:=by
 refine fnW Tryz.func12 rfl rfl Gra rfl rtys_12 rfl ?_
 obtain⟨w,hw⟩: ∃w,w=s.size/16*16:=⟨_,rfl⟩
 obtain⟨g,hg⟩: ∃g,g=s.size/16:=⟨_,rfl⟩
 have q1:IntKind.i64.wrap ((s.size:Int)/16)=(g:Int):=by rw[Ad Zo Zo];omega
 have q1':IntKind.i64.wrap ((s.size:Int).tdiv 16)=(g:Int):=by rw[Int.tdiv_eq_ediv_of_nonneg Zo];exact q1
 have q3:IntKind.i64.wrap ((s.size:Int)/16*16)=(w:Int):=by rw[Ad Zo Zo];omega
 have q2:IntKind.i64.wrap ((g:Int)*16)=(w:Int):=by rw[Ad Zo Zo];omega
 have hws:w<=s.size:=Zo
 have hgK:=Lib.hid hg
 have hwK:=Lib.hid hw
 clear hg hw q3 q1'
 repeat' (first|refine ZN ?_|refine Z2 ?_ ?_|(intro h h';try simp[*,-h] at h'))
 refine Ag (n:=g) (fun s0 m q=> ∃k a:Nat,m=g - k/\k<=g/\a=16*k/\q.fr 5=iv a/\q.hp ⟨0,3,0⟩= .box 1 (spongeP (padS s) k).row false/\q.fr 0=s0.fr 0/\q.fr 2=s0.fr 2/\q.fr 3=s0.fr 3/\q.fr 4=s0.fr 4/\q.hp ⟨0,2,0⟩=s0.hp ⟨0,2,0⟩/\(q.hp ⟨0,28,0⟩).gen=0) ⟨0,0,Zi,Zo,Zi,Zi,by simp[spongeP,S8.row],Zi,Zi,Zi,Zi,Zi,Zi⟩ ?_
 rintro m ⟨fr,hp⟩ ⟨k,a,rfl,hk,ha,hs5,hh3,hs0,hs2,hs3,hs4,hh2,hg28⟩
 simp at hs5 hs0 hs2 hs3 hs4 hh2 hg28
 simp only at hh3
 have hg:=hgK.out
 have hw:=hwK.out
 by_cases hlt:k<g
 ·have hlI:(a:Int)<w:=Zo
  have haw:IntKind.i64.wrap ((a:Int)+16)=((a+16:Nat):Int):=by rw[Ad Zo Zo];omega
  have h52:=d52 s a Zo Zo
  rw[Lqa s a Zo] at h52
  have h51:=d51 (spongeP (padS s) k) (four (padS s) a)
  obtain⟨z',hz'⟩: ∃z',z'=spongeP (padS s) (k+1):=⟨_,rfl⟩
  have hk1:takeP (spongeP (padS s) k) (four (padS s) a)=z':=by subst ha hz';rfl
  rw[hk1] at h51
  have ha1:a+16=16*(k+1):=Zo
  obtain⟨a',ha'⟩: ∃a',a'=a+16:=⟨_,rfl⟩
  rw[<-ha'] at haw ha1
  have hH:=Lib.hid ha1
  have hz2:=Lib.hid hz'
  clear hk1 ha ha1 ha' hz'
  generalize spongeP (padS s) k=z at*
  generalize four (padS s) a=y at*
  obtain⟨x0,x1,x2,x3,x4,x5,x6,x7⟩:=z
  obtain⟨z0,z1,z2,z3,z4,z5,z6,z7⟩:=z'
  obtain⟨y0,y1,y2,y3⟩:=y
  simp only[S8.row,D4.row] at h51 h52 hh3
  clear hw hg
  repeat' (first|refine ZN ?_|refine Z2 ?_ ?_|(intro h h';try simp[*,-h] at h'))
  all_goals exact⟨_,Zo,k+1,a',rfl,hlt,hH.out,Zm,by rw[<-hz2.out];simp[*,S8.row],Zm,Zm,Zm,Zm,Zm,Zm⟩
 ·obtain rfl:k=g:=Zo
  obtain rfl:a=w:=Zo
  clear hlt ha hg hw
  have c1:IntKind.u64.wrap (s.size:Int)=s.size:=by rw[IntKind.wrap_u64];omega
  obtain⟨R0,hR0⟩: ∃R0,R0=s.data.toList.drop a:=⟨_,rfl⟩
  obtain⟨n0,hn0⟩: ∃n0,n0=s.size - a:=⟨_,rfl⟩
  have hRl:R0.length=n0:=by rw[hR0,List.length_drop,<-C4,hn0]
  have x1:n0<=9223372036854775807:=Zo
  have x2:List.take n0 (List.drop a (List.map (fun b=>[AV.sc (Value.int IntKind.u8 b.toNat)]) s.data.toList))=rowU R0:=by
   rw[<-List.map_drop,<-hR0,<-List.map_take,List.take_of_length_le Zo]
  have x3:s.size - a=n0:=hn0.symm
  have x4:(n0+1)<=140737488355328:=Zo
  have x5:n0<=9223372036854775806:=Zo
  have x6:rowU R0++[[.sc (.int .u8 128)]]=rowU (R0++[128]):=P8 _ _ _ rfl
  have x7:(rowU R0).length=n0:=by rw[List.length_map];exact hRl
  have hn:=Lib.hid hn0
  have hR:=Lib.hid hR0
  have hRn:=Lib.hid hRl
  clear hn0 hR0 hRl
  obtain⟨RU,hRU⟩: ∃RU,RU=rowU R0:=⟨_,rfl⟩
  obtain⟨RV,hRV⟩: ∃RV,RV=rowU (R0++[128]):=⟨_,rfl⟩
  rw[<-hRU] at x2 x6 x7
  rw[<-hRV] at x6
  have hRVK:=Lib.hid hRV
  clear hRU hRV
  repeat' (first|refine ZN ?_|refine Z2 ?_ ?_|(intro h h';try simp[*,-h] at h'))
  refine Ag (n:=16) (fun s0 m q=> ∃i g:Nat,m=16 - i/\i<=zP s.size/\q.fr 6= .own ⟨0,28,0⟩ g (n0+1+i)/\q.hp ⟨0,28,0⟩= .arr g 1 5 (rowU (R0++128::List.replicate i 0)) false/\q.fr 0=s0.fr 0/\q.fr 2=s0.fr 2/\q.fr 3=s0.fr 3/\q.hp ⟨0,2,0⟩=s0.hp ⟨0,2,0⟩/\q.hp ⟨0,3,0⟩=s0.hp ⟨0,3,0⟩) ⟨0,2,Zi,Zo,by simp[hg28],by rw[show R0++128::List.replicate 0 0=R0++[128] from rfl,<-hRVK.out];simp[hg28],Zi,Zi,Zi,Zi,Zi⟩ ?_
  rintro m ⟨fr,hp⟩ ⟨i,g,rfl,hi,hs6,hh28,gs0,gs2,gs3,gh2,gh3⟩
  simp[hs0,hs2,hs3,hh2,hh3] at hs6 gs0 gs2 gs3 gh2 gh3
  simp only at hh28
  obtain⟨N,hN⟩: ∃N,N=n0+1+i:=⟨_,rfl⟩
  obtain⟨c,hc⟩: ∃c,c=N%16:=⟨_,rfl⟩
  have hcN:(N:Int)%16=c:=Zo
  have hcN':(N:Int).tmod 16=c:=by rw[Int.tmod_eq_emod_of_nonneg Zo];exact hcN
  have hz8:n0%16=s.size%16:=by have:=hn.out;have:=hwK.out;omega
  obtain⟨RR,hRR⟩: ∃RR,RR=R0++128::List.replicate i 0:=⟨_,rfl⟩
  have hRRl:(rowU RR).length=N:=by rw[List.length_map,hRR,List.length_append,hRn.out,hN];simp;omega
  rw[<-hRR] at hh28
  rw[<-hN] at hs6
  by_cases hlt:i<zP s.size
  ·have hc8: ¬c=8:=by
    have:=zP_lt hlt
    omega
   have hc8': ¬(c:Int)=8:=Zo
   have y1:N+1<=140737488355328:=by have:=Py s.size;omega
   have y2:N<=9223372036854775806:=Zo
   have y3:rowU RR++[[.sc (.int .u8 0)]]=rowU (RR++[0]):=P8 _ _ _ rfl
   have y4:RR++[0]=R0++128::List.replicate (i+1) 0:=by rw[hRR,List.append_assoc,List.replicate_succ'];rfl
   rw[y4] at y3
   have hNK:=Lib.hid hN
   clear hN hc hRR y4
   obtain⟨RZ,hRZ⟩: ∃RZ,RZ=rowU (R0++128::List.replicate (i+1) 0):=⟨_,rfl⟩
   rw[<-hRZ] at y3
   have hRZK:=Lib.hid hRZ
   clear hRZ
   generalize rowU RR=RN at*
   repeat' (first|refine ZN ?_|refine Z2 ?_ ?_|(intro h h';try simp[*,-h] at h'))
   all_goals exact⟨_,by have:=Py s.size;omega,i+1,g+1,rfl,hlt,by simp[*];(try (have:=hNK.out;omega)),by rw[<-hRZK.out];simp[*],Zm,Zm,Zm,Zm,Zm⟩
  ·obtain rfl:i=zP s.size:=Zo
   have hc8:c=8:=by have:=Rs s.size;have:=Py s.size;omega
   have c2:IntKind.u32.wrap (s.size:Int)=s.size:=by rw[IntKind.wrap_u32];omega
   have c3:(s.size:Int)/4294967296=0:=Zo
   have c4:IntKind.u32.wrap 0=0:=by decide+kernel
   have h26:=d26 [(s.size:Int),0] Zi (by simp[U];omega)
   obtain⟨X8,hX8⟩: ∃X8,X8=txtW [(s.size:Int),0]:=⟨_,rfl⟩
   have hXs:X8.size=8:=by rw[hX8,Dia];rfl
   rw[<-hX8] at h26
   have h26':(lim P0 E47 X46).dat 33 [.sl false 1 [[uv (s.size:Int)],[uv 0]]]=some [.sc (.string X8)]:=h26
   clear h26
   have hbr:=O2 RR
   have htk:(rowU RR).take N=rowU RR:=List.take_of_length_le Zo
   have hRRn:RR.length=N:=by rw[<-hRRl,List.length_map]
   obtain⟨T,hT⟩: ∃T,T=(⟨⟨RR⟩⟩:ByteArray)++X8:=⟨_,rfl⟩
   have hTs:T.size=N+8:=by rw[hT,ByteArray.size_append,hXs,<-hRRn];rfl
   have hTl:T.data.toList=RR++X8.data.toList:=by rw[hT,ByteArray.data_append,Array.toList_append]
   have hT':=hT.symm
   have hTN:N+8<=9223372036854775807:=by have:=Py s.size;omega
   have hfour: ∀j,four T j=four (padS s) (a+j):=fun j=>by
    refine Eya s a hws T ?_ j
    rw[hTl,hRR,hR.out,hX8,Dja]
   have hTs':=Lib.hid hTs
   have hfK:=Lib.hid hfour
   have hNK:=Lib.hid hN
   have hzz:=Rs s.size
   have hzl:=Py s.size
   have hps:=Qa s
   have hzK:=Lib.hid (⟨hzz,hzl,hps⟩:_/\_/\_)
   clear hT hTl hRR hX8 hfour hN hc hz8 hlt hi hzz hzl hps hTs
   generalize rowU RR=RN at*
   have rp2: ∀x:List AV,List.replicate 2 x=[x,x]:=fun _=>rfl
   have z1:(⟨⟨RR⟩⟩:ByteArray).size<=9223372036854775799:=by show RR.length<=_;omega
   repeat' (first|refine ZN ?_|refine Z2 ?_ ?_|(intro h h';try simp[*,-h] at h'))
   obtain⟨nt,hnt⟩: ∃nt,nt=T.size/16:=⟨_,rfl⟩
   have hT16:T.size=16*nt:=by
    have:=hTs'.out;have:=hNK.out;have:=hzK.out.1;have:=hn.out;have:=hwK.out;omega
   have hP16:(padS s).size/16=k+nt:=by
    have:=hTs'.out;have:=hNK.out;have:=hzK.out.2.2;have:=hn.out;have:=hwK.out;have:=hgK.out;omega
   have hTb:T.size<=1048576:=by
    have:=hTs'.out;have:=hNK.out;have:=hzK.out.2.1;omega
   unfold ofP
   rw[hP16]
   have hP:=Lib.hid hP16
   have hT1:=Lib.hid hT16
   have hak:a=16*k:=by have:=hwK.out;have:=hgK.out;omega
   have hak':=Lib.hid hak
   clear hP16 hT16 hnt hak
   refine Ag (n:=nt) (fun s0 m q=> ∃j b:Nat,m=nt - j/\j<=nt/\b=16*j/\q.fr 9=iv b/\q.hp ⟨0,3,0⟩= .box 1 (spongeP (padS s) (k+j)).row false/\q.fr 8=s0.fr 8/\q.fr 2=s0.fr 2/\q.fr 3=s0.fr 3/\q.hp ⟨0,2,0⟩=s0.hp ⟨0,2,0⟩) ⟨0,0,Zi,Zo,Zi,Zi,Zm,Zi,Zi,Zi,Zi⟩ ?_
   rintro m ⟨fr,hp⟩ ⟨j,b,rfl,hj,hb,hs9,hh3,hs8,hs2,hs3,hh2⟩
   simp[gs2,gs3,gh2] at hs9 hs8 hs2 hs3 hh2
   simp only at hh3
   by_cases hlt:j<nt
   ·have hlI:(b:Int)<T.size:=by have:=hT1.out;omega
    have hbw:IntKind.i64.wrap ((b:Int)+16)=((b+16:Nat):Int):=by rw[Ad Zo Zo];omega
    have h52:=d52 T b Zo (by have:=hT1.out;omega)
    rw[hfK.out b] at h52
    have h51:=d51 (spongeP (padS s) (k+j)) (four (padS s) (a+b))
    obtain⟨z',hz'⟩: ∃z',z'=spongeP (padS s) (k+(j+1)):=⟨_,rfl⟩
    have hk1:takeP (spongeP (padS s) (k+j)) (four (padS s) (a+b))=z':=by
     have:=hak'.out
     rw[hz',show a+b=16*(k+j) by omega];rfl
    rw[hk1] at h51
    have hb1:b+16=16*(j+1):=Zo
    obtain⟨b',hb'⟩: ∃b',b'=b+16:=⟨_,rfl⟩
    rw[<-hb'] at hbw hb1
    have hH:=Lib.hid hb1
    have hz2:=Lib.hid hz'
    clear hk1 hb hb1 hb' hz'
    generalize spongeP (padS s) (k+j)=z at*
    generalize four (padS s) (a+b)=y at*
    obtain⟨x0,x1,x2,x3,x4,x5,x6,x7⟩:=z
    obtain⟨z0,z1,z2,z3,z4,z5,z6,z7⟩:=z'
    obtain⟨y0,y1,y2,y3⟩:=y
    simp only[S8.row,D4.row] at h51 h52 hh3
    repeat' (first|refine ZN ?_|refine Z2 ?_ ?_|(intro h h';try simp[*,-h] at h'))
    all_goals exact⟨_,Zo,j+1,b',rfl,hlt,hH.out,Zm,by rw[<-hz2.out];simp[*,S8.row],Zm,Zm,Zm,Zm⟩
   ·obtain rfl:j=nt:=Zo
    have hbT:T.size=b:=by have:=hT1.out;omega
    have h50:=d50 (spongeP (padS s) (k+j))
    generalize spongeP (padS s) (k+j)=z at*
    generalize front z=y at*
    obtain⟨x0,x1,x2,x3,x4,x5,x6,x7⟩:=z
    obtain⟨y0,y1,y2,y3⟩:=y
    simp only[S8.row,D4.row] at h50 hh3
    simp only[D4.row]
    clear hb hlt
    exact ZS
end
section
open Go Go.Ab
attribute [-simp] Prog.bind getCs putCs
attribute [local simp ↓] run_bind
attribute [local simp ↓] Au
attribute [local simp] Ar Am facetsC Ax At Bf facetsW facetsH
theorem T3 (a b:List Int):rowW (a++b)=rowW a++b.map fun x=>[uv x]:=List.map_append
@[simp] theorem wrap_m1 :IntKind.i64.wrap (-1)= -1:=by decide+kernel
theorem d44 (s:ByteArray)(n:Nat)(hs:s.size<=1048576)(hn:s.size=4*n):(lim P0 E47 X46).dat 17 [.sc (.string s)]=some [.vec 1 (rowW (upto (fun k=>wordAt s (4*k)) n)),iv 0]:=by
 refine fnW Tryz.func17 rfl rfl Goa rfl rtys_17 rfl ?_
 have q1:(s.size:Int)%4=0:=Zo
 have q2:(s.size:Int).tmod 4=0:=by rw[Int.tmod_eq_emod_of_nonneg Zo];exact q1
 have q3:IntKind.i64.wrap ((s.size:Int)/4)=(n:Int):=by rw[Ad Zo Zo];omega
 have q4:IntKind.i64.wrap ((s.size:Int).tdiv 4)=(n:Int):=by rw[Int.tdiv_eq_ediv_of_nonneg Zo];exact q3
 have q5:(n:Int)*4<=140737488355328:=Zo
 have q6:(n:Int)<=140737488355328:=Zo
 have q7:(n:Int)<=9223372036854775807:=Zo
 have q8:(0:Int)<=n:=Zo
 have q9:IntKind.u32.wrap 0=0:=by decide+kernel
 have hnK:=Lib.hid hn
 clear hn
 repeat' (first|refine ZN ?_|refine Z2 ?_ ?_|(intro h h';try simp[*,-h] at h'))
 refine Ag (n:=n) (fun s0 m q=> ∃k a g:Nat,m=n - k/\k<=n/\a=4*k/\q.fr 5=iv a/\q.fr 4= .own ⟨0,15,0⟩ g k/\q.hp ⟨0,15,0⟩= .arr g 1 23 (rowW (upto (fun k=>wordAt s (4*k)) k)) false/\q.fr 0=s0.fr 0) ⟨0,0,1,Zi,Zo,Zi,Zi,Zi,by simp[upto],Zi⟩ ?_
 rintro m ⟨fr,hp⟩ ⟨k,a,g,rfl,hk,ha,hs5,hs4,hh15,hs0⟩
 simp at hs5 hs4 hs0
 simp only at hh15
 have hn:=hnK.out
 by_cases hlt:k<n
 ·have hlI:(a:Int)<s.size:=Zo
  have haw:IntKind.i64.wrap ((a:Int)+4)=((a+4:Nat):Int):=by rw[Ad Zo Zo];omega
  obtain⟨B0,h0,e0⟩:=A0 (s:=s) (i:=a) Zo
  have v0:=B0.toNat_lt
  have u0:IntKind.u32.wrap (B0.toNat:Int)=B0.toNat:=by rw[IntKind.wrap_u32];omega
  have w0:IntKind.i64.wrap ((a:Int))=(a:Int):=Ad Zo Zo
  obtain⟨B1,h1,e1⟩:=A0 (s:=s) (i:=a+1) Zo
  have v1:=B1.toNat_lt
  have u1:IntKind.u32.wrap (B1.toNat:Int)=B1.toNat:=by rw[IntKind.wrap_u32];omega
  have w1:IntKind.i64.wrap ((a:Int)+1)=(a:Int)+1:=Ad Zo Zo
  have p1:(0:Int)<=(a:Int)+1:=Zo
  have t1:((a:Int)+1).toNat=a+1:=Zo
  obtain⟨B2,h2,e2⟩:=A0 (s:=s) (i:=a+2) Zo
  have v2:=B2.toNat_lt
  have u2:IntKind.u32.wrap (B2.toNat:Int)=B2.toNat:=by rw[IntKind.wrap_u32];omega
  have w2:IntKind.i64.wrap ((a:Int)+2)=(a:Int)+2:=Ad Zo Zo
  have p2:(0:Int)<=(a:Int)+2:=Zo
  have t2:((a:Int)+2).toNat=a+2:=Zo
  obtain⟨B3,h3,e3⟩:=A0 (s:=s) (i:=a+3) Zo
  have v3:=B3.toNat_lt
  have u3:IntKind.u32.wrap (B3.toNat:Int)=B3.toNat:=by rw[IntKind.wrap_u32];omega
  have w3:IntKind.i64.wrap ((a:Int)+3)=(a:Int)+3:=Ad Zo Zo
  have p3:(0:Int)<=(a:Int)+3:=Zo
  have t3:((a:Int)+3).toNat=a+3:=Zo
  have m1:IntKind.u32.wrap ((B3.toNat:Int)*256)=B3.toNat*256:=by rw[IntKind.wrap_u32];omega
  have m2:IntKind.u32.wrap ((B3.toNat:Int)*256+B2.toNat)=B3.toNat*256+B2.toNat:=by rw[IntKind.wrap_u32];omega
  have m3:IntKind.u32.wrap (((B3.toNat:Int)*256+B2.toNat)*256)=(B3.toNat*256+B2.toNat)*256:=by rw[IntKind.wrap_u32];omega
  have m4:IntKind.u32.wrap (((B3.toNat:Int)*256+B2.toNat)*256+B1.toNat)=(B3.toNat*256+B2.toNat)*256+B1.toNat:=by rw[IntKind.wrap_u32];omega
  have m5:IntKind.u32.wrap ((((B3.toNat:Int)*256+B2.toNat)*256+B1.toNat)*256)=((B3.toNat*256+B2.toNat)*256+B1.toNat)*256:=by rw[IntKind.wrap_u32];omega
  have m6:IntKind.u32.wrap ((((B3.toNat:Int)*256+B2.toNat)*256+B1.toNat)*256+B0.toNat)=((B3.toNat*256+B2.toNat)*256+B1.toNat)*256+B0.toNat:=by rw[IntKind.wrap_u32];omega
  have o:wordAt s a=(((B3.toNat:Int)*256+B2.toNat)*256+B1.toNat)*256+B0.toNat:=by
   unfold wordAt
   rw[<-e1,<-e2,<-e3]
   have:=e0
   rw[<-this]
   omega
  have y1:(k+1)*4<=140737488355328:=Zo
  have y2:k<=9223372036854775806:=Zo
  have y5:k+1<=140737488355328:=Zo
  have y3:rowW (upto (fun k=>wordAt s (4*k)) k)++[[uv ((((B3.toNat:Int)*256+B2.toNat)*256+B1.toNat)*256+B0.toNat)]]=rowW (upto (fun k=>wordAt s (4*k)) (k+1)):=by
   rw[D5,<-o,ha,T3];rfl
  have y4:(rowW (upto (fun k=>wordAt s (4*k)) k)).length=k:=by rw[List.length_map,B4]
  have ha1:a+4=4*(k+1):=Zo
  obtain⟨a',ha'⟩: ∃a',a'=a+4:=⟨_,rfl⟩
  rw[<-ha'] at haw ha1
  have hH:=Lib.hid ha1
  obtain⟨RZ,hRZ⟩: ∃RZ,RZ=rowW (upto (fun k=>wordAt s (4*k)) (k+1)):=⟨_,rfl⟩
  rw[<-hRZ] at y3
  have hRZK:=Lib.hid hRZ
  clear e0 e1 e2 e3 v0 v1 v2 v3 o ha ha1 ha' hRZ hn
  generalize rowW (upto (fun k=>wordAt s (4*k)) k)=RN at*
  repeat' (first|refine ZN ?_|refine Z2 ?_ ?_|(intro h h';try simp[*,-h] at h')|with_reducible apply Fi|fail)
  all_goals exact⟨_,Zo,k+1,a',g+1,rfl,hlt,hH.out,Zm,Zm,by rw[<-hRZK.out];simp[*],Zm⟩
 ·obtain rfl:k=n:=Zo
  have hlI:s.size=a:=Zo
  have y4:(rowW (upto (fun k=>wordAt s (4*k)) k)).length=k:=by rw[List.length_map,B4]
  have y5:(rowW (upto (fun k=>wordAt s (4*k)) k)).take k=rowW (upto (fun k=>wordAt s (4*k)) k):=List.take_of_length_le Zo
  clear hn ha
  generalize rowW (upto (fun k=>wordAt s (4*k)) k)=RN at*
  exact ZS
end
section
open Go Go.Ab
attribute [-simp] Prog.bind getCs putCs
attribute [local simp ↓] run_bind
attribute [local simp ↓] Au
attribute [local simp] Ar Am facetsC Ax At Bf facetsW facetsH
def strP (s:ByteArray)(i:Nat):ByteArray:=⟨⟨s.data.toList++128::List.replicate i 0⟩⟩
theorem Dpa (s:ByteArray)(i:Nat):(strP s i).size=s.size+1+i:=by
 rw[C4,C4 s];simp[strP];omega
theorem Dna (s:ByteArray):s++⟨#[128]⟩=strP s 0:=by
 apply ba_ext;rw[ByteArray.data_append,Array.toList_append];rfl
theorem Doa (s:ByteArray)(i:Nat):strP s i++⟨#[0]⟩=strP s (i+1):=by
 apply ba_ext;rw[ByteArray.data_append,Array.toList_append]
 show(s.data.toList++128::List.replicate i 0)++[0]=s.data.toList++128::List.replicate (i+1) 0
 rw[List.append_assoc,List.replicate_succ'];rfl
theorem Dba (s:ByteArray)(hs:s.size<=1000000)(n:Nat)(hn:s.size+1+zP s.size=4*n):upto (fun k=>wordAt (strP s (zP s.size)) (4*k)) n++[(s.size:Int),0]=upto (fun k=>wordAt (padS s) (4*k)) (n+2):=by
 have hl:(padR s.data.toList).length=4*n:=by rw[Vd,<-C4];exact hn
 have e1: ∀k,k<n->wordAt (strP s (zP s.size)) (4*k)=wordAt (padS s) (4*k):=fun k hk=>by
  rw[D9,D9]
  show _=wordL (padL _) _
  unfold padL
  rw[Pz _ _ _ Zo]
  rfl
 have hw: ∀k (hk:k<2),wordAt (padS s) (4*(n+k))=[(s.size:Int),0][k]:=fun k hk=>by
  rw[D9]
  show wordL (padL _) _=_
  unfold padL
  rw[show 4*(n+k)=(padR s.data.toList).length+4*k from Zo,Lc]
  have:=Dea [(s.data.toList.length:Int),0] (by simp[U];rw[C4] at hs;simp at hs;omega) [] k (by simpa using hk)
  rw[List.append_nil] at this
  rw[this,C4]
 rw[D5,D5]
 have h0:=hw 0 Zo
 have h1:=hw 1 Zo
 rw[List.append_assoc]
 congr 1
 ·unfold upto
  exact List.map_congr_left fun k hk=>e1 k (List.mem_range.1 hk)
 ·simp only[Nat.add_zero] at h0
  rw[h0,h1];rfl
theorem d27 (s:ByteArray)(hs:s.size<=1000000):(lim P0 E47 X46).dat 7 [.sc (.string s)]=some [.agg (ofP s).row]:=by
 refine fnW Tryz.func7 rfl rfl Moa rfl rtys_7 rfl ?_
 have c1:IntKind.u64.wrap (s.size:Int)=s.size:=by rw[IntKind.wrap_u64];omega
 have c2:IntKind.u32.wrap (s.size:Int)=s.size:=by rw[IntKind.wrap_u32];omega
 have c3:(s.size:Int)/4294967296=0:=Zo
 have c4:IntKind.u32.wrap 0=0:=by decide+kernel
 have c5:=Dna s
 have c6:s.size+(⟨#[128]⟩:ByteArray).size<=9223372036854775807:=by show s.size+1<=_;omega
 repeat' (first|refine ZN ?_|refine Z2 ?_ ?_|(intro h h';try simp[*,-h] at h'))
 refine Ag (n:=16) (fun s0 m q=> ∃i:Nat,m=16 - i/\i<=zP s.size/\q.fr 0= .sc (.string (strP s i))/\q.fr 2=s0.fr 2/\q.fr 3=s0.fr 3/\q.hp ⟨0,2,0⟩=s0.hp ⟨0,2,0⟩/\q.hp ⟨0,6,0⟩=s0.hp ⟨0,6,0⟩/\q.hp ⟨0,21,1000⟩=s0.hp ⟨0,21,1000⟩) ⟨0,Zi,Zo,Zi,Zi,Zi,Zi,Zi,Zi⟩ ?_
 rintro m ⟨fr,hp⟩ ⟨i,rfl,hi,hs0,hs2,hs3,hh2,hh6,hh21⟩
 simp at hs0 hs2 hs3 hh2 hh6 hh21
 have hsz:=Dpa s i
 have hzl:=Py s.size
 obtain⟨N,hN⟩: ∃N,N=s.size+1+i:=⟨_,rfl⟩
 obtain⟨c,hc⟩: ∃c,c=N%16:=⟨_,rfl⟩
 have hcN:(N:Int)%16=c:=Zo
 have hcN':(N:Int).tmod 16=c:=by rw[Int.tmod_eq_emod_of_nonneg Zo];exact hcN
 rw[<-hN] at hsz
 by_cases hlt:i<zP s.size
 ·have hc8: ¬c=8:=by have:=zP_lt hlt;omega
  have hc8': ¬(c:Int)=8:=Zo
  have y1:N+(⟨#[0]⟩:ByteArray).size<=9223372036854775807:=by show N+1<=_;omega
  have y2:=Doa s i
  have hb:16 - (i+1)<16 - i:=Zo
  clear hN hc hzl
  repeat' (first|refine ZN ?_|refine Z2 ?_ ?_|(intro h h';try simp[*,-h] at h'))
  all_goals exact⟨_,hb,i+1,rfl,hlt,Zm,Zm,Zm,Zm,Zm,Zm⟩
 ·obtain rfl:i=zP s.size:=Zo
  have hz:=Rs s.size
  have hc8:c=8:=Zo
  obtain⟨n,hn⟩: ∃n,N=4*n:=⟨N/4,Zo⟩
  have hN16:N+8=16*(n/4+1):=Zo
  have hn4:n+2=4*(n/4+1):=Zo
  have h44:=d44 (strP s (zP s.size)) n (by rw[hsz];omega) (by rw[hsz];exact hn)
  have hwp:=Dba s hs n Zo
  have hps:(padS s).size/16=n/4+1:=by rw[Qa];omega
  unfold ofP
  rw[hps]
  obtain⟨W0,hW0⟩: ∃W0,W0=upto (fun k=>wordAt (strP s (zP s.size)) (4*k)) n:=⟨_,rfl⟩
  rw[<-hW0] at h44 hwp
  have hWl:W0.length=n:=by rw[hW0,B4]
  obtain⟨nb,hnb⟩: ∃nb,nb=n/4+1:=⟨_,rfl⟩
  rw[<-hnb] at hn4⊢
  have hn4':=Lib.hid hn4
  have rp2: ∀x:List AV,List.replicate 2 x=[x,x]:=fun _=>rfl
  have y1:(n+2)*4<=140737488355328:=Zo
  have y2:n<=9223372036854775805:=Zo
  have y6:n+2<=140737488355328:=Zo
  have y3:rowW W0++[[uv (s.size:Int)],[uv 0]]=rowW (upto (fun k=>wordAt (padS s) (4*k)) (n+2)):=by rw[<-hwp,T3];rfl
  have y4:(rowW W0).length=n:=by rw[List.length_map,hWl]
  have y5:(rowW W0).take n=rowW W0:=List.take_of_length_le Zo
  obtain⟨RV,hRV⟩: ∃RV,RV=rowW (upto (fun k=>wordAt (padS s) (4*k)) (n+2)):=⟨_,rfl⟩
  rw[<-hRV] at y3
  have hRVK:=Lib.hid hRV
  clear hRV hwp hW0 hWl hN hc hz hzl hlt hi hn hN16 hps hnb hn4
  generalize rowW W0=RW at*
  generalize strP s (zP s.size)=ST at*
  repeat' (first|refine ZN ?_|refine Z2 ?_ ?_|(intro h h';try simp[*,-h] at h'))
  have hRl:RV.length=n+2:=by rw[hRVK.out,List.length_map,B4]
  have hRg: ∀j,j<n+2-> ∀h,RV[j]'h=[uv (wordAt (padS s) (4*j))]:=fun j hj h=>by
   have:=hRVK.out
   subst this
   simp[upto]
  have hRgK:=Lib.hid hRg
  clear hRg
  refine Ag (n:=nb) (fun s0 m q=> ∃k a:Nat,m=nb - k/\k<=nb/\a=4*k/\q.fr 7=iv a/\q.hp ⟨0,6,0⟩= .box 1 (spongeP (padS s) k).row false/\q.fr 2=s0.fr 2/\q.fr 4=s0.fr 4/\q.fr 6=s0.fr 6/\q.hp ⟨0,2,0⟩=s0.hp ⟨0,2,0⟩/\q.hp ⟨0,21,1000⟩=s0.hp ⟨0,21,1000⟩) ⟨0,0,Zi,Zo,Zi,Zi,by simp[spongeP,S8.row,hh6],Zi,Zi,Zi,Zi,Zi⟩ ?_
  rintro m ⟨fr,hp⟩ ⟨k,a,rfl,hk,ha,gs7,gh6,gs2,gs4,gs6,gh2,gh21⟩
  simp[hs2,hh2,hh6,hh21] at gs7 gs2 gs4 gs6 gh2 gh21
  simp only at gh6
  by_cases hlt:k<nb
  ·have hn4:=hn4'.out
   have hlI:(a:Int)<(n:Int)+2:=Zo
   have haw:IntKind.i64.wrap ((a:Int)+4)=((a+4:Nat):Int):=by rw[Ad Zo Zo];omega
   have hak:4*a=16*k:=Zo
   have w1:IntKind.i64.wrap ((a:Int)+1)=(a:Int)+1:=Ad Zo Zo
   have p1:(0:Int)<=(a:Int)+1:=Zo
   have t1:((a:Int)+1).toNat=a+1:=Zo
   have w2:IntKind.i64.wrap ((a:Int)+2)=(a:Int)+2:=Ad Zo Zo
   have p2:(0:Int)<=(a:Int)+2:=Zo
   have t2:((a:Int)+2).toNat=a+2:=Zo
   have w3:IntKind.i64.wrap ((a:Int)+3)=(a:Int)+3:=Ad Zo Zo
   have p3:(0:Int)<=(a:Int)+3:=Zo
   have t3:((a:Int)+3).toNat=a+3:=Zo
   have b1:a+1<n+2:=Zo
   have g1: ∀h,RV[a+1]'h=[uv (wordAt (padS s) (16*k+4))]:=fun h=>by rw[hRgK.out _ b1 h];rw[show 4*(a+1)=16*k+4 by omega]
   have b2:a+2<n+2:=Zo
   have g2: ∀h,RV[a+2]'h=[uv (wordAt (padS s) (16*k+8))]:=fun h=>by rw[hRgK.out _ b2 h];rw[show 4*(a+2)=16*k+8 by omega]
   have b3:a+3<n+2:=Zo
   have g3: ∀h,RV[a+3]'h=[uv (wordAt (padS s) (16*k+12))]:=fun h=>by rw[hRgK.out _ b3 h];rw[show 4*(a+3)=16*k+12 by omega]
   have b0:a<n+2:=Zo
   have g0: ∀h,RV[a]'h=[uv (wordAt (padS s) (16*k))]:=fun h=>by rw[hRgK.out _ b0 h];rw[hak]
   have h45:=d45 (spongeP (padS s) k) (four (padS s) (16*k))
   obtain⟨z',hz'⟩: ∃z',z'=spongeP (padS s) (k+1):=⟨_,rfl⟩
   have hk1:takeP (spongeP (padS s) k) (four (padS s) (16*k))=z':=by rw[hz'];rfl
   rw[hk1] at h45
   have ha1:a+4=4*(k+1):=Zo
   obtain⟨a',ha'⟩: ∃a',a'=a+4:=⟨_,rfl⟩
   rw[<-ha'] at haw ha1
   have hH:=Lib.hid ha1
   have hz2:=Lib.hid hz'
   unfold four at h45
   clear hk1 ha ha1 ha' hz' hn4 hak
   generalize spongeP (padS s) k=z at*
   generalize wordAt (padS s) (16*k)=y0 at*
   generalize wordAt (padS s) (16*k+4)=y1 at*
   generalize wordAt (padS s) (16*k+8)=y2 at*
   generalize wordAt (padS s) (16*k+12)=y3 at*
   obtain⟨x0,x1,x2,x3,x4,x5,x6,x7⟩:=z
   obtain⟨z0,z1,z2,z3,z4,z5,z6,z7⟩:=z'
   simp only[S8.row,D4.row] at h45 gh6
   repeat' (first|refine ZN ?_|refine Z2 ?_ ?_|(intro h h';try simp[*,-h] at h'))
   all_goals exact⟨_,Zo,k+1,a',rfl,hlt,hH.out,Zm,by rw[<-hz2.out];simp[*,S8.row],Zm,Zm,Zm,Zm,Zm⟩
  ·obtain rfl:k=nb:=Zo
   have hn4:=hn4'.out
   have hlI:((n:Int)+2)=(a:Int):=Zo
   generalize spongeP (padS s) k=z at*
   obtain⟨x0,x1,x2,x3,x4,x5,x6,x7⟩:=z
   simp only[S8.row] at gh6
   simp only[front,D4.row]
   clear ha hlt hn4
   exact ZS
end
end Go.Proofs.YtpmoibjpjlhcgaaGreatDoor.Q
namespace Go.Ab
section
open Go
theorem Kg {P:Program}{w:World}{t:TypeId}{us:List Value}{off:Nat}{v:Value}(ha:isAggB P t=false)(ho:tOk P t=true)(hv:us[off]?=some v):(part t ⟨us⟩ off).run P w= .ok v w:=by
 unfold tOk at ho
 simp only[Bool.and_eq_true] at ho
 obtain⟨_,hu⟩:=ho
 obtain⟨d,hd⟩:=Option.isSome_iff_exists.1 hu
 have hg:(isAgg t).run P w= .ok false w:=by
  unfold isAggB at ha
  rw[hd] at ha
  unfold isAgg
  rw[Sem.run_bind,run_underlying hd]
  cases d<;>simp at ha<;>rfl
 simp[part,Sem.run_bind,hg,Result.andThen,hv]
theorem Cza {P:Program}{w:World}{t:TypeId}{d:Nat}{u v:Value}{r:Bool}(h1:El P t (.sc u)=true)(h2:El P t (.sc v)=true)(h:eqV (.sc u) (.sc v)=some r):(Op.equalIn (d+1) t u v).run P w= .ok r w:=by
 unfold eqV at h
 split at h
 ·rename_i k a k' a' e1 e2
  cases e1;cases e2
  split at h
  ·rename_i hk
   subst hk
   cases h
   simp only[El] at h1
   obtain⟨q,hq⟩:=Option.isSome_iff_exists.1 h1
   unfold intK at hq
   split at hq
   ·rename_i hu;exact run_equalIn_int w d t k _ a a' hu
   ·cases hq
  ·cases h
 ·rename_i a a' e1 e2
  cases e1;cases e2
  cases h
  simp only[El,strB] at h1
  split at h1
  ·rename_i hu
   rw[run_equalIn_string w d t a a' hu,ByteArray.toList_eq,ByteArray.toList_eq]
   congr 1
   rw[Bool.eq_iff_iff]
   simp only[beq_iff_eq,decide_eq_true_eq]
   constructor
   ·intro e;exact ByteArray.ext (Array.ext' e)
   ·intro e;rw[e]
  ·cases h1
 ·rename_i a a' e1 e2
  cases e1;cases e2
  cases h
  simp only[El,bolB] at h1
  split at h1
  ·rename_i hu;exact run_equalIn_bool' w d t a a' hu
  ·cases h1
 ·cases h
theorem Kf {P:Program}{w:World}{t e:TypeId}{n:Nat}{i:TypeInfo}{us:List Value}{off:Nat}(hu:P.underlying t=some (.array n e))(hi:P.info? t=some i):(part t ⟨us⟩ off).run P w= .ok (.agg ((⟨us⟩:Array Value).extract off (off+P.cellsOf t))) w:=by
 simp[part,isAgg,run_underlying hu,run_sizeOf w hi]
theorem Qq : ∀(n:Nat) {xs ys:List AV} {b:Bool},eqL xs ys=some b-> ∃p q,eqL (xs.take n) (ys.take n)=some p/\eqL (xs.drop n) (ys.drop n)=some q/\b=(p&&q)
 |0,xs,ys,b,h=>⟨true,b,by simp[eqL],by simpa using h,Zi⟩
 |n+1,[],[],b,h=>by simp only[eqL,Option.some.injEq] at h;subst h;exact⟨true,true,by simp[eqL],by simp[eqL],rfl⟩
 |n+1,x::xs,y::ys,b,h=>by
  simp only[eqL] at h
  split at h
  ·rename_i u v hv hl
   cases h
   obtain⟨p,q,h1,h2,rfl⟩:=Qq n hl
   exact⟨u&&p,q,by simp only[List.take_succ_cons,eqL,hv,h1],by simpa using h2,by simp[Bool.and_assoc]⟩
  ·cases h
 |n+1,[],_::_,_,h=>by simp[eqL] at h
 |n+1,_::_,[],_,h=>by simp[eqL] at h
theorem Ha {P:Program}: ∀{ts ts':List TypeId} {xs:List AV},fitsL P (ts++ts') xs=true->fitsL P ts (xs.take ts.length)=true/\fitsL P ts' (xs.drop ts.length)=true
 |[],ts',xs,h=>⟨by simp[fitsL],by simpa using h⟩
 |t::ts,ts',[],h=>by simp[fitsL] at h
 |t::ts,ts',x::xs,h=>by
  simp only[List.cons_append,fitsL,Bool.and_eq_true] at h
  obtain⟨h1,h2⟩:=Ha h.2
  exact⟨by simp only[List.length_cons,List.take_succ_cons,fitsL,h.1,h1,Bool.and_self],by simpa using h2⟩
theorem Kw {us:List Value}{k:Nat}{x:Value}{xs:List Value}(h:us.drop k=x::xs):us[k]?=some x/\us.drop (k+1)=xs:=by
 refine⟨by have:=List.getElem?_drop (xs:=us) (i:=k) (j:=0);rw[h] at this;simpa using this.symm,by rw[<-List.drop_drop,h];rfl⟩
theorem Vo {P:Program}{w:World}{d:Nat}{e:TypeId}(ha:isAggB P e=false)(ht:tOk P e=true)(us vs:List Value): ∀(m k:Nat) (b:Bool),fitsL P (List.replicate m e) ((us.drop k).map .sc)=true->fitsL P (List.replicate m e) ((vs.drop k).map .sc)=true->
  eqL ((us.drop k).map .sc) ((vs.drop k).map .sc)=some b->(Op.eqItems (d+1) e 1 ⟨us⟩ ⟨vs⟩ (List.range' k m)).run P w= .ok b w
 |0,k,b,h1,h2,h=>by
  cases hu:us.drop k with
  |cons x xs=>rw[hu] at h1;simp[fitsL] at h1
  |nil=>
   cases hv:vs.drop k with
   |cons x xs=>rw[hv] at h2;simp[fitsL] at h2
   |nil=>
    rw[hu,hv] at h
    simp only[List.map_nil,eqL,Option.some.injEq] at h
    subst h
    simp[Op.eqItems]
 |m+1,k,b,h1,h2,h=>by
  cases hu:us.drop k with
  |nil=>rw[hu] at h1;simp[fitsL,List.replicate_succ] at h1
  |cons x xs=>
   cases hv:vs.drop k with
   |nil=>rw[hv] at h2;simp[fitsL,List.replicate_succ] at h2
   |cons y ys=>
    obtain⟨hx,hxs⟩:=Kw hu
    obtain⟨hy,hys⟩:=Kw hv
    rw[hu] at h1 h
    rw[hv] at h2 h
    simp only[List.map_cons,List.replicate_succ,fitsL,Bool.and_eq_true] at h1 h2
    simp only[List.map_cons,eqL] at h
    split at h
    ·rename_i p q hp hq
     cases h
     have hc:=Cza (w:=w) (d:=d) h1.1 h2.1 hp
     have ih:=Vo (w:=w) (d:=d) ha ht us vs m (k+1) q (by rw[hxs];exact h1.2) (by rw[hys];exact h2.2) (by rw[hxs,hys];exact hq)
     rw[List.range'_succ]
     unfold Op.eqItems
     simp only[Nat.mul_one,Sem.run_bind,Kg ha ht hx,Kg ha ht hy,Result.andThen_ok,hc]
     cases p with
     |true=>simpa using ih
     |false=>simp
    ·cases h
def arrPl (P:Program)(t:TypeId):Bool:=match P.underlying t with
 |some (.array n e)=> !isAggB P e&&tOk P e&&P.cellsOf e==1&&P.cellsOf t==n&&(P.info? e).isSome&&(P.info? t).isSome
 |_=>false
def typesOf (P:Program)(t:TypeId):List TypeId:=match P.underlying t with
 |some (.array n e)=>List.replicate n e
 |_=>[t]
def flatFs (P:Program):Nat→List Field→Bool
 |_,[]=>true
 |k,f::fs=>f.offset==k&&f.name != "_" &&((!isAggB P f.type&&tOk P f.type&&typesOf P f.type==[f.type]&&flatFs P (k+1) fs)||(arrPl P f.type&&flatFs P (k+P.cellsOf f.type) fs))
theorem arr_eq {P:Program}{w:World}{d:Nat}{t:TypeId}(h:arrPl P t=true)(us vs:List Value)(b:Bool)(h1:fitsL P (typesOf P t) (us.map .sc)=true)(h2:fitsL P (typesOf P t) (vs.map .sc)=true)(h3:eqL (us.map .sc) (vs.map .sc)=some b):
  (Op.equalIn (d+2) t (.agg ⟨us⟩) (.agg ⟨vs⟩)).run P w= .ok b w:=by
 unfold arrPl at h
 split at h
 ·rename_i n e hu
  simp only[Bool.and_eq_true,Bool.not_eq_true',beq_iff_eq] at h
  obtain⟨⟨⟨⟨⟨ha,ht⟩,hs⟩,hn⟩,hi⟩,_⟩:=h
  obtain⟨i,hi⟩:=Option.isSome_iff_exists.1 hi
  unfold typesOf at h1 h2
  rw[hu] at h1 h2
  rw[run_equalIn_array w (d+1) ⟨us⟩ ⟨vs⟩ hu hi,hs,List.range_eq_range']
  exact Vo ha ht us vs n 0 b h1 h2 h3
 ·cases h
theorem Vw {us:List Value}{k n:Nat}:(⟨us⟩:Array Value).extract k (k+n)=⟨(us.drop k).take n⟩:=by
 apply Array.toList_inj.1
 rw[Array.toList_extract]
 simp[List.extract]
theorem Lq {P:Program}{w:World}{d:Nat}(us vs:List Value): ∀(fs:List Field) (k:Nat) (b:Bool),flatFs P k fs=true->fitsL P (fs.flatMap fun f=>typesOf P f.type) ((us.drop k).map .sc)=true->fitsL P (fs.flatMap fun f=>typesOf P f.type) ((vs.drop k).map .sc)=true->
  eqL ((us.drop k).map .sc) ((vs.drop k).map .sc)=some b->(Op.eqFields (d+2) ⟨us⟩ ⟨vs⟩ fs).run P w= .ok b w
 |[],k,b,_,h1,h2,h=>by
  cases hu:us.drop k with
  |cons x xs=>rw[hu] at h1;simp[fitsL] at h1
  |nil=>
   cases hv:vs.drop k with
   |cons x xs=>rw[hv] at h2;simp[fitsL] at h2
   |nil=>
    rw[hu,hv] at h
    simp only[List.map_nil,eqL,Option.some.injEq] at h
    subst h
    simp[Op.eqFields]
 |f::fs,k,b,hf,h1,h2,h=>by
  simp only[flatFs,Bool.and_eq_true,Bool.or_eq_true,beq_iff_eq,bne_iff_ne,ne_eq,Bool.not_eq_true'] at hf
  obtain⟨⟨ho,hn⟩,hc⟩:=hf
  simp only[List.flatMap_cons] at h1 h2
  obtain⟨a1,a2⟩:=Ha h1
  obtain⟨b1,b2⟩:=Ha h2
  obtain⟨p,q,e1,e2,rfl⟩:=Qq (typesOf P f.type).length h
  rw[<-List.map_take] at a1 b1
  rw[<-List.map_take,<-List.map_take] at e1
  rw[<-List.map_drop,List.drop_drop] at a2 b2
  rw[<-List.map_drop,<-List.map_drop,List.drop_drop,List.drop_drop] at e2
  have fin: ∀x y,(part f.type ⟨us⟩ f.offset).run P w= .ok x w->(part f.type ⟨vs⟩ f.offset).run P w= .ok y w->(Op.equalIn (d+2) f.type x y).run P w= .ok p w->(Op.eqFields (d+2) ⟨us⟩ ⟨vs⟩ fs).run P w= .ok q w->(Op.eqFields (d+2) ⟨us⟩ ⟨vs⟩ (f::fs)).run P w= .ok (p&&q) w:=by
   intro x y r1 r2 r3 r4
   unfold Op.eqFields
   rw[if_pos hn]
   simp only[Sem.run_bind,r1,r2,Result.andThen_ok,r3]
   cases p with
   |true=>simpa using r4
   |false=>simp
  rcases hc with⟨⟨⟨ha,ht⟩,hty⟩,hrest⟩|⟨harr,hrest⟩
  ·rw[hty] at a1 b1 e1 a2 b2 e2
   simp only[List.length_cons,List.length_nil,Nat.zero_add] at a1 b1 e1 a2 b2 e2
   cases hu:us.drop k with
   |nil=>rw[hu] at a1;simp[fitsL] at a1
   |cons x xs=>
    cases hv:vs.drop k with
    |nil=>rw[hv] at b1;simp[fitsL] at b1
    |cons y ys=>
     obtain⟨hx,hxs⟩:=Kw hu
     obtain⟨hy,hys⟩:=Kw hv
     rw[hu] at a1 e1
     rw[hv] at b1 e1
     simp only[List.take_succ_cons,List.take_zero,List.map_cons,List.map_nil,fitsL,Bool.and_true] at a1 b1
     have hp:eqV (.sc x) (.sc y)=some p:=by
      simp only[List.take_succ_cons,List.take_zero,List.map_cons,List.map_nil,eqL] at e1
      split at e1
      ·rename_i p' q' g1 g2
       cases g2
       simp only[Bool.and_true,Option.some.injEq] at e1
       rw[g1,e1]
      ·cases e1
     exact fin x y (by rw[ho];exact Kg ha ht hx) (by rw[ho];exact Kg ha ht hy) (Cza a1 b1 hp) (Lq us vs fs (k+1) q hrest a2 b2 e2)
  ·have harr':=harr
   unfold arrPl at harr'
   split at harr'
   ·rename_i n e hu
    simp only[Bool.and_eq_true,Bool.not_eq_true',beq_iff_eq] at harr'
    obtain⟨_,hi⟩:=harr'
    obtain⟨i,hi⟩:=Option.isSome_iff_exists.1 hi
    have hlen:(typesOf P f.type).length=P.cellsOf f.type:=by
     unfold typesOf
     rw[hu]
     have:P.cellsOf f.type=n:=by
      have hq:=harr
      unfold arrPl at hq
      rw[hu] at hq
      simp only[Bool.and_eq_true,Bool.not_eq_true',beq_iff_eq] at hq
      exact hq.1.1.2
     simp[this]
    rw[hlen] at a1 b1 e1 a2 b2 e2
    exact fin _ _ (by rw[ho,Kf hu hi,Vw]) (by rw[ho,Kf hu hi,Vw]) (arr_eq harr _ _ p a1 b1 e1) (Lq us vs fs (k+P.cellsOf f.type) q hrest a2 b2 e2)
   ·cases harr'
theorem W4 {P:Program}{t:TypeId}(ht:P.underlying t=some (.struct (P.fieldsOf t)))(hs:P.stoodInHeld t=false)(hg:P.eqGuardType P.depth t=false)(hf:flatFs P 0 (P.fieldsOf t).toList=true)(htc:tcs P t=(P.fieldsOf t).toList.flatMap fun f=>typesOf P f.type)
  (w:World) (x y:Operand) (us vs:List Value) (b:Bool) (h1:fitsL P (tcs P t) (us.map .sc)=true) (h2:fitsL P (tcs P t) (vs.map .sc)=true) (h:eqL (us.map .sc) (vs.map .sc)=some b):
  (do eqGuard .eql t x y (.agg ⟨us⟩) (.agg ⟨vs⟩);binOp .eql t (.agg ⟨us⟩) (.agg ⟨vs⟩):Sem Value).run P w= .ok (.bool b) w/\
  (do eqGuard .neq t x y (.agg ⟨us⟩) (.agg ⟨vs⟩);binOp .neq t (.agg ⟨us⟩) (.agg ⟨vs⟩):Sem Value).run P w= .ok (.bool (!b)) w:=by
 rw[htc] at h1 h2
 have hq:(Op.equalIn 10000 t (.agg ⟨us⟩) (.agg ⟨vs⟩)).run P w= .ok b w:=by
  have e:(10000:Nat)=9997+2+1:=rfl
  rw[e,run_equalIn_struct w (9997+2) t ⟨us⟩ ⟨vs⟩ ht hs]
  exact Lq us vs _ 0 b hf h1 h2 h
 constructor
 ·simp only[Sem.run_bind,run_eqGuard_agg w .eql t x y ⟨us⟩ ⟨vs⟩ hg,Result.andThen_ok,run_eql_struct,hq]
 ·simp only[Sem.run_bind,run_eqGuard_agg w .neq t x y ⟨us⟩ ⟨vs⟩ hg,Result.andThen_ok,run_neq_struct,hq]
theorem Rg {P:Program}{t:TypeId}(ht:arrPl P t=true)(hg:P.eqGuardType P.depth t=false)(htc:tcs P t=typesOf P t)
  (w:World) (x y:Operand) (us vs:List Value) (b:Bool) (h1:fitsL P (tcs P t) (us.map .sc)=true) (h2:fitsL P (tcs P t) (vs.map .sc)=true) (h:eqL (us.map .sc) (vs.map .sc)=some b):
  (do eqGuard .eql t x y (.agg ⟨us⟩) (.agg ⟨vs⟩);binOp .eql t (.agg ⟨us⟩) (.agg ⟨vs⟩):Sem Value).run P w= .ok (.bool b) w/\
  (do eqGuard .neq t x y (.agg ⟨us⟩) (.agg ⟨vs⟩);binOp .neq t (.agg ⟨us⟩) (.agg ⟨vs⟩):Sem Value).run P w= .ok (.bool (!b)) w:=by
 rw[htc] at h1 h2
 have hq:(Op.equalIn 10000 t (.agg ⟨us⟩) (.agg ⟨vs⟩)).run P w= .ok b w:=arr_eq (d:=9998) ht us vs b h1 h2 h
 constructor
 ·simp only[Sem.run_bind,run_eqGuard_agg w .eql t x y ⟨us⟩ ⟨vs⟩ hg,Result.andThen_ok,run_eql_struct,hq]
 ·simp only[Sem.run_bind,run_eqGuard_agg w .neq t x y ⟨us⟩ ⟨vs⟩ hg,Result.andThen_ok,run_neq_struct,hq]
end
end Go.Ab
namespace Go.Ab.Sy
open Go Go.Ab
abbrev iz (n:Int):AV:= .sc (.int .i64 n)
abbrev uz (n:Int):AV:= .sc (.int .u32 n)
abbrev tz (s:ByteArray):AV:= .sc (.string s)
abbrev bz (b:Bool):AV:= .sc (.bool b)
@[ext] structure Tx where
 val:ByteArray
 le:val.size<=20000
deriving DecidableEq
instance:Coe Tx ByteArray:=⟨Tx.val⟩
abbrev tx0 :Tx:=⟨⟨#[]⟩,Zd⟩
structure Tok where
 kind:Int
 text:Tx
 num:Int
 at_:Int
def Tok.row (t:Tok):List AV:=[iz t.kind,tz t.text.1,uz t.num,iz t.at_]
inductive Ex where
 |mk (kind op num:Int) (name:Tx) (kids:List Ex)
namespace Ex
def kind :Ex->Int| .mk k _ _ _ _=>k
def op :Ex->Int| .mk _ o _ _ _=>o
def num :Ex->Int| .mk _ _ n _ _=>n
def name :Ex->Tx| .mk _ _ _ s _=>s
def kids :Ex->List Ex| .mk _ _ _ _ l=>l
end Ex
mutual
def Ex.row :Ex->List AV
 | .mk k o n s l=>[iz k,iz o,uz n,tz s.1,.sl false 5 (exRows l)]
def exRows :List Ex->List (List AV)
 |[]=>[]
 |e::l=>e.row::exRows l
end
mutual
def Ex.size :Ex->Nat
 | .mk _ _ _ _ l=>exSize l+1
def exSize :List Ex->Nat
 |[]=>0
 |e::l=>e.size+exSize l
end
@[simp] theorem Xw :exRows []=[]:=by rw[exRows]
@[simp] theorem exRows_cons (e:Ex)(l:List Ex):exRows (e::l)=e.row::exRows l:=by rw[exRows]
theorem Jf : ∀l,exRows l=l.map Ex.row
 |[]=>rfl
 |e::l=>by simp[Jf l]
@[simp] theorem exRows_length (l:List Ex):(exRows l).length=l.length:=by simp[Jf]
@[simp] theorem exRows_app (l m:List Ex):exRows (l++m)=exRows l++exRows m:=by simp[Jf]
theorem Ex.row_eq (e:Ex):e.row=[iz e.kind,iz e.op,uz e.num,tz e.name.1,.sl false 5 (exRows e.kids)]:=by
 cases e;rw[Ex.row];rfl
@[simp] theorem exSize_nil :exSize []=0:=by rw[exSize]
@[simp] theorem exSize_cons (e:Ex)(l:List Ex):exSize (e::l)=e.size+exSize l:=by rw[exSize]
@[simp] theorem Xv : ∀l m:List Ex,exSize (l++m)=exSize l+exSize m
 |[],m=>Zi
 |e::l,m=>by simp[Xv l m,Nat.add_assoc]
theorem Ex.size_eq (e:Ex):e.size=exSize e.kids+1:=by cases e;rw[Ex.size];rfl
theorem Ex.size_pos (e:Ex):1<=e.size:=by rw[Ex.size_eq];omega
theorem Bv : ∀l:List Ex,l.length<=exSize l
 |[]=>Zi
 |e::l=>by have:=Bv l;have:=e.size_pos;simp;omega
theorem Om {e:Ex}: ∀{l:List Ex},e∈l->e.size<=exSize l
 |x::l,h=>by
  rcases List.mem_cons.1 h with rfl|h
  ·simp
  ·have:=Om h;simp;omega
theorem B6 {l:List Ex}{i:Nat}{e:Ex}(h:l[i]?=some e):e.size<=exSize l:=Om (List.mem_of_getElem? h)
inductive St where
 |mk (kind:Int) (name:Tx) (e:List Ex) (th el:List St)
namespace St
def kind :St->Int| .mk k _ _ _ _=>k
def name :St->Tx| .mk _ s _ _ _=>s
def e :St->List Ex| .mk _ _ e _ _=>e
def th :St->List St| .mk _ _ _ t _=>t
def el :St->List St| .mk _ _ _ _ t=>t
end St
mutual
def St.row :St->List AV
 | .mk k s e t f=>[iz k,tz s.1,.sl false 5 (exRows e),.sl false 5 (stRows t),.sl false 5 (stRows f)]
def stRows :List St->List (List AV)
 |[]=>[]
 |e::l=>e.row::stRows l
end
mutual
def St.size :St->Nat
 | .mk _ _ e t f=>exSize e+stSize t+stSize f+1
def stSize :List St->Nat
 |[]=>0
 |e::l=>e.size+stSize l
end
@[simp] theorem stRows_nil :stRows []=[]:=by rw[stRows]
@[simp] theorem stRows_cons (e:St)(l:List St):stRows (e::l)=e.row::stRows l:=by rw[stRows]
theorem Ja : ∀l,stRows l=l.map St.row
 |[]=>rfl
 |e::l=>by simp[Ja l]
@[simp] theorem stRows_length (l:List St):(stRows l).length=l.length:=by simp[Ja]
@[simp] theorem stRows_app (l m:List St):stRows (l++m)=stRows l++stRows m:=by simp[Ja]
theorem St.row_eq (s:St):s.row=[iz s.kind,tz s.name.1,.sl false 5 (exRows s.e),.sl false 5 (stRows s.th),.sl false 5 (stRows s.el)]:=by
 cases s;rw[St.row];rfl
@[simp] theorem stSize_nil :stSize []=0:=by rw[stSize]
@[simp] theorem stSize_cons (e:St)(l:List St):stSize (e::l)=e.size+stSize l:=by rw[stSize]
@[simp] theorem W7 : ∀l m:List St,stSize (l++m)=stSize l+stSize m
 |[],m=>Zi
 |e::l,m=>by simp[W7 l m,Nat.add_assoc]
theorem St.size_eq (s:St):s.size=exSize s.e+stSize s.th+stSize s.el+1:=by cases s;rw[St.size];rfl
theorem St.size_pos (e:St):1<=e.size:=by rw[St.size_eq];omega
theorem Cl : ∀l:List St,l.length<=stSize l
 |[]=>Zi
 |e::l=>by have:=Cl l;have:=e.size_pos;simp;omega
theorem Nw {e:St}: ∀{l:List St},e∈l->e.size<=stSize l
 |x::l,h=>by
  rcases List.mem_cons.1 h with rfl|h
  ·simp
  ·have:=Nw h;simp;omega
theorem Eb {l:List St}{i:Nat}{e:St}(h:l[i]?=some e):e.size<=stSize l:=Nw (List.mem_of_getElem? h)
abbrev txRows (l:List Tx):List (List AV):=l.map fun s=>[tz s.1]
abbrev tbRows (l:List ByteArray):List (List AV):=l.map fun s=>[tz s]
structure Fu where
 name:Tx
 params:List Tx
 locals:List Tx
 word:Bool
 body:List St
def Fu.row (f:Fu):List AV:=[tz f.name.1,.sl false 1 (txRows f.params),.sl false 1 (txRows f.locals),bz f.word,.sl false 5 (stRows f.body)]
def Fu.size (f:Fu):Nat:=f.params.length+f.locals.length+stSize f.body+1
structure Pr where
 vars:List Tx
 arrays:List (Tx×Int)
 funcs:List Fu
def arRows (l:List (Tx×Int)):List (List AV):=l.map fun a=>[tz a.1.1,iz a.2]
def Pr.row (p:Pr):List AV:=[.sl false 1 (txRows p.vars),.sl false 2 (arRows p.arrays),.sl false 5 (p.funcs.map Fu.row)]
def fuSize :List Fu->Nat
 |[]=>0
 |f::l=>f.size+fuSize l
def Pr.size (p:Pr):Nat:=p.vars.length+p.arrays.length+fuSize p.funcs
@[simp] theorem Xt :fuSize []=0:=rfl
@[simp] theorem Mm (f:Fu)(l:List Fu):fuSize (f::l)=f.size+fuSize l:=rfl
@[simp] theorem J1 : ∀l m:List Fu,fuSize (l++m)=fuSize l+fuSize m
 |[],m=>Zi
 |e::l,m=>by simp[J1 l m,Nat.add_assoc]
theorem Bn : ∀l:List Fu,l.length<=fuSize l
 |[]=>Zi
 |e::l=>by have:=Bn l;simp[Fu.size];omega
theorem Fw {f:Fu}: ∀{l:List Fu},f∈l->f.size<=fuSize l
 |x::l,h=>by
  rcases List.mem_cons.1 h with rfl|h
  ·simp
  ·have:=Fw h;simp;omega
inductive Cx where
 |mk (kind op num slot size:Int) (kids:List Cx)
namespace Cx
def kind :Cx->Int| .mk k _ _ _ _ _=>k
def kids :Cx->List Cx| .mk _ _ _ _ _ l=>l
end Cx
mutual
def Cx.row :Cx->List AV
 | .mk k o n s z l=>[iz k,iz o,uz n,iz s,iz z,.sl false 6 (cxRows l)]
def cxRows :List Cx->List (List AV)
 |[]=>[]
 |e::l=>e.row::cxRows l
end
mutual
def Cx.size :Cx->Nat
 | .mk _ _ _ _ _ l=>cxSize l+1
def cxSize :List Cx->Nat
 |[]=>0
 |e::l=>e.size+cxSize l
end
@[simp] theorem Fz :cxRows []=[]:=by rw[cxRows]
@[simp] theorem He (e:Cx)(l:List Cx):cxRows (e::l)=e.row::cxRows l:=by rw[cxRows]
theorem Jg : ∀l,cxRows l=l.map Cx.row
 |[]=>rfl
 |e::l=>by simp[Jg l]
@[simp] theorem cxRows_length (l:List Cx):(cxRows l).length=l.length:=by simp[Jg]
@[simp] theorem cxRows_app (l m:List Cx):cxRows (l++m)=cxRows l++cxRows m:=by simp[Jg]
@[simp] theorem J4 :cxSize []=0:=by rw[cxSize]
@[simp] theorem Di (e:Cx)(l:List Cx):cxSize (e::l)=e.size+cxSize l:=by rw[cxSize]
@[simp] theorem Ow : ∀l m:List Cx,cxSize (l++m)=cxSize l+cxSize m
 |[],m=>Zi
 |e::l,m=>by simp[Ow l m,Nat.add_assoc]
theorem Cx.size_eq (e:Cx):e.size=cxSize e.kids+1:=by cases e;rw[Cx.size];rfl
theorem Cx.size_pos (e:Cx):1<=e.size:=by rw[Cx.size_eq];omega
theorem J5 : ∀l:List Cx,l.length<=cxSize l
 |[]=>Zi
 |e::l=>by have:=J5 l;have:=e.size_pos;simp;omega
inductive Cs where
 |mk (kind slot size:Int) (e:List Cx) (th el:List Cs)
namespace Cs
def kind :Cs->Int| .mk k _ _ _ _ _=>k
def e :Cs->List Cx| .mk _ _ _ e _ _=>e
def th :Cs->List Cs| .mk _ _ _ _ t _=>t
def el :Cs->List Cs| .mk _ _ _ _ _ t=>t
end Cs
mutual
def Cs.row :Cs->List AV
 | .mk k s z e t f=>[iz k,iz s,iz z,.sl false 6 (cxRows e),.sl false 6 (csRows t),.sl false 6 (csRows f)]
def csRows :List Cs->List (List AV)
 |[]=>[]
 |e::l=>e.row::csRows l
end
mutual
def Cs.size :Cs->Nat
 | .mk _ _ _ e t f=>cxSize e+csSize t+csSize f+1
def csSize :List Cs->Nat
 |[]=>0
 |e::l=>e.size+csSize l
end
@[simp] theorem X0 :csRows []=[]:=by rw[csRows]
@[simp] theorem csRows_cons (e:Cs)(l:List Cs):csRows (e::l)=e.row::csRows l:=by rw[csRows]
theorem Jh : ∀l,csRows l=l.map Cs.row
 |[]=>rfl
 |e::l=>by simp[Jh l]
@[simp] theorem csRows_length (l:List Cs):(csRows l).length=l.length:=by simp[Jh]
@[simp] theorem csRows_app (l m:List Cs):csRows (l++m)=csRows l++csRows m:=by simp[Jh]
@[simp] theorem csSize_nil :csSize []=0:=by rw[csSize]
@[simp] theorem Vy (e:Cs)(l:List Cs):csSize (e::l)=e.size+csSize l:=by rw[csSize]
@[simp] theorem Oz : ∀l m:List Cs,csSize (l++m)=csSize l+csSize m
 |[],m=>Zi
 |e::l,m=>by simp[Oz l m,Nat.add_assoc]
theorem Cs.size_eq (s:Cs):s.size=cxSize s.e+csSize s.th+csSize s.el+1:=by cases s;rw[Cs.size];rfl
theorem Cs.size_pos (e:Cs):1<=e.size:=by rw[Cs.size_eq];omega
theorem Oy : ∀l:List Cs,l.length<=csSize l
 |[]=>Zi
 |e::l=>by have:=Oy l;have:=e.size_pos;simp;omega
theorem Ox {e:Cs}: ∀{l:List Cs},e∈l->e.size<=csSize l
 |x::l,h=>by
  rcases List.mem_cons.1 h with rfl|h
  ·simp
  ·have:=Ox h;simp;omega
theorem Xz {l:List Cs}{i:Nat}{e:Cs}(h:l[i]?=some e):e.size<=csSize l:=Ox (List.mem_of_getElem? h)
structure Cf where
 params:Int
 slots:Int
 first:Int
 word:Bool
 body:List Cs
def Cf.row (f:Cf):List AV:=[iz f.params,iz f.slots,iz f.first,bz f.word,.sl false 6 (csRows f.body)]
structure Co where
 words:Int
 funcs:List Cf
structure Si where
 op:Int
 a:Int
 b:Int
 n:Int
deriving DecidableEq
def Si.row (s:Si):List AV:=[iz s.op,iz s.a,iz s.b,uz s.n]
structure Sf where
 params:Int
 slots:Int
 first:Int
 word:Bool
 code:List Si
def Sf.row (f:Sf):List AV:=[iz f.params,iz f.slots,iz f.first,bz f.word,.sl false 4 (f.code.map Si.row)]
end Go.Ab.Sy
namespace Go.Ab.Sy
section
open Go Go.Ab
/-! ### the code -/
def sNot :Si:=⟨7,0,0,0⟩
def tailE (k o n s z:Int):List Si:=
 if k=1 then[⟨1,0,0,n⟩] else if k=2 then[⟨2,s,0,0⟩] else if k=3 then[⟨4,s,z,0⟩] else if k=4 then[⟨10,s,0,0⟩]
 else if k=5 then[⟨12,0,0,0⟩] else if k=6 then[⟨6,o,0,0⟩] else if k=7 then[sNot] else[]
mutual
def lE (p:Nat):Cx->List Si
 | .mk k o n s z l=>if k=8\/k=9 then lB p k l else lEs p l++tailE k o n s z
def lEs (p:Nat):List Cx->List Si
 |[]=>[]
 |e::l=>lE p e++lEs (p+(lE p e).length) l
def lB (p:Nat) (k:Int):List Cx->List Si
 |[]=>[]
 |a::l=>(lE p a++if k=8 then[sNot] else[])++(⟨9,((p+(lE p a++if k=8 then[sNot] else[]).length+3:Nat):Int),0,0⟩::
   ⟨1,0,0,if k=8 then 0 else 1⟩::⟨8,((p+(lE p a++if k=8 then[sNot] else[]).length+5+(lR (p+(lE p a++if k=8 then[sNot] else[]).length+3) l).length:Nat):Int),0,0⟩::
   (lR (p+(lE p a++if k=8 then[sNot] else[]).length+3) l++[sNot,sNot]))
def lR (p:Nat):List Cx->List Si
 |[]=>[]
 |b::_=>lE p b
end
def leave (w:Bool):List Si:=if w then[⟨1,0,0,0⟩,⟨11,0,0,0⟩] else[⟨11,0,0,0⟩]
def tailS (w:Bool)(k s z:Int)(e:List Cx):List Si:=
 if k=1 then[⟨3,s,0,0⟩] else if k=2 then[⟨5,s,z,0⟩] else if k=3 then[⟨13,0,0,0⟩] else if k=6 then[⟨10,s,0,0⟩]
 else if k=7 then(if 0<e.length then[⟨11,0,0,0⟩] else leave w) else[]
mutual
def lS (w:Bool) (p:Nat):Cs->List Si
 | .mk k s z e t f=>
  if k=5 then lEs p e++(⟨9,((p+(lEs p e).length+2+(lSs w (p+(lEs p e).length+1) t).length:Nat):Int),0,0⟩::(lSs w (p+(lEs p e).length+1) t++[⟨8,(p:Int),0,0⟩]))
  else if k=4 then lEs p e++(if f.length=0 then⟨9,((p+(lEs p e).length+1+(lSs w (p+(lEs p e).length+1) t).length:Nat):Int),0,0⟩::lSs w (p+(lEs p e).length+1) t
   else⟨9,((p+(lEs p e).length+2+(lSs w (p+(lEs p e).length+1) t).length:Nat):Int),0,0⟩::(lSs w (p+(lEs p e).length+1) t++
    (⟨8,((p+(lEs p e).length+2+(lSs w (p+(lEs p e).length+1) t).length+(lSs w (p+(lEs p e).length+2+(lSs w (p+(lEs p e).length+1) t).length) f).length:Nat):Int),0,0⟩::lSs w (p+(lEs p e).length+2+(lSs w (p+(lEs p e).length+1) t).length) f)))
  else lEs p e++tailS w k s z e
def lSs (w:Bool) (p:Nat):List Cs->List Si
 |[]=>[]
 |s::l=>lS w p s++lSs w (p+(lS w p s).length) l
end
def lF (f:Cf):List Si:=lSs f.word 0 f.body++leave f.word
@[simp] theorem lEs_nil (p:Nat):lEs p []=[]:=by rw[lEs]
@[simp] theorem Vn (p:Nat)(e:Cx)(l:List Cx):lEs p (e::l)=lE p e++lEs (p+(lE p e).length) l:=by rw[lEs]
@[simp] theorem lSs_nil (w:Bool)(p:Nat):lSs w p []=[]:=by rw[lSs]
@[simp] theorem Vl (w:Bool)(p:Nat)(e:Cs)(l:List Cs):lSs w p (e::l)=lS w p e++lSs w (p+(lS w p e).length) l:=by rw[lSs]
theorem Cma (p:Nat): ∀l m:List Cx,lEs p (l++m)=lEs p l++lEs (p+(lEs p l).length) m
 |[],m=>Zi
 |e::l,m=>by simp[Cma _ l m,Nat.add_assoc]
theorem Cla (w:Bool)(p:Nat): ∀l m:List Cs,lSs w p (l++m)=lSs w p l++lSs w (p+(lSs w p l).length) m
 |[],m=>Zi
 |e::l,m=>by simp[Cla w _ l m,Nat.add_assoc]
/-! ### how long it is -/
mutual
theorem Xn (p:Nat): ∀e:Cx,(lE p e).length<=6*e.size
 | .mk k o n s z l=>by
  rw[lE,Cx.size]
  split
  ·have:=lB_len p k l;omega
  ·have:=Sh p l
   have h:(tailE k o n s z).length<=1:=by unfold tailE;(repeat' split)<;>simp
   simp only[List.length_append];omega
theorem Sh (p:Nat): ∀l:List Cx,(lEs p l).length<=6*cxSize l
 |[]=>Zi
 |e::l=>by
  have:=Xn p e
  have:=Sh (p+(lE p e).length) l
  simp only[Vn,List.length_append,Di];omega
theorem lB_len (p:Nat) (k:Int): ∀l:List Cx,(lB p k l).length<=6*cxSize l+6
 |[]=>by rw[lB];simp
 |a::l=>by
  rw[lB]
  have h1:=Xn p a
  have h2:=lR_len (p+(lE p a++if k=8 then[sNot] else[]).length+3) l
  have h3:(if k=8 then[sNot] else[]).length<=1:=by split<;>simp
  simp only[List.length_append,List.length_cons,List.length_nil,Di] at*
  omega
theorem lR_len (p:Nat): ∀l:List Cx,(lR p l).length<=6*cxSize l
 |[]=>by rw[lR];simp
 |b::l=>by rw[lR];have:=Xn p b;simp only[Di];omega
end
mutual
theorem lS_len (w:Bool) (p:Nat): ∀s:Cs,(lS w p s).length<=6*s.size
 | .mk k s z e t f=>by
  rw[lS,Cs.size]
  have h0:=Sh p e
  have h1:=M8 w (p+(lEs p e).length+1) t
  split
  ·simp only[List.length_append,List.length_cons,List.length_nil];omega
  ·split
   ·split
    ·simp only[List.length_append,List.length_cons];omega
    ·have h2:=M8 w (p+(lEs p e).length+2+(lSs w (p+(lEs p e).length+1) t).length) f
     simp only[List.length_append,List.length_cons];omega
   ·have h:(tailS w k s z e).length<=2:=by unfold tailS leave;(repeat' split)<;>simp
    simp only[List.length_append];omega
theorem M8 (w:Bool) (p:Nat): ∀l:List Cs,(lSs w p l).length<=6*csSize l
 |[]=>Zi
 |e::l=>by
  have:=lS_len w p e
  have:=M8 w (p+(lS w p e).length) l
  simp only[Vl,List.length_append,Vy];omega
end
theorem Ln (w:Bool):(leave w).length<=2:=by cases w<;>simp[leave]
theorem lF_len (f:Cf):(lF f).length<=6*csSize f.body+2:=by
 have:=M8 f.word 0 f.body;have:=Ln f.word;simp only[lF,List.length_append];omega
/-! ### what lies on the stack -/
def cnt (w:Bool):Nat:=if w then 1 else 0
def stepD (fs:List (Nat×Bool))(w:Bool)(c:Si)(d:Nat):Option Nat:=
 if c.op=1\/c.op=2\/c.op=12 then some (d+1)
 else if c.op=3\/c.op=9\/c.op=13 then(if 1<=d then some (d - 1) else none)
 else if c.op=4\/c.op=7 then(if 1<=d then some d else none)
 else if c.op=5 then(if 2<=d then some (d - 2) else none)
 else if c.op=6 then(if 2<=d then some (d - 1) else none)
 else if c.op=8 then some d
 else if c.op=10 then(if 0<=c.a then match fs[c.a.toNat]? with
  |some (ps,v)=>if ps<=d then some (d - ps+cnt v) else none
  |none=>none else none)
 else if c.op=11 then(if d=cnt w then some 0 else none)
 else none
def succs (c:Si)(p:Nat):List Int:=if c.op=8 then[c.a] else if c.op=9 then[(p:Int)+1,c.a] else if c.op=11 then[] else[(p:Int)+1]
section
variable (fs:List (Nat×Bool))(w:Bool)
def OkAt (D:Nat->Nat)(c:Si)(p lo hi:Nat):Prop:= ∃d',stepD fs w c (D p)=some d'/\ ∀j∈succs c p,∃q:Nat,j=q/\lo<=q/\q<=hi/\D q=d'
def Seg (D:Nat->Nat)(code:List Si)(p lo hi:Nat):Prop:= ∀i c,code[i]?=some c->OkAt fs w D c (p+i) lo hi
def Typed (code:List Si)(p d0 d1:Nat):Prop:= ∃D:Nat->Nat,D p=d0/\D (p+code.length)=d1/\Seg fs w D code p p (p+code.length)
variable {fs w}
theorem OkAt.mono {D:Nat->Nat}{c:Si}{p lo hi lo' hi':Nat}(h:OkAt fs w D c p lo hi)(h1:lo'<=lo)(h2:hi<=hi'):OkAt fs w D c p lo' hi':=by
 obtain⟨d,hd,h⟩:=h
 exact⟨d,hd,fun j hj=>let ⟨q,e,a,b,r⟩:=h j hj;⟨q,e,Zo,Zo,r⟩⟩
theorem Seg.mono {D:Nat->Nat}{code:List Si}{p lo hi lo' hi':Nat}(h:Seg fs w D code p lo hi)(h1:lo'<=lo)(h2:hi<=hi'):Seg fs w D code p lo' hi':=
 fun i c hc=>(h i c hc).mono h1 h2
theorem Seg.congr {D D':Nat->Nat}{code:List Si}{p lo hi:Nat}(h:Seg fs w D code p lo hi)(hl:lo<=p)(hh:p+code.length<=hi)(he: ∀x,lo<=x->x<=hi->D' x=D x):Seg fs w D' code p lo hi:=by
 intro i c hc
 have hi:=(List.getElem?_eq_some_iff.1 hc).1
 obtain⟨d,hd,h⟩:=h i c hc
 exact⟨d,by rw[he _ Zo Zo];exact hd,fun j hj=>let ⟨q,e,a,b,r⟩:=h j hj;⟨q,e,a,b,by rw[he _ a b];exact r⟩⟩
theorem Seg.app {D:Nat->Nat}{c0 c1:List Si}{p lo hi:Nat}(h0:Seg fs w D c0 p lo hi)(h1:Seg fs w D c1 (p+c0.length) lo hi):Seg fs w D (c0++c1) p lo hi:=by
 intro i c hc
 by_cases h:i<c0.length
 ·rw[List.getElem?_append_left h] at hc;exact h0 i c hc
 ·rw[List.getElem?_append_right Zo] at hc
  have:=h1 _ c hc
  rwa [show p+c0.length+(i - c0.length)=p+i from Zo] at this
theorem Seg.nil {D:Nat->Nat}{p lo hi:Nat}:Seg fs w D [] p lo hi:=fun i c hc=>by simp at hc
theorem Seg.cons {D:Nat->Nat}{c:Si}{l:List Si}{p lo hi:Nat}(h0:OkAt fs w D c p lo hi)(h1:Seg fs w D l (p+1) lo hi):Seg fs w D (c::l) p lo hi:=by
 intro i x hx
 cases i with
 |zero=>simp only[List.getElem?_cons_zero,Option.some.injEq] at hx;subst hx;exact h0
 |succ i=>rw[List.getElem?_cons_succ] at hx;have:=h1 i x hx;rwa [show p+1+i=p+(i+1) from Zo] at this
theorem Typed.nil {p d:Nat}:Typed fs w [] p d d:=⟨fun _=>d,rfl,rfl,.nil⟩
theorem Typed.one {c:Si}{p d d':Nat}(h:stepD fs w c d=some d')(hs:succs c p=[(p:Int)+1]):Typed fs w [c] p d d':=by
 refine⟨fun x=>if x=p then d else d',Zi,Zi,.cons ?_ .nil⟩
 refine⟨d',by simpa using h,?_⟩
 rw[hs]
 intro j hj
 simp only[List.mem_singleton] at hj
 exact⟨p+1,by rw[hj];rfl,Zo,Zi,Zi⟩
theorem Typed.app {c0 c1:List Si}{p d0 d1 d2:Nat}(h0:Typed fs w c0 p d0 d1)(h1:Typed fs w c1 (p+c0.length) d1 d2):Typed fs w (c0++c1) p d0 d2:=by
 obtain⟨D0,a0,a1,s0⟩:=h0
 obtain⟨D1,b0,b1,s1⟩:=h1
 refine⟨fun x=>if x<p+c0.length then D0 x else D1 x,?_,?_,.app ?_ ?_⟩
 ·simp only
  split
  ·exact a0
  ·have:c0.length=0:=Zo
   rw[show p=p+c0.length from Zo] at a0
   rw[show p=p+c0.length from Zo,b0,<-a1,a0]
 ·simp only[List.length_append]
  rw[if_neg Zo,<-Nat.add_assoc];exact b1
 ·refine Seg.mono (Seg.congr s0 (Nat.le_refl _) (Nat.le_refl _) fun x h1 h2=>?_) (Nat.le_refl _) Zi
  try simp only
  split
  ·rfl
  ·rw[show x=p+c0.length from Zo,b0,a1]
 ·refine Seg.mono (Seg.congr s1 (Nat.le_refl _) (Nat.le_refl _) fun x h1 h2=>?_) Zo (by simp;omega)
  try simp only
  rw[if_neg Zo]
theorem Typed.ifS {c1:List Si}{p d:Nat}(h:Typed fs w c1 (p+1) d d):Typed fs w (⟨9,((p+1+c1.length:Nat):Int),0,0⟩::c1) p (d+1) d:=by
 obtain⟨D1,b0,b1,s1⟩:=h
 refine⟨fun x=>if x=p then d+1 else D1 x,Zi,?_,.cons ?_ ?_⟩
 ·simp only[List.length_cons]
  rw[if_neg Zo,show p+(c1.length+1)=p+1+c1.length from Zo];exact b1
 ·refine⟨d,by simp[stepD],fun j hj=>?_⟩
  simp only[succs,Int.reduceEq,if_true,if_false,List.mem_cons,List.not_mem_nil,or_false] at hj
  rcases hj with rfl|rfl
  ·exact⟨p+1,rfl,Zo,Zi,by simp[b0]⟩
  ·exact⟨p+1+c1.length,rfl,Zo,by simp;omega,by(try simp only);rw[if_neg Zo];exact b1⟩
 ·refine Seg.mono (Seg.congr s1 (Nat.le_refl _) (Nat.le_refl _) fun x h1 h2=>?_) Zo (by simp;omega)
  try simp only
  rw[if_neg Zo]
theorem Typed.ifE {c1 c2:List Si}{p d d':Nat}(h1:Typed fs w c1 (p+1) d d')(h2:Typed fs w c2 (p+2+c1.length) d d'):
  Typed fs w (⟨9,((p+2+c1.length:Nat):Int),0,0⟩::(c1++(⟨8,((p+2+c1.length+c2.length:Nat):Int),0,0⟩::c2))) p (d+1) d':=by
 obtain⟨D1,b0,b1,s1⟩:=h1
 obtain⟨D2,e0,e1,s2⟩:=h2
 have hlen:p+(⟨9,((p+2+c1.length:Nat):Int),0,0⟩::(c1++(⟨8,((p+2+c1.length+c2.length:Nat):Int),0,0⟩::c2)):List Si).length=p+2+c1.length+c2.length:=by simp;omega
 refine⟨fun x=>if x=p then d+1 else if x<=p+1+c1.length then D1 x else D2 x,Zi,?_,?_⟩
 ·rw[hlen]
  try simp only
  rw[if_neg Zo,if_neg Zo];exact e1
 rw[hlen]
 refine .cons ?_ (.app ?_ (.cons ?_ ?_))
 ·refine⟨d,by simp[stepD],fun j hj=>?_⟩
  simp only[succs,Int.reduceEq,if_true,if_false,List.mem_cons,List.not_mem_nil,or_false] at hj
  rcases hj with rfl|rfl
  ·exact⟨p+1,rfl,Zo,Zo,by(try simp only);rw[if_neg Zo,if_pos Zo];exact b0⟩
  ·exact⟨p+2+c1.length,rfl,Zo,Zo,by(try simp only);rw[if_neg Zo,if_neg Zo];exact e0⟩
 ·refine Seg.mono (Seg.congr s1 (Nat.le_refl _) (Nat.le_refl _) fun x h1 h2=>?_) Zo Zo
  try simp only
  rw[if_neg Zo,if_pos Zo]
 ·refine⟨d',?_,fun j hj=>?_⟩
  ·simp only
   rw[if_neg Zo,if_pos Zo,b1];rfl
  ·simp only[succs,if_true,List.mem_singleton] at hj
   subst hj
   exact⟨_,rfl,Zo,Zo,by(try simp only);rw[if_neg Zo,if_neg Zo];exact e1⟩
 ·rw[show p+1+c1.length+1=p+2+c1.length from Zo]
  refine Seg.mono (Seg.congr s2 (Nat.le_refl _) (Nat.le_refl _) fun x h1 h2=>?_) Zo Zo
  try simp only
  rw[if_neg Zo,if_neg Zo]
theorem Typed.loop {c0 c1:List Si}{p d:Nat}(h0:Typed fs w c0 p d (d+1))(h1:Typed fs w c1 (p+c0.length+1) d d):
  Typed fs w (c0++(⟨9,((p+c0.length+2+c1.length:Nat):Int),0,0⟩::(c1++[⟨8,(p:Int),0,0⟩]))) p d d:=by
 obtain⟨D0,a0,a1,s0⟩:=h0
 obtain⟨D1,b0,b1,s1⟩:=h1
 have hlen:p+(c0++(⟨9,((p+c0.length+2+c1.length:Nat):Int),0,0⟩::(c1++[⟨8,(p:Int),0,0⟩])):List Si).length=p+c0.length+2+c1.length:=by simp;omega
 refine⟨fun x=>if x<=p+c0.length then D0 x else if x<=p+c0.length+1+c1.length then D1 x else d,?_,?_,?_⟩
 ·(try simp only);rw[if_pos Zo];exact a0
 ·rw[hlen];(try simp only);rw[if_neg Zo,if_neg Zo]
 rw[hlen]
 refine .app ?_ (.cons ?_ (.app ?_ (.cons ?_ .nil)))
 ·refine Seg.mono (Seg.congr s0 (Nat.le_refl _) (Nat.le_refl _) fun x h1 h2=>?_) Zo Zo
  try simp only
  rw[if_pos Zo]
 ·refine⟨d,?_,fun j hj=>?_⟩
  ·(try simp only);rw[if_pos Zo,a1];simp[stepD]
  simp only[succs,Int.reduceEq,if_true,if_false,List.mem_cons,List.not_mem_nil,or_false] at hj
  rcases hj with rfl|rfl
  ·exact⟨p+c0.length+1,rfl,Zo,Zo,by(try simp only);rw[if_neg Zo,if_pos Zo];exact b0⟩
  ·exact⟨p+c0.length+2+c1.length,rfl,Zo,Zo,by(try simp only);rw[if_neg Zo,if_neg Zo]⟩
 ·refine Seg.mono (Seg.congr s1 (Nat.le_refl _) (Nat.le_refl _) fun x h1 h2=>?_) Zo Zo
  try simp only
  rw[if_neg Zo,if_pos Zo]
 ·refine⟨d,?_,fun j hj=>?_⟩
  ·simp only
   rw[if_neg Zo,if_pos Zo,b1];rfl
  ·simp only[succs,if_true,List.mem_singleton] at hj
   subst hj
   exact⟨p,rfl,Zo,Zo,by(try simp only);rw[if_pos Zo];exact a0⟩
/-! ### programs that are in order -/
def Hh (fs:List (Nat×Bool))(s:Int)(n:Nat)(v:Bool):Bool:=decide (0<=s)&&(match fs[s.toNat]? with|some (ps,v')=>ps==n&&v'==v|none=>false)
mutual
def gE (fs:List (Nat×Bool)):Cx->Bool
 | .mk k _ _ s _ l=>gEs fs l&&(if k=1\/k=2\/k=5 then l.length==0 else if k=3\/k=7 then l.length==1 else if k=6\/k=8\/k=9 then l.length==2
   else if k=4 then Hh fs s l.length true else false)
def gEs (fs:List (Nat×Bool)):List Cx->Bool
 |[]=>true
 |e::l=>gE fs e&&gEs fs l
end
mutual
def gS (fs:List (Nat×Bool)) (w:Bool):Cs->Bool
 | .mk k s _ e t f=>gEs fs e&&gSs fs w t&&gSs fs w f&&(if k=1\/k=3\/k=4\/k=5 then e.length==1 else if k=2 then e.length==2 else if k=6 then Hh fs s e.length false
   else if k=7 then e.length==0||e.length==1&&w else false)
def gSs (fs:List (Nat×Bool)) (w:Bool):List Cs->Bool
 |[]=>true
 |e::l=>gS fs w e&&gSs fs w l
end
@[simp] theorem Cra (fs:List (Nat×Bool)):gEs fs []=true:=by rw[gEs]
@[simp] theorem Dg (fs:List (Nat×Bool))(e:Cx)(l:List Cx):gEs fs (e::l)=(gE fs e&&gEs fs l):=by rw[gEs]
@[simp] theorem gSs_nil (fs:List (Nat×Bool))(w:Bool):gSs fs w []=true:=by rw[gSs]
@[simp] theorem Kx (fs:List (Nat×Bool))(w:Bool)(e:Cs)(l:List Cs):gSs fs w (e::l)=(gS fs w e&&gSs fs w l):=by rw[gSs]
theorem Typed.call {s:Int}{n p d:Nat}{v:Bool}(h:Hh fs s n v=true):Typed fs w [⟨10,s,0,0⟩] p (d+n) (d+cnt v):=by
 unfold Hh at h
 simp only[Bool.and_eq_true,decide_eq_true_eq] at h
 obtain⟨h0,h⟩:=h
 split at h
 ·rename_i ps v' hf
  simp only[Bool.and_eq_true,beq_iff_eq] at h
  obtain⟨rfl,rfl⟩:=h
  exact .one (by simp[stepD,h0,hf]) (by simp[succs])
 ·cases h
theorem two_of {α:Type}: ∀{l:List α},l.length=2-> ∃a b,l=[a,b]
 |[a,b],_=>⟨a,b,rfl⟩
theorem one_of {α:Type}: ∀{l:List α},l.length=1-> ∃a,l=[a]
 |[a],_=>⟨a,rfl⟩
mutual
theorem Wz : ∀(e:Cx) (p d:Nat),gE fs e=true->Typed fs w (lE p e) p d (d+1)
 | .mk k o n s z l,p,d,h=>by
  rw[gE] at h
  simp only[Bool.and_eq_true] at h
  obtain⟨hl,h⟩:=h
  rw[lE]
  by_cases h89:k=8\/k=9
  ·rw[if_pos h89]
   have h2:l.length=2:=by rcases h89 with rfl|rfl<;>simpa using h
   exact typedB l p k d hl h2
  rw[if_neg h89]
  have h0:=Ru l p d hl
  refine h0.app ?_
  by_cases h1:k=1\/k=2\/k=5
  ·rw[if_pos h1] at h
   have:l.length=0:=by simpa using h
   rw[this]
   rcases h1 with rfl|rfl|rfl<;>exact .one (by simp[stepD]) (by simp[succs])
  rw[if_neg h1] at h
  by_cases h3:k=3\/k=7
  ·rw[if_pos h3] at h
   have:l.length=1:=by simpa using h
   rw[this]
   rcases h3 with rfl|rfl<;>exact .one (by simp[stepD,sNot]) (by simp[succs,sNot])
  rw[if_neg h3] at h
  by_cases h6:k=6
  ·subst h6
   have:l.length=2:=by simpa using h
   rw[this]
   exact .one (by simp[stepD]) (by simp[succs])
  rw[if_neg Zo] at h
  by_cases h4:k=4
  ·subst h4
   exact Typed.call (v:=true) (by simpa using h)
  ·rw[if_neg h4] at h;cases h
theorem Ru : ∀(l:List Cx) (p d:Nat),gEs fs l=true->Typed fs w (lEs p l) p d (d+l.length)
 |[],p,d,_=>by simpa using Typed.nil
 |e::l,p,d,h=>by
  simp only[Dg,Bool.and_eq_true] at h
  rw[Vn,List.length_cons]
  have h1:=Wz e p d h.1
  have h2:=Ru l (p+(lE p e).length) (d+1) h.2
  rw[show d+(l.length+1)=d+1+l.length from Zo]
  exact h1.app h2
theorem typedB : ∀(l:List Cx) (p:Nat) (k:Int) (d:Nat),gEs fs l=true->l.length=2->Typed fs w (lB p k l) p d (d+1)
 |[],_,_,_,_,h=>by simp at h
 |a::l,p,k,d,h,h2=>by
  simp only[Dg,Bool.and_eq_true] at h
  rw[lB]
  have ha:=Wz a p d h.1
  have h1:Typed fs w (lE p a++if k=8 then[sNot] else[]) p d (d+1):=by
   refine ha.app ?_
   split
   ·exact .one (by simp[stepD,sNot]) (by simp[succs,sNot])
   ·exact .nil
  refine h1.app ?_
  generalize hq:p+(lE p a++if k=8 then[sNot] else[]).length=q
  have hb:=typedR l (q+3) d h.2 (by simpa using h2)
  have hb':Typed fs w (lR (q+3) l++[sNot,sNot]) (q+2+[(⟨1,0,0,if k=8 then 0 else 1⟩:Si)].length) d (d+1):=by
   rw[show q+2+[(⟨1,0,0,if k=8 then 0 else 1⟩:Si)].length=q+3 from rfl]
   refine hb.app ?_
   exact Typed.app (c0:=[sNot]) (c1:=[sNot]) (d1:=d+1) (.one (by simp[stepD,sNot]) (by simp[succs,sNot])) (.one (by simp[stepD,sNot]) (by simp[succs,sNot]))
  have h1:Typed fs w [(⟨1,0,0,if k=8 then 0 else 1⟩:Si)] (q+1) d (d+1):= .one (by simp[stepD]) (by simp[succs])
  have:=Typed.ifE h1 hb'
  simp only[List.length_cons,List.length_nil,List.length_append,List.cons_append,List.nil_append] at this
  rw[show q+2+(0+1)=q+3 from rfl,show q+3+((lR (q+3) l).length+(0+1+1))=q+5+(lR (q+3) l).length from Zo] at this
  exact this
theorem typedR : ∀(l:List Cx) (p d:Nat),gEs fs l=true->l.length=1->Typed fs w (lR p l) p d (d+1)
 |[],_,_,_,h=>by simp at h
 |b::l,p,d,h,_=>by
  simp only[Dg,Bool.and_eq_true] at h
  rw[lR]
  exact Wz b p d h.1
end
theorem Typed.ret {c:Si}{p d d':Nat}(h:stepD fs w c d=some d')(hs:succs c p=[])(e:Nat):Typed fs w [c] p d e:=by
 refine⟨fun x=>if x=p then d else e,Zi,Zi,.cons ⟨d',by simpa using h,?_⟩ .nil⟩
 rw[hs]
 intro j hj
 cases hj
theorem Wy (p e:Nat):Typed fs w (leave w) p 0 e:=by
 unfold leave
 split
 ·rename_i hw
  exact Typed.app (c0:=[⟨1,0,0,0⟩]) (c1:=[⟨11,0,0,0⟩]) (d1:=1) (.one (by simp[stepD]) (by simp[succs])) (.ret (d':=0) (by simp[stepD,cnt,hw]) (by simp[succs]) e)
 ·rename_i hw
  exact .ret (d':=0) (by simp[stepD,cnt,hw]) (by simp[succs]) e
mutual
theorem typedS : ∀(s:Cs) (p:Nat),gS fs w s=true->Typed fs w (lS w p s) p 0 0
 | .mk k s z e t f,p,h=>by
  rw[gS] at h
  simp only[Bool.and_eq_true] at h
  obtain⟨⟨⟨he,ht⟩,hf⟩,h⟩:=h
  rw[lS]
  have h0:=Ru (w:=w) e p 0 he
  rw[Nat.zero_add] at h0
  by_cases h5:k=5
  ·subst h5
   have:e.length=1:=by simpa using h
   rw[this] at h0
   rw[if_pos rfl]
   exact Typed.loop h0 (typedSs t _ ht)
  rw[if_neg h5]
  by_cases h4:k=4
  ·subst h4
   have:e.length=1:=by simpa using h
   rw[this] at h0
   rw[if_pos rfl]
   refine h0.app ?_
   split
   ·exact Typed.ifS (typedSs t _ ht)
   ·exact Typed.ifE (typedSs t _ ht) (typedSs f _ hf)
  rw[if_neg h4]
  refine h0.app ?_
  by_cases h1:k=1\/k=3
  ·have:e.length=1:=by rcases h1 with rfl|rfl<;>simpa using h
   rw[this]
   rcases h1 with rfl|rfl<;>exact .one (by simp[stepD]) (by simp[succs])
  by_cases h2:k=2
  ·subst h2
   have:e.length=2:=by simpa using h
   rw[this]
   exact .one (by simp[stepD]) (by simp[succs])
  by_cases h6:k=6
  ·subst h6
   have:=Typed.call (fs:=fs) (w:=w) (p:=p+(lEs p e).length) (d:=0) (v:=false) (by simpa using h)
   rw[Nat.zero_add] at this
   simpa[cnt,tailS] using this
  by_cases h7:k=7
  ·subst h7
   have h7':e.length=0\/e.length=1/\w=true:=by simpa using h
   unfold tailS
   rw[if_neg Zo,if_neg Zo,if_neg Zo,if_neg Zo,if_pos rfl]
   rcases h7' with h7'|⟨h7',hw⟩
   ·rw[if_neg Zo,h7'];exact Wy _ _
   ·rw[if_pos Zo,h7']
    exact .ret (d':=0) (by simp[stepD,cnt,hw]) (by simp[succs]) _
  ·rw[if_neg Zo,if_neg Zo,if_neg h6,if_neg h7] at h
   cases h
theorem typedSs : ∀(l:List Cs) (p:Nat),gSs fs w l=true->Typed fs w (lSs w p l) p 0 0
 |[],p,_=>by simpa using Typed.nil
 |e::l,p,h=>by
  simp only[Kx,Bool.and_eq_true] at h
  rw[Vl]
  exact(typedS e p h.1).app (typedSs l _ h.2)
end
end
theorem depthF {fs:List (Nat×Bool)}{f:Cf}(h:gSs fs f.word f.body=true): ∃D:Nat->Nat,D 0=0/\ ∀i c,(lF f)[i]?=some c-> ∃d',stepD fs f.word c (D i)=some d'/\ ∀j∈succs c i,∃q:Nat,j=q/\q<(lF f).length/\D q=d':=by
 obtain⟨D,h0,hb,hs⟩:=typedSs (fs:=fs) f.body 0 h
 generalize hc:lSs f.word 0 f.body=cb at hb hs
 rw[Nat.zero_add] at hb
 have hlt:cb.length<(lF f).length:=by unfold lF leave;rw[hc];split<;>simp
 refine⟨fun x=>if x<=cb.length then D x else 1,by simpa using h0,fun i c hi=>?_⟩
 unfold lF at hi
 rw[hc] at hi
 by_cases hib:i<cb.length
 ·rw[List.getElem?_append_left hib] at hi
  obtain⟨d',h1,h2⟩:=hs i c hi
  rw[Nat.zero_add] at h1 h2
  refine⟨d',by(try simp only);rw[if_pos Zo];exact h1,fun j hj=>?_⟩
  obtain⟨q,e,a,b,r⟩:=h2 j hj
  exact⟨q,e,Zo,by(try simp only);rw[if_pos Zo];exact r⟩
 ·rw[List.getElem?_append_right Zo] at hi
  unfold leave at hi
  split at hi
  ·rename_i hw
   obtain⟨n,rfl⟩: ∃n,i=cb.length+n:=⟨i - cb.length,Zo⟩
   rw[Nat.add_sub_cancel_left] at hi
   match n,hi with
   |0,hi=>
    simp only[List.getElem?_cons_zero,Option.some.injEq] at hi
    subst hi
    refine⟨1,by simp[stepD,hb],fun j hj=>?_⟩
    simp only[succs] at hj
    simp only[Int.reduceEq,if_false,List.mem_singleton,Nat.add_zero] at hj
    exact⟨cb.length+1,by rw[hj];rfl,by unfold lF leave;rw[hc,hw];simp,by(try simp only);rw[if_neg Zo]⟩
   |1,hi=>
    simp only[List.getElem?_cons_succ,List.getElem?_cons_zero,Option.some.injEq] at hi
    subst hi
    refine⟨0,by(try simp only);rw[if_neg Zo];simp[stepD,cnt,hw],fun j hj=>?_⟩
    simp[succs] at hj
   |n+2,hi=>simp at hi
  ·rename_i hw
   obtain⟨n,rfl⟩: ∃n,i=cb.length+n:=⟨i - cb.length,Zo⟩
   rw[Nat.add_sub_cancel_left] at hi
   match n,hi with
   |0,hi=>
    simp only[List.getElem?_cons_zero,Option.some.injEq] at hi
    subst hi
    refine⟨0,by simp[stepD,cnt,hw,hb],fun j hj=>?_⟩
    simp[succs] at hj
   |n+1,hi=>simp at hi
end
section
open Go Go.Ab
/-! ### forms -/
section
variable (nb:Tx->Bool)
def nameF (s:Tx)(named:Bool):Bool:=if named then nb s else decide (s=tx0)
def formE (e:Ex):Bool:=
 if e.kind=1 then decide (e.op=0)&&nameF nb e.name false&&e.kids.length==0
 else if e.kind=2 then decide (e.op=0)&&decide (e.num=0)&&nameF nb e.name true&&e.kids.length==0
 else if e.kind=3 then decide (e.op=0)&&decide (e.num=0)&&nameF nb e.name true&&e.kids.length==1
 else if e.kind=4 then decide (e.op=0)&&decide (e.num=0)&&nameF nb e.name true&&decide (e.kids.length<=6)
 else if e.kind=5 then decide (e.op=0)&&decide (e.num=0)&&nameF nb e.name false&&e.kids.length==0
 else if e.kind=6 then decide (4<=e.op)&&decide (e.op<=15)&&decide (e.num=0)&&nameF nb e.name false&&e.kids.length==2
 else if e.kind=7 then decide (e.op=0)&&decide (e.num=0)&&nameF nb e.name false&&e.kids.length==1
 else if e.kind=8\/e.kind=9 then decide (e.op=0)&&decide (e.num=0)&&nameF nb e.name false&&e.kids.length==2
 else false
def formS (s:St):Bool:=
 if s.kind=1 then nameF nb s.name true&&s.e.length==1&&s.th.length==0&&s.el.length==0
 else if s.kind=2 then nameF nb s.name true&&s.e.length==2&&s.th.length==0&&s.el.length==0
 else if s.kind=3 then nameF nb s.name false&&s.e.length==1&&s.th.length==0&&s.el.length==0
 else if s.kind=4 then nameF nb s.name false&&s.e.length==1
 else if s.kind=5 then nameF nb s.name false&&s.e.length==1&&s.el.length==0
 else if s.kind=6 then nameF nb s.name true&&decide (s.e.length<=6)&&s.th.length==0&&s.el.length==0
 else if s.kind=7 then nameF nb s.name false&&decide (s.e.length<=1)&&s.th.length==0&&s.el.length==0
 else false
mutual
def rE (v:Nat):Ex->Bool
 | .mk k o n s l=>formE nb (.mk k o n s l)&&((l.length==0||decide (v+1<=24))&&rEs (v+1) l)
def rEs (v:Nat):List Ex->Bool
 |[]=>true
 |e::l=>rE v e&&rEs v l
end
def rL (v:Nat)(l:List Ex):Bool:=(l.length==0||decide (v<=24))&&rEs nb v l
mutual
def rS (v:Nat):St->Bool
 | .mk k s e t f=>formS nb (.mk k s e t f)&&rL nb (v+1) e&&((t.length==0||decide (v+1<=24))&&rSs (v+1) t)&&((f.length==0||decide (v+1<=24))&&rSs (v+1) f)
def rSs (v:Nat):List St->Bool
 |[]=>true
 |e::l=>rS v e&&rSs v l
end
def rB (v:Nat)(l:List St):Bool:=(l.length==0||decide (v<=24))&&rSs nb v l
@[simp] theorem rEs_nil (v:Nat):rEs nb v []=true:=by rw[rEs]
@[simp] theorem J8a (v:Nat)(e:Ex)(l:List Ex):rEs nb v (e::l)=(rE nb v e&&rEs nb v l):=by rw[rEs]
@[simp] theorem rSs_nil (v:Nat):rSs nb v []=true:=by rw[rSs]
@[simp] theorem J6a (v:Nat)(e:St)(l:List St):rSs nb v (e::l)=(rS nb v e&&rSs nb v l):=by rw[rSs]
def rF (f:Fu):Bool:=nb f.name&&decide (f.params.length<=6)&&f.params.all nb&&f.locals.all nb&&rB nb 1 f.body
def rA (a:Tx×Int):Bool:=nb a.1&&decide (1<=a.2)&&decide (a.2<=4096)
def rP (p:Pr):Bool:=decide (1<=p.funcs.length)&&decide (p.funcs.length<=64)&&p.vars.all nb&&p.arrays.all rA'&&p.funcs.all (rF nb)
where rA':=rA nb
end
/-! ### names -/
section
variable {T:Type}
def look (m:List (Tx×T))(s:Tx):Option T:=(m.find? fun x=>decide (x.1=s)).map (·.2)
def addM (m:List (Tx×T)×Bool)(x:Tx×T):List (Tx×T)×Bool:=if (look m.1 x.1).isSome then(m.1,false) else(m.1++[x],m.2)
def setM (m:List (Tx×T))(x:Tx×T):List (Tx×T):=if (look m x.1).isSome then m.map fun y=>if y.1=x.1 then x else y else m++[x]
theorem Lk {m:List (Tx×T)}{s:Tx}(h:look m s=none):s∉m.map (·.1):=by
 intro hs
 obtain⟨x,hx,rfl⟩:=List.mem_map.1 hs
 simp only[look,Option.map_eq_none_iff,List.find?_eq_none,decide_eq_true_eq] at h
 exact h x hx rfl
theorem Ej {m:List (Tx×T)}{s:Tx}{t:T}(h:look m s=some t):(s,t)∈m:=by
 unfold look at h
 cases hf:m.find? fun x=>decide (x.1=s) with
 |none=>rw[hf] at h;cases h
 |some x=>
  rw[hf] at h
  simp only[Option.map_some,Option.some.injEq] at h
  have h1:=List.find?_some hf
  have h2:=List.mem_of_find?_eq_some hf
  simp only[decide_eq_true_eq] at h1
  subst h1 h
  exact h2
theorem Cia {m:List (Tx×T)}{s:Tx}{t:T}(hn:(m.map (·.1)).Nodup)(h:(s,t)∈m):look m s=some t:=by
 induction m with
 |nil=>cases h
 |cons x m ih=>
  simp only[List.map_cons,List.nodup_cons] at hn
  unfold look
  rw[List.find?_cons]
  rcases List.mem_cons.1 h with rfl|h
  ·simp
  ·have:x.1≠s:=by rintro rfl;exact hn.1 (List.mem_map.2 ⟨_,h,rfl⟩)
   simp only[this,decide_false]
   exact ih hn.2 h
def addAll (l:List (Tx×T))(m:List (Tx×T)×Bool):List (Tx×T)×Bool:=l.foldl addM m
def setAll (l:List (Tx×T))(m:List (Tx×T)):List (Tx×T):=l.foldl setM m
theorem Dk : ∀{l:List (Tx×T)} {m:List (Tx×T)×Bool},(m.1.map (·.1)).Nodup->(addAll l m).2=true->m.2=true/\(addAll l m).1=m.1++l/\((m.1++l).map (·.1)).Nodup
 |[],m,hn,h=>⟨h,by simp[addAll],by simpa using hn⟩
 |x::l,m,hn,h=>by
  have e:addAll (x::l) m=addAll l (addM m x):=rfl
  rw[e] at h⊢
  have hf: ∀(l:List (Tx×T)) (m:List (Tx×T)),(addAll l (m,false)).2=false:=by
   intro l
   induction l with
   |nil=>intro m;rfl
   |cons y l ih=>
    intro m
    show(addAll l (addM (m,false) y)).2=false
    unfold addM
    split<;>exact ih _
  unfold addM at h⊢
  split at h
  ·rw[hf] at h;cases h
  ·rename_i hs
   rw[if_neg hs]
   have hs':=Lk (by simpa using hs)
   have hn':((m.1++[x]).map (·.1)).Nodup:=by
    rw[List.map_append,List.nodup_append]
    refine⟨hn,Zi,?_⟩
    intro a ha b hb
    simp only[List.map_cons,List.map_nil,List.mem_singleton] at hb
    subst hb
    rintro rfl
    exact hs' ha
   obtain⟨h1,h2,h3⟩:=Dk hn' h
   refine⟨h1,by rw[h2];simp,by simpa using h3⟩
theorem J9 : ∀{l:List (Tx×T)} {m:List (Tx×T)×Bool} {x:Tx×T},x∈(addAll l m).1->x∈m.1\/x∈l
 |[],m,x,h=> .inl h
 |y::l,m,x,h=>by
  rcases J9 (l:=l) (m:=addM m y) h with h|h
  ·unfold addM at h
   split at h
   ·exact .inl h
   ·rcases List.mem_append.1 h with h|h
    ·exact .inl h
    ·simp only[List.mem_singleton] at h;subst h;exact .inr (List.mem_cons_self ..)
  ·exact .inr (List.mem_cons_of_mem _ h)
theorem Dv : ∀{l m:List (Tx×T)},((m++l).map (·.1)).Nodup->setAll l m=m++l
 |[],m,_=>by simp[setAll]
 |x::l,m,h=>by
  have hx:look m x.1=none:=by
   cases hl:look m x.1 with
   |none=>rfl
   |some t=>
    rw[List.map_append,List.nodup_append] at h
    exact(h.2.2 x.1 (List.mem_map.2 ⟨_,Ej hl,rfl⟩) x.1 Zi rfl).elim
  show setAll l (setM m x)=_
  unfold setM
  rw[hx]
  simp only[Option.isSome_none,Bool.false_eq_true,if_false]
  rw[Dv (by simpa using h)]
  simp
end
section
variable {α β γ:Type}
def num (f:Int->α->β):Nat->List α->List β
 |_,[]=>[]
 |n,a::l=>f n a::num f (n+1) l
theorem Cv {f:Int->α->β}{b:β}: ∀{n:Nat} {l:List α},b∈num f n l-> ∃i a,l[i]?=some a/\b=f ((n+i:Nat):Int) a
 |n,a::l,h=>by
  rcases List.mem_cons.1 h with rfl|h
  ·exact⟨0,a,rfl,rfl⟩
  ·obtain⟨i,a,h1,h2⟩:=Cv h
   exact⟨i+1,a,by simpa using h1,by rw[h2];congr 1;omega⟩
theorem Cga {f:Int->α->β}{a:α}: ∀{n i:Nat} {l:List α},l[i]?=some a->f ((n+i:Nat):Int) a∈num f n l
 |n,0,x::l,h=>by simp only[List.getElem?_cons_zero,Option.some.injEq] at h;subst h;exact List.mem_cons_self ..
 |n,i+1,x::l,h=>by
  have:=Cga (f:=f) (n:=n+1) (i:=i) (l:=l) (by simpa using h)
  rw[show n+1+i=n+(i+1) from Zo] at this
  exact List.mem_cons_of_mem _ this
theorem Kr {f:Int->α->β}: ∀{n:Nat} {l m:List α},num f n (l++m)=num f n l++num f (n+l.length) m
 |n,[],m=>by simp[num]
 |n,a::l,m=>by simp only[List.cons_append,num,Kr (l:=l),List.length_cons];rw[show n+1+l.length=n+(l.length+1) from Zo]
end
abbrev Th :=Int×Int
def outL (p:Pr):List (Tx×Th):=num (fun i s=>(s,(2,i))) 0 p.vars++num (fun i (a:Tx×Int)=>(a.1,(3,i))) 0 p.arrays++num (fun i (f:Fu)=>(f.name,(4,i))) 0 p.funcs
def inL (f:Fu):List (Tx×Th):=num (fun i s=>(s,(1,i))) 0 f.params++num (fun i s=>(s,(1,i))) f.params.length f.locals
def findT (a b:List (Tx×Th))(s:Tx):Th:=(look a s).getD ((look b s).getD (0,-1))
structure Use where
 kind:Int
 name:Tx
 args:Int
def ownE (e:Ex):List Use:=if e.kind=2 then[⟨2,e.name,0⟩] else if e.kind=3 then[⟨3,e.name,0⟩] else if e.kind=4 then[⟨4,e.name,e.kids.length⟩] else[]
def ownS (s:St):List Use:=if s.kind=1 then[⟨2,s.name,0⟩] else if s.kind=2 then[⟨3,s.name,0⟩] else if s.kind=6 then[⟨4,s.name,s.e.length⟩] else[]
mutual
def useE :Ex->List Use
 | .mk k o n s l=>ownE (.mk k o n s l)++useEs l
def useEs :List Ex->List Use
 |[]=>[]
 |e::l=>useE e++useEs l
end
mutual
def useS :St->List Use
 | .mk k s e t f=>ownS (.mk k s e t f)++(useEs e++(useSs t++useSs f))
def useSs :List St->List Use
 |[]=>[]
 |e::l=>useS e++useSs l
end
@[simp] theorem useEs_nil :useEs []=[]:=by rw[useEs]
@[simp] theorem Wx (e:Ex)(l:List Ex):useEs (e::l)=useE e++useEs l:=by rw[useEs]
theorem useE_eq (e:Ex):useE e=ownE e++useEs e.kids:=by cases e;rw[useE];rfl
@[simp] theorem useSs_nil :useSs []=[]:=by rw[useSs]
@[simp] theorem Wv (e:St)(l:List St):useSs (e::l)=useS e++useSs l:=by rw[useSs]
theorem useS_eq (s:St):useS s=ownS s++(useEs s.e++(useSs s.th++useSs s.el)):=by cases s;rw[useS];rfl
theorem P2 : ∀l m,useEs (l++m)=useEs l++useEs m
 |[],m=>Zi
 |e::l,m=>by simp[P2 l m]
theorem P1 : ∀l m,useSs (l++m)=useSs l++useSs m
 |[],m=>Zi
 |e::l,m=>by simp[P1 l m]
def useStep (fs:List Fu)(fd:Tx->Th)(i:Nat)(s:Bool×Bool)(u:Use):Bool×Bool:=
 if u.kind=2 then(s.1&&(decide ((fd u.name).1=1)||decide ((fd u.name).1=2)),s.2)
 else if u.kind=3 then(s.1&&decide ((fd u.name).1=3),s.2)
 else if u.kind=4 then(if (fd u.name).1=4/\(fd u.name).2<i then(match fs[(fd u.name).2.toNat]? with|some f=>(s.1,if (f.params.length:Int)=u.args then s.2 else false)|none=>s) else(false,s.2))
 else s
def useAll (fs:List Fu)(fd:Tx->Th)(i:Nat)(l:List Use)(s:Bool×Bool):Bool×Bool:=l.foldl (useStep fs fd i) s
def outM (p:Pr):List (Tx×Th)×Bool:=addAll (outL p) ([],true)
def inM (f:Fu):List (Tx×Th)×Bool:=addAll (inL f) ([],true)
def fnStep (p:Pr)(i:Nat)(f:Fu)(s:Bool×Bool):Bool×Bool:=useAll p.funcs (findT (inM f).1 (outM p).1) i (useSs f.body) (s.1&&(inM f).2,s.2)
def fnsStep (p:Pr):Nat->List Fu->Bool×Bool->Bool×Bool
 |_,[],s=>s
 |i,f::l,s=>fnsStep p (i+1) l (fnStep p i f s)
def Oh (f:Fu):Bool:=decide (f.name.1= "main".toUTF8)&&f.params.length==0&& !f.word
def scopeS (p:Pr):Int:=if (fnsStep p 0 p.funcs ((outM p).2,true)).1=false then 4 else if (fnsStep p 0 p.funcs ((outM p).2,true)).2=false\/(match p.funcs.getLast? with|some f=>Oh f|none=>false)=false then 1 else 0
theorem useStep_mono {fs:List Fu}{fd:Tx->Th}{i:Nat}{s:Bool×Bool}{u:Use}:((useStep fs fd i s u).1=true->s.1=true)/\((useStep fs fd i s u).2=true->s.2=true):=by
 unfold useStep
 repeat' split
 all_goals (first|exact⟨fun h=>h,fun h=>h⟩|(simp only[Bool.and_eq_true];exact⟨fun h=>h.1,fun h=>h⟩)|(constructor<;>simp)|skip)
theorem useAll_mono {fs:List Fu}{fd:Tx->Th}{i:Nat}: ∀{l:List Use} {s:Bool×Bool},((useAll fs fd i l s).1=true->s.1=true)/\((useAll fs fd i l s).2=true->s.2=true)
 |[],s=>⟨fun h=>h,fun h=>h⟩
 |u::l,s=>by
  have h1:=useAll_mono (fs:=fs) (fd:=fd) (i:=i) (l:=l) (s:=useStep fs fd i s u)
  exact⟨fun h=>useStep_mono.1 (h1.1 h),fun h=>useStep_mono.2 (h1.2 h)⟩
theorem Nl {fs:List Fu}{fd:Tx->Th}{i:Nat}: ∀{l:List Use} {s:Bool×Bool} {u:Use},u∈l->(useAll fs fd i l s).1=true->(useAll fs fd i l s).2=true-> ∃s',(useStep fs fd i s' u).1=true/\(useStep fs fd i s' u).2=true
 |v::l,s,u,hu,h1,h2=>by
  have hm:=useAll_mono (fs:=fs) (fd:=fd) (i:=i) (l:=l) (s:=useStep fs fd i s v)
  rcases List.mem_cons.1 hu with rfl|hu
  ·exact⟨s,hm.1 h1,hm.2 h2⟩
  ·exact Nl (l:=l) hu h1 h2
theorem G8 {p:Pr}: ∀{l:List Fu} {n:Nat} {s:Bool×Bool},(fnsStep p n l s).1=true->(fnsStep p n l s).2=true->(s.1=true/\s.2=true)/\ ∀i f,l[i]?=some f-> ∃s',(fnStep p (n+i) f s').1=true/\(fnStep p (n+i) f s').2=true
 |[],n,s,h1,h2=>⟨⟨h1,h2⟩,fun i f h=>by simp at h⟩
 |g::l,n,s,h1,h2=>by
  obtain⟨⟨a1,a2⟩,h⟩:=G8 (l:=l) h1 h2
  refine⟨⟨?_,?_⟩,fun i f hf=>?_⟩
  ·have:=useAll_mono.1 a1
   simp only[Bool.and_eq_true] at this
   exact this.1
  ·exact(useAll_mono (s:=(s.1&&(inM g).2,s.2))).2 a2
  ·cases i with
   |zero=>
    simp only[List.getElem?_cons_zero,Option.some.injEq] at hf
    subst hf
    exact⟨s,a1,a2⟩
   |succ i=>
    have:=h i f (by simpa using hf)
    rwa [show n+1+i=n+(i+1) from Zo] at this
/-! ### types -/
def funM (fs:List Fu):List (Tx×Fu):=(addAll (fs.map fun f=>(f.name,f)) ([],true)).1
def Dr (m:List (Tx×Fu))(s:Tx):Bool:=match look m s with|some f=>f.word|none=>false
section
variable (m:List (Tx×Fu))
mutual
def tyE :Ex->Int
 | .mk k o _ s l=>if k=1\/k=2\/k=5 then 1 else if k=3 then(if tyAll l 1 then 1 else 0) else if k=4 then(if Dr m s=true/\tyAll l 1=true then 1 else 0)
   else if k=6 then(if tyAll l 1 then(if o=14\/o=15 then 2 else 1) else 0) else if k=7\/k=8\/k=9 then(if tyAll l 2 then 2 else 0) else 0
def tyAll :List Ex->Int->Bool
 |[],_=>true
 |e::l,t=>decide (tyE e=t)&&tyAll l t
end
mutual
def knE :Ex->Bool
 | .mk k _ _ s l=>(decide (k≠4)||(look m s).isSome)&&knEs l
def knEs :List Ex->Bool
 |[]=>true
 |e::l=>knE e&&knEs l
end
mutual
def knS :St->Bool
 | .mk k s e t f=>(decide (k≠6)||(look m s).isSome)&&knEs m e&&knSs t&&knSs f
def knSs :List St->Bool
 |[]=>true
 |e::l=>knS e&&knSs l
end
mutual
def tyS (w:Bool):St->Bool
 | .mk k s e t f=>(decide (k≠6)|| !Dr m s)&&(decide (k≠7)||(e.length==0||w))&&tyAll m e (if k=4\/k=5 then 2 else 1)&&tySs w t&&tySs w f
def tySs (w:Bool):List St->Bool
 |[]=>true
 |e::l=>tyS w e&&tySs w l
end
@[simp] theorem tyAll_nil (t:Int):tyAll m [] t=true:=by rw[tyAll]
@[simp] theorem No (e:Ex)(l:List Ex)(t:Int):tyAll m (e::l) t=(decide (tyE m e=t)&&tyAll m l t):=by rw[tyAll]
@[simp] theorem knEs_nil :knEs m []=true:=by rw[knEs]
@[simp] theorem knEs_cons (e:Ex)(l:List Ex):knEs m (e::l)=(knE m e&&knEs m l):=by rw[knEs]
@[simp] theorem knSs_nil :knSs m []=true:=by rw[knSs]
@[simp] theorem knSs_cons (e:St)(l:List St):knSs m (e::l)=(knS m e&&knSs m l):=by rw[knSs]
@[simp] theorem tySs_nil (w:Bool):tySs m w []=true:=by rw[tySs]
@[simp] theorem Dga (w:Bool)(e:St)(l:List St):tySs m w (e::l)=(tyS m w e&&tySs m w l):=by rw[tySs]
end
def typingS (p:Pr):Int:=if p.funcs.all (fun f=>knSs (funM p.funcs) f.body)=false then 4 else if p.funcs.all (fun f=>tySs (funM p.funcs) f.word f.body)=false then 5 else 0
def soundS (nb:Tx->Bool)(p:Pr):Int:=if rP nb p=false then 7 else if scopeS p≠0 then scopeS p else typingS p
/-! ### without names -/
def coFind (a b:List (Tx×Th))(s:Tx):Th:=(look a s).getD ((look b s).getD (0,0))
mutual
def coE (fd:Tx->Th):Ex->Cx
 | .mk k o n s l=> .mk k o n (fd s).1 (fd s).2 (coEs fd l)
def coEs (fd:Tx->Th):List Ex->List Cx
 |[]=>[]
 |e::l=>coE fd e::coEs fd l
end
mutual
def coS (fd:Tx->Th):St->Cs
 | .mk k s e t f=> .mk k (fd s).1 (fd s).2 (coEs fd e) (coSs fd t) (coSs fd f)
def coSs (fd:Tx->Th):List St->List Cs
 |[]=>[]
 |e::l=>coS fd e::coSs fd l
end
@[simp] theorem coEs_nil (fd:Tx->Th):coEs fd []=[]:=by rw[coEs]
@[simp] theorem Fea (fd:Tx->Th)(e:Ex)(l:List Ex):coEs fd (e::l)=coE fd e::coEs fd l:=by rw[coEs]
@[simp] theorem coSs_nil (fd:Tx->Th):coSs fd []=[]:=by rw[coSs]
@[simp] theorem Faa (fd:Tx->Th)(e:St)(l:List St):coSs fd (e::l)=coS fd e::coSs fd l:=by rw[coSs]
theorem Su (fd:Tx->Th): ∀l,coEs fd l=l.map (coE fd)
 |[]=>Zi
 |e::l=>by simp[Su fd l]
theorem Ss (fd:Tx->Th): ∀l,coSs fd l=l.map (coS fd)
 |[]=>Zi
 |e::l=>by simp[Ss fd l]
@[simp] theorem Mu (fd:Tx->Th)(l:List Ex):(coEs fd l).length=l.length:=by simp[Su]
@[simp] theorem coSs_length (fd:Tx->Th)(l:List St):(coSs fd l).length=l.length:=by simp[Ss]
mutual
theorem Mea (fd:Tx->Th): ∀e:Ex,(coE fd e).size=e.size
 | .mk k o n s l=>by rw[coE,Cx.size,Ex.size,Lv]
theorem Lv (fd:Tx->Th): ∀l:List Ex,cxSize (coEs fd l)=exSize l
 |[]=>Zi
 |e::l=>by simp[Mea fd e,Lv fd l]
end
mutual
theorem Mca (fd:Tx->Th): ∀e:St,(coS fd e).size=e.size
 | .mk k s e t f=>by rw[coS,Cs.size,St.size,Lv,Ji,Ji]
theorem Ji (fd:Tx->Th): ∀l:List St,csSize (coSs fd l)=stSize l
 |[]=>Zi
 |e::l=>by simp[Mca fd e,Ji fd l]
end
def arL :Int->List (Tx×Int)->List (Tx×Th)
 |_,[]=>[]
 |w,a::l=>(a.1,(w,a.2))::arL (w+a.2) l
def arW :List (Tx×Int)->Int
 |[]=>0
 |a::l=>a.2+arW l
def coOutL (p:Pr):List (Tx×Th):=num (fun i s=>(s,(i,0))) 0 p.vars++arL p.vars.length p.arrays++num (fun i (f:Fu)=>(f.name,(i,0))) 0 p.funcs
def coOutW (p:Pr):Int:=p.vars.length+arW p.arrays
def coInL (w:Int)(f:Fu):List (Tx×Th):=num (fun i s=>(s,(w+i,0))) 0 (f.params++f.locals)
def slotsOf (f:Fu):Nat:=f.params.length+f.locals.length
def coF (out:List (Tx×Th))(w:Int)(f:Fu):Cf:=⟨f.params.length,slotsOf f,w,f.word,coSs (coFind (setAll (coInL w f) []) out) f.body⟩
def coFs (out:List (Tx×Th)):Int->List Fu->List Cf
 |_,[]=>[]
 |w,f::l=>coF out w f::coFs out (w+slotsOf f) l
def coW :List Fu->Int
 |[]=>0
 |f::l=>slotsOf f+coW l
def coWords (p:Pr):Int:=coOutW p+coW p.funcs
def coreS (p:Pr):Co:=⟨coWords p,coFs (setAll (coOutL p) []) (coOutW p) p.funcs⟩
def sigs (fs:List Fu):List (Nat×Bool):=fs.map fun f=>(f.params.length,f.word)
end
section
open Go Go.Ab
theorem Ju {T:Type}{m:List (Tx×T)}{s:Tx}:look m s=none↔s∉m.map (·.1):=by
 refine⟨Lk,fun h=>?_⟩
 cases hl:look m s with
 |none=>rfl
 |some t=>exact(h (List.mem_map.2 ⟨_,Ej hl,rfl⟩)).elim
theorem K8 {T:Type}: ∀{l m:List (Tx×T)} {b:Bool},((m++l).map (·.1)).Nodup->addAll l (m,b)=(m++l,b)
 |[],m,b,_=>by simp[addAll]
 |x::l,m,b,h=>by
  have hx:look m x.1=none:=by
   rw[Ju]
   intro hx
   rw[List.map_append,List.nodup_append] at h
   exact h.2.2 x.1 hx x.1 Zi rfl
  show addAll l (addM (m,b) x)=_
  unfold addM
  simp only[hx,Option.isSome_none,Bool.false_eq_true,if_false]
  rw[K8 (by simpa using h)]
  simp
theorem Rj : ∀(w:Int) (l:List (Tx×Int)),(arL w l).map (·.1)=l.map (·.1)
 |_,[]=>rfl
 |w,a::l=>by simp[arL,Rj _ l]
theorem Dw {α T:Type}{g:α->Tx}{h:Int->α->T}: ∀{n:Nat} {l:List α},(num (fun i a=>(g a,h i a)) n l).map (·.1)=l.map g
 |_,[]=>rfl
 |n,a::l=>by simp[num,Dw]
theorem Ef (p:Pr):(outL p).map (·.1)=p.vars++p.arrays.map (·.1)++p.funcs.map (·.name):=by
 simp only[outL,List.map_append]
 rw[Dw (g:=fun s=>s),Dw (g:=fun a:Tx×Int=>a.1),Dw (g:=fun f:Fu=>f.name)];simp
theorem F0 (p:Pr):(coOutL p).map (·.1)=p.vars++p.arrays.map (·.1)++p.funcs.map (·.name):=by
 simp only[coOutL,List.map_append,Rj]
 rw[Dw (g:=fun s=>s),Dw (g:=fun f:Fu=>f.name)];simp
theorem Lp (f:Fu):(inL f).map (·.1)=f.params++f.locals:=by
 simp only[inL,List.map_append]
 rw[Dw (g:=fun s=>s),Dw (g:=fun s=>s)];simp
theorem Hf (w:Int)(f:Fu):(coInL w f).map (·.1)=f.params++f.locals:=by
 simp only[coInL]
 rw[Dw (g:=fun s=>s)];simp
def Rr (p:Pr)(fd:Tx->Th)(u:Use):Prop:=u.kind=4-> ∃(j:Nat) (g:Fu),fd u.name=((j:Int),0)/\p.funcs[j]?=some g/\(g.params.length:Int)=u.args/\Dr (funM p.funcs) u.name=g.word
section
variable {nb:Tx->Bool}{p:Pr}{fd:Tx->Th}
theorem Ra {s:Tx}{n:Nat}{v:Bool}(h:Rr p fd ⟨4,s,n⟩)(hv:Dr (funM p.funcs) s=v):Hh (sigs p.funcs) (fd s).1 n v=true:=by
 obtain⟨j,g,h1,h2,h3,h4⟩:=h rfl
 have hp:(p.funcs.map fun f=>(f.params.length,f.word))[j]?=some (g.params.length,g.word):=by rw[List.getElem?_map,h2];rfl
 simp only at h1 h3 h4
 rw[h1]
 unfold Hh sigs
 simp only[Int.toNat_natCast,hp]
 have:g.params.length=n:=Zo
 subst this
 rw[<-hv,h4]
 simp
mutual
theorem goodE : ∀(e:Ex) (v:Nat),rE nb v e=true->(∀u∈useE e,Rr p fd u)->tyE (funM p.funcs) e≠0->gE (sigs p.funcs) (coE fd e)=true
 | .mk k o n s l,v,hr,hu,ht=>by
  rw[rE] at hr
  rw[tyE] at ht
  rw[useE] at hu
  rw[coE,gE]
  simp only[Bool.and_eq_true] at hr
  have hkids:tyAll (funM p.funcs) l 1=true\/tyAll (funM p.funcs) l 2=true\/l=[]->gEs (sigs p.funcs) (coEs fd l)=true:=fun h=>by
   rcases h with h|h|h
   ·exact goodEs l _ 1 hr.2.2 (fun u h=>hu u (List.mem_append_right _ h)) h Zo
   ·exact goodEs l _ 2 hr.2.2 (fun u h=>hu u (List.mem_append_right _ h)) h Zo
   ·subst h;simp
  have hf:=hr.1
  simp only[formE,Ex.kind,Ex.op,Ex.num,Ex.name,Ex.kids] at hf
  simp only[Mu]
  by_cases h1:k=1\/k=2\/k=5
  ·have hl:l.length=0:=by rcases h1 with rfl|rfl|rfl<;>simp at hf<;>simp[hf]
   rw[hkids (.inr (.inr (List.eq_nil_of_length_eq_zero hl)))]
   simp[h1,hl]
  rw[if_neg h1] at ht⊢
  by_cases h3:k=3
  ·subst h3
   have hl:l.length=1:=by simp at hf;exact hf.2
   rw[hkids (.inl (by simpa using ht))]
   simp[hl]
  rw[if_neg h3] at ht
  by_cases h4:k=4
  ·subst h4
   rw[if_pos rfl] at ht
   obtain⟨hw,ht⟩:Dr (funM p.funcs) s=true/\tyAll (funM p.funcs) l 1=true:=by
    by_cases hq:Dr (funM p.funcs) s=true/\tyAll (funM p.funcs) l 1=true
    ·exact hq
    ·rw[if_neg hq] at ht;exact(ht rfl).elim
   rw[hkids (.inl ht)]
   have:=Ra (v:=true) (hu ⟨4,s,l.length⟩ (List.mem_append_left _ (by simp[ownE,Ex.kind,Ex.name,Ex.kids]))) hw
   simpa using this
  rw[if_neg h4] at ht
  by_cases h6:k=6
  ·subst h6
   have hl:l.length=2:=by simp at hf;exact hf.2
   rw[if_pos rfl] at ht
   have ht':tyAll (funM p.funcs) l 1=true:=by
    cases h:tyAll (funM p.funcs) l 1
    ·rw[h] at ht;simp at ht
    ·rfl
   rw[hkids (.inl ht')]
   simp[hl]
  rw[if_neg h6] at ht
  by_cases h7:k=7\/k=8\/k=9
  ·rw[if_pos h7] at ht
   rw[hkids (.inr (.inl (by simpa using ht)))]
   rcases h7 with rfl|rfl|rfl
   ·have hl:l.length=1:=by simp at hf;exact hf.2
    simp[hl]
   ·have hl:l.length=2:=by simp at hf;exact hf.2
    simp[hl]
   ·have hl:l.length=2:=by simp at hf;exact hf.2
    simp[hl]
  ·rw[if_neg h7] at ht;exact(ht rfl).elim
theorem goodEs : ∀(l:List Ex) (v:Nat) (t:Int),rEs nb v l=true->(∀u∈useEs l,Rr p fd u)->tyAll (funM p.funcs) l t=true->t≠0->gEs (sigs p.funcs) (coEs fd l)=true
 |[],_,_,_,_,_,_=>Zi
 |e::l,v,t,hr,hu,ht,h0=>by
  simp only[J8a,No,Bool.and_eq_true,decide_eq_true_eq,Wx] at hr hu ht
  simp only[Fea,Dg,Bool.and_eq_true]
  exact⟨goodE e v hr.1 (fun u h=>hu u (List.mem_append_left _ h)) (by rw[ht.1];exact h0),goodEs l v t hr.2 (fun u h=>hu u (List.mem_append_right _ h)) ht.2 h0⟩
end
mutual
theorem goodS {w:Bool}: ∀(e:St) (v:Nat),rS nb v e=true->(∀u∈useS e,Rr p fd u)->tyS (funM p.funcs) w e=true->gS (sigs p.funcs) w (coS fd e)=true
 | .mk k s e t f,v,hr,hu,ht=>by
  rw[rS] at hr
  rw[tyS] at ht
  rw[useS] at hu
  rw[coS,gS]
  simp only[Bool.and_eq_true,rL] at hr ht
  obtain⟨⟨⟨⟨h6,h7⟩,hte⟩,htt⟩,htf⟩:=ht
  obtain⟨⟨⟨hf,hre⟩,hrt⟩,hrf⟩:=hr
  have ge:gEs (sigs p.funcs) (coEs fd e)=true:=by
   refine goodEs e _ _ hre.2 (fun u h=>hu u ?_) hte (by split<;>omega)
   exact List.mem_append_right _ (List.mem_append_left _ h)
  have gt:gSs (sigs p.funcs) w (coSs fd t)=true:=goodSs t _ hrt.2 (fun u h=>hu u (List.mem_append_right _ (List.mem_append_right _ (List.mem_append_left _ h)))) htt
  have gf:gSs (sigs p.funcs) w (coSs fd f)=true:=goodSs f _ hrf.2 (fun u h=>hu u (List.mem_append_right _ (List.mem_append_right _ (List.mem_append_right _ h)))) htf
  rw[ge,gt,gf]
  simp only[formS,St.kind,St.name,St.e,St.th,St.el] at hf
  simp only[Mu,Bool.true_and]
  by_cases h1:k=1\/k=3\/k=4\/k=5
  ·have hl:e.length=1:=by rcases h1 with rfl|rfl|rfl|rfl<;>simp at hf<;>simp[hf]
   simp[h1,hl]
  rw[if_neg h1]
  by_cases h2:k=2
  ·subst h2
   have hl:e.length=2:=by simp at hf;simp[hf]
   simp[hl]
  rw[if_neg h2]
  by_cases h66:k=6
  ·subst h66
   have:=Ra (v:=false) (hu ⟨4,s,e.length⟩ (List.mem_append_left _ (by simp[ownS,St.kind,St.name,St.e]))) (by simpa using h6)
   simpa using this
  rw[if_neg h66]
  by_cases h77:k=7
  ·subst h77
   have hl:e.length<=1:=by simp at hf;exact of_decide_eq_true hf.1.1.2
   have h7':e.length=0\/w=true:=by simpa using h7
   simp only[if_true,Bool.or_eq_true,beq_iff_eq,Bool.and_eq_true]
   rcases h7' with h|h
   ·exact .inl h
   ·by_cases h0:e.length=0
    ·exact .inl h0
    ·exact .inr ⟨Zo,h⟩
  ·exfalso
   have e1:k≠1:=Zo
   have e3:k≠3:=Zo
   have e4:k≠4:=Zo
   have e5:k≠5:=Zo
   simp[e1,h2,e3,e4,e5,h66,h77] at hf
theorem goodSs {w:Bool}: ∀(l:List St) (v:Nat),rSs nb v l=true->(∀u∈useSs l,Rr p fd u)->tySs (funM p.funcs) w l=true->gSs (sigs p.funcs) w (coSs fd l)=true
 |[],_,_,_,_=>Zi
 |e::l,v,hr,hu,ht=>by
  simp only[J6a,Dga,Bool.and_eq_true,Wv] at hr hu ht
  simp only[Faa,Kx,Bool.and_eq_true]
  exact⟨goodS e v hr.1 (fun u h=>hu u (List.mem_append_left _ h)) ht.1,goodSs l v hr.2 (fun u h=>hu u (List.mem_append_right _ h)) ht.2⟩
end
theorem Eu (h:soundS nb p=0):rP nb p=true/\scopeS p=0/\typingS p=0:=by
 unfold soundS at h
 split at h
 ·cases h
 ·rename_i h1
  split at h
  ·rename_i h2;exact(h2 h).elim
  ·rename_i h2;exact⟨by simpa using h1,by simpa using h2,h⟩
theorem E5a (h:soundS nb p=0){i:Nat}{f:Fu}(hf:p.funcs[i]?=some f)(w:Int):gSs (sigs p.funcs) f.word (coF (setAll (coOutL p) []) w f).body=true:=by
 obtain⟨hr,hs,ht⟩:=Eu h
 have hfm:=List.mem_of_getElem? hf
 unfold scopeS at hs
 have hs1:(fnsStep p 0 p.funcs ((outM p).2,true)).1=true:=by
  cases hq:(fnsStep p 0 p.funcs ((outM p).2,true)).1
  ·rw[if_pos hq] at hs;cases hs
  ·rfl
 rw[if_neg (by rw[hs1];simp)] at hs
 have hs2:(fnsStep p 0 p.funcs ((outM p).2,true)).2=true:=by
  cases hq:(fnsStep p 0 p.funcs ((outM p).2,true)).2
  ·rw[if_pos (.inl hq)] at hs;cases hs
  ·rfl
 obtain⟨⟨o1,_⟩,hfn⟩:=G8 hs1 hs2
 obtain⟨_,oM,oN⟩:=Dk (l:=outL p) (m:=([],true)) Zi o1
 simp only[List.nil_append] at oM oN
 obtain⟨s',n1,n2⟩:=hfn i f hf
 rw[Nat.zero_add] at n1 n2
 have hin:(inM f).2=true:=by
  have:=useAll_mono.1 n1
  simp only[Bool.and_eq_true] at this
  exact this.2
 obtain⟨_,iM,iN⟩:=Dk (l:=inL f) (m:=([],true)) Zi hin
 simp only[List.nil_append] at iM iN
 have e1:setAll (coOutL p) []=coOutL p:=by
  have:=Dv (l:=coOutL p) (m:=[]) (by rw[List.nil_append,F0,<-Ef];exact oN)
  simpa using this
 have e2:setAll (coInL w f) []=coInL w f:=by
  have:=Dv (l:=coInL w f) (m:=[]) (by rw[List.nil_append,Hf,<-Lp];exact iN)
  simpa using this
 have e3:funM p.funcs=p.funcs.map fun f=>(f.name,f):=by
  unfold funM
  rw[K8]
  ·simp
  ·rw[Ef,List.nodup_append] at oN
   simpa[List.map_map,Function.comp_def] using oN.2.1
 have hcall: ∀u∈useSs f.body,Rr p (coFind (coInL w f) (coOutL p)) u:=by
  intro u hu hk
  obtain⟨s'',u1,u2⟩:=Nl hu n1 n2
  have iM':(inM f).1=inL f:=iM
  have oM':(outM p).1=outL p:=oM
  rw[iM',oM'] at u1 u2
  unfold useStep at u1 u2
  simp only[hk,Int.reduceEq,if_false,if_true] at u1 u2
  split at u1
  case isFalse=>cases u1
  rename_i hc
  rw[if_pos hc] at u2
  have hni:look (inL f) u.name=none:=by
   cases hl:look (inL f) u.name with
   |none=>rfl
   |some t=>
    exfalso
    have hm:=Ej hl
    simp only[findT,hl,Option.getD_some] at hc
    simp only[inL,List.mem_append] at hm
    rcases hm with hm|hm
    ·obtain⟨i',a,_,e⟩:=Cv hm
     simp only[Prod.mk.injEq] at e
     rw[e.2] at hc;simp at hc
    ·obtain⟨i',a,_,e⟩:=Cv hm
     simp only[Prod.mk.injEq] at e
     rw[e.2] at hc;simp at hc
  cases hlo:look (outL p) u.name with
  |none=>simp[findT,hni,hlo] at hc
  |some t=>
   have hfd:findT (inL f) (outL p) u.name=t:=by simp[findT,hni,hlo]
   rw[hfd] at hc u2
   have hm:=Ej hlo
   obtain⟨j,g,hj,hname,htj⟩: ∃(j:Nat) (g:Fu),p.funcs[j]?=some g/\g.name=u.name/\t=(4,(j:Int)):=by
    simp only[outL,List.mem_append] at hm
    rcases hm with(hm|hm)|hm
    ·obtain⟨i',a,_,e⟩:=Cv hm
     simp only[Prod.mk.injEq] at e
     rw[e.2] at hc;simp at hc
    ·obtain⟨i',a,_,e⟩:=Cv hm
     simp only[Prod.mk.injEq] at e
     rw[e.2] at hc;simp at hc
    ·obtain⟨i',a,ha,e⟩:=Cv hm
     simp only[Prod.mk.injEq,Nat.zero_add] at e
     exact⟨i',a,ha,e.1.symm,e.2⟩
   subst htj
   simp only[Int.toNat_natCast,hj] at u2
   refine⟨j,g,?_,hj,?_,?_⟩
   ·have h1:look (coInL w f) u.name=none:=by
     rw[Ju,Hf,<-Lp]
     exact Lk hni
    have h2:look (coOutL p) u.name=some ((j:Int),0):=by
     refine Cia (by rw[F0,<-Ef];exact oN) ?_
     have:=Cga (f:=fun i (f:Fu)=>(f.name,((i,0):Th))) (n:=0) hj
     rw[Nat.zero_add,hname] at this
     exact List.mem_append_right _ this
    simp[coFind,h1,h2]
   ·by_cases hp:(g.params.length:Int)=u.args
    ·exact hp
    ·rw[if_neg hp] at u2;cases u2
   ·have:look (funM p.funcs) u.name=some g:=by
     rw[e3]
     refine Cia ?_ (List.mem_map.2 ⟨g,List.mem_of_getElem? hj,by rw[hname]⟩)
     rw[Ef,List.nodup_append] at oN
     simpa[List.map_map,Function.comp_def] using oN.2.1
    simp[Dr,this]
 have hrf:rB nb 1 f.body=true:=by
  unfold rP at hr
  simp only[Bool.and_eq_true,List.all_eq_true] at hr
  have:=hr.2 f hfm
  unfold rF at this
  simp only[Bool.and_eq_true] at this
  exact this.2
 unfold rB at hrf
 simp only[Bool.and_eq_true] at hrf
 have htf:tySs (funM p.funcs) f.word f.body=true:=by
  unfold typingS at ht
  split at ht
  ·cases ht
  split at ht
  ·cases ht
  rename_i h2
  simp only[Bool.not_eq_false,List.all_eq_true] at h2
  exact h2 f hfm
 have:=goodSs (fd:=coFind (coInL w f) (coOutL p)) f.body 1 hrf.2 hcall htf
 simpa[coF,e1,e2] using this
end
end
end Go.Ab.Sy
