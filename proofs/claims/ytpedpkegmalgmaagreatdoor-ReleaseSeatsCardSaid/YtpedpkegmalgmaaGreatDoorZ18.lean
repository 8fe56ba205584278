/- A part of the proof: Oj, Ol, Om, On. -/
import Derived.Test.YtpedpkegmalgmaaGreatDoorZ17
set_option linter.unusedSimpArgs false
set_option linter.unusedVariables false
set_option maxRecDepth 200000
set_option maxHeartbeats 8000000
namespace Go.Proofs.YtpedpkegmalgmaaGreatDoor
section
open Go Go.Ab
theorem whoT_seat (chk:Q.D4→Sg→Bool)(L:List Sg)(Bs:List Q.D4): ∀k,k≤Bs.length→(whoT chk L Bs k).length≤seatN L (Bs.take k)
 |0,_=>by simp[whoT]
 |k+1,h=>by
  have ih:=whoT_seat chk L Bs k (by omega)
  have hk:k<Bs.length:=by omega
  rw[seatN_step hk]
  simp only[whoT,List.getElem?_eq_getElem hk]
  split
  ·rename_i ha
   rw[ansP_in ha]
   simp;omega
  ·split<;>omega
attribute [-simp] Prog.bind getCs putCs
attribute [local simp ↓] run_bind
attribute [local simp ↓] runF_bind
attribute [local simp] run_getCsN runF_getCsN runF_putCsN facetsC facetsW facetsH putCs_one run_putCsN
theorem qright_w {X:Orc}(F:F7 X)(Bs:List Q.D4)(need:Int)(hB:Bs.length≤1000000): ∃rs,(lim Tryz.prog E7 X).dat 40 [.agg [.sl false 4 (rowG Bs),iv need]]=some rs∧ ∃v,rs=[bv v]:=by
 refine fnR (P:=Tryz.prog) (E:=E7) (X:=X) (R:=fun rs=> ∃v,rs=[bv v]) Tryz.func40 (F.hX _ _ rfl) rfl bodyOk_40 rfl rtys_40 rvs_40 ?_
 have hBl:(rowG Bs).length=Bs.length:=by simp
 have hBK:=Lib.hid (show∀j (hj:j<Bs.length),∃a0 a1 a2 a3,(∀h,(rowG Bs)[j]'h=[uv a0,uv a1,uv a2,uv a3]) from fun j hj=>⟨Bs[j].d0,Bs[j].d1,Bs[j].d2,Bs[j].d3,fun h=>by simp[Q.D4.row]⟩)
 generalize rowG Bs=RB at*
 generalize hn:Bs.length=n at*
 clear hn
 by_cases c1:n<1
 ·have c1':(n:Int)<1:=by omega
  repeat' (first|(refine ZN ?_)|(refine Z2 ?_ ?_)|(intro h h';try simp[*,-h] at h'))
  all_goals exact⟨_,rfl⟩
 have c1': ¬(n:Int)<1:=by omega
 by_cases c2:20<n
 ·have c2':(20:Int)<n:=by omega
  repeat' (first|(refine ZN ?_)|(refine Z2 ?_ ?_)|(intro h h';try simp[*,-h] at h'))
  all_goals exact⟨_,rfl⟩
 have c2': ¬(20:Int)<n:=by omega
 by_cases c3:need<1
 ·repeat' (first|(refine ZN ?_)|(refine Z2 ?_ ?_)|(intro h h';try simp[*,-h] at h'))
  all_goals exact⟨_,rfl⟩
 by_cases c4:(n:Int)<need
 ·repeat' (first|(refine ZN ?_)|(refine Z2 ?_ ?_)|(intro h h';try simp[*,-h] at h'))
  all_goals exact⟨_,rfl⟩
 repeat' (first|(refine ZN ?_)|(refine Z2 ?_ ?_)|(intro h h';try simp[*,-h] at h'))
 refine W_loopS (n:=n) (fun s0 m q=> ∃k:Nat,m=n - k∧k≤n∧q.fr 31=iv k∧q.fr 30=s0.fr 30∧q.fr 29=s0.fr 29∧q.fr 1=s0.fr 1∧q.hp ⟨0,1,0⟩=s0.hp ⟨0,1,0⟩) ⟨0,by simp,by omega,by simp,by simp,by simp,by simp,by simp⟩ ?_
 rintro m ⟨fr,hp⟩ ⟨k,rfl,hk,hs31,hs30,hs29,hs1,hh1⟩
 simp at hs31 hs30 hs29 hs1 hh1
 by_cases hlt:k<n
 ·have hw:=wrapN (k:=k) (by omega)
  have hlI:(k:Int)<n:=by omega
  obtain⟨a0,a1,a2,a3,hga⟩:=hBK.out k hlt
  have hkn:(k:Int)≤n:=by omega
  have hk0:(0:Int)≤k:=by omega
  have hmin:min k n=k:=by omega
  repeat' (first|(refine ZN ?_)|(refine Z2 ?_ ?_)|(intro h h';try simp[*,-h] at h'))
  refine W_loopS (n:=k) (fun s0 m q=> ∃j:Nat,m=k - j∧j≤k∧q.fr 41=iv j∧q.fr 40=s0.fr 40∧q.fr 39=s0.fr 39∧q.fr 5=s0.fr 5∧q.hp ⟨0,5,0⟩=s0.hp ⟨0,5,0⟩∧q.fr 31=s0.fr 31∧q.fr 30=s0.fr 30∧q.fr 29=s0.fr 29∧q.fr 1=s0.fr 1∧q.hp ⟨0,1,0⟩=s0.hp ⟨0,1,0⟩) ⟨0,by simp,by omega,by simp,by simp,by simp,by simp,by simp,by simp,by simp,by simp,by simp,by simp⟩ ?_
  rintro m ⟨fr',hp'⟩ ⟨j,rfl,hj,gs41,gs40,gs39,gs5,gh5,gs31,gs30,gs29,gs1,gh1⟩
  simp[hs31,hs30,hs29,hs1,hh1,hmin,hBl] at gs41 gs40 gs39 gs5 gh5 gs31 gs30 gs29 gs1 gh1
  by_cases hjt:j<k
  ·have hw2:=wrapN (k:=j) (by omega)
   have hjI:(j:Int)<k:=by omega
   have hjl:j<n:=by omega
   obtain⟨b0,b1,b2,b3,hgb⟩:=hBK.out j hjl
   have hgt: ∀h,(RB.take k)[j]'h=[uv b0,uv b1,uv b2,uv b3]:=fun h=>by rw[List.getElem_take];exact hgb _
   have htl:(RB.take k).length=k:=by rw[List.length_take];omega
   repeat' (first|(refine ZN ?_)|(refine Z2 ?_ ?_)|(intro h h';try simp[*,-h] at h'))
   all_goals first
    |exact⟨_,rfl⟩
    |exact⟨_,by omega,j+1,rfl,hjt,by simp[*],by simp[*],by simp[*],by simp[*],by simp[*],by simp[*],by simp[*],by simp[*],by simp[*],by simp[*]⟩
  ·obtain rfl:j=k:=by omega
   repeat' (first|(refine ZN ?_)|(refine Z2 ?_ ?_)|(intro h h';try simp[*,-h] at h'))
   all_goals exact⟨_,by omega,j+1,rfl,hlt,by simp[*],by simp[*],by simp[*],by simp[*],by simp[*]⟩
 ·obtain rfl:k=n:=by omega
  repeat' (first|(refine ZN ?_)|(refine Z2 ?_ ?_)|(intro h h';try simp[*,-h] at h'))
  all_goals exact⟨_,rfl⟩
theorem lost_w {X:Orc}(F:F7 X)(l:List ByteArray)(n r0 r1 r2 r3:Int)(hl:l.length≤1000000)(hz: ∀x∈l,x.size≤1000000): ∃rs,(lim Tryz.prog E7 X).dat 42 [.agg [.sl false 1 (rowS l)],.agg [iv n,uv r0,uv r1,uv r2,uv r3]]=some rs∧ ∃e,rs=[iv e]∧(e=0→0≤n∧n≤l.length):=by
 refine fnR (P:=Tryz.prog) (E:=E7) (X:=X) (R:=fun rs=> ∃e,rs=[iv e]∧(e=0→0≤n∧n≤l.length)) Tryz.func42 (F.hX _ _ rfl) rfl bodyOk_42 rfl rtys_42 rvs_42 ?_
 have hRl:(rowS l).length=l.length:=by simp
 by_cases c1:n<0
 ·generalize rowS l=RS at*
  repeat' (first|(refine ZN ?_)|(refine Z2 ?_ ?_)|(intro h h';try simp[*,-h] at h'))
  all_goals exact⟨_,rfl,fun h=>by simp at h⟩
 by_cases c2:(l.length:Int)<n
 ·generalize rowS l=RS at*
  repeat' (first|(refine ZN ?_)|(refine Z2 ?_ ?_)|(intro h h';try simp[*,-h] at h'))
  all_goals exact⟨_,rfl,fun h=>by simp at h⟩
 obtain⟨k,rfl⟩: ∃k:Nat,n=k:=⟨n.toNat,by omega⟩
 have h:=c2
 have h10:=shead_w F (l.take k) (by simp;omega) (fun x hx=>hz x (List.mem_of_mem_take hx))
 have hlt:(l.take k).length=k:=by simp;omega
 have e1:rowS (l.take k)=(rowS l).take k:=List.map_take
 rw[e1] at h10
 unfold headP at h10
 rw[hlt] at h10
 generalize rootP ((l.take k).map Q.ofP)=y at*
 obtain⟨y0,y1,y2,y3⟩:=y
 have n3:(k:Int)≤l.length:=by omega
 have n4:(0:Int)≤k:=by omega
 have n5:min k l.length=k:=by omega
 have n6:k≤l.length:=by omega
 have hend:=Lib.hid (⟨n4,n3⟩:(0:Int)≤k∧(k:Int)≤l.length)
 simp only[Q.D4.row] at h10⊢
 clear hz e1 hlt h
 generalize rowS l=RS at*
 repeat' (first|(refine ZN ?_)|(refine Z2 ?_ ?_)|(intro h h';try simp[*,-h] at h'))
 all_goals exact⟨_,rfl,fun _=>hend.out⟩
theorem headOf_w {X:Orc}(F:F7 X)(n r0 r1 r2 r3:Int)(hr:Q.U r0∧Q.U r1∧Q.U r2∧Q.U r3): ∃rs,(lim Tryz.prog E7 X).dat 23 [.agg [iv n,uv r0,uv r1,uv r2,uv r3]]=some rs∧ ∃d:Q.D4,rs=[.agg d.row]:=by
 refine fnR (P:=Tryz.prog) (E:=E7) (X:=X) (R:=fun rs=> ∃d:Q.D4,rs=[.agg d.row]) Tryz.func23 (F.hX _ _ rfl) rfl bodyOk_23 rfl rtys_23 rvs_23 ?_
 have h35: ∀a b:Int,(lim Tryz.prog E7 X).dat 35 [.sl false 1 [[uv (IntKind.u32.wrap a)],[uv (IntKind.u32.wrap b)],[uv r0],[uv r1],[uv r2],[uv r3]]]=some [tv (Q.txtW [IntKind.u32.wrap a,IntKind.u32.wrap b,r0,r1,r2,r3])]:=fun a b=>F.hW [_,_,_,_,_,_] (by simp) (by
  intro x hx
  simp only[List.mem_cons,List.not_mem_nil,or_false] at hx
  rcases hx with rfl|rfl|rfl|rfl|rfl|rfl
  ·exact Q.wrap_U32 _
  ·exact Q.wrap_U32 _
  ·exact hr.1
  ·exact hr.2.1
  ·exact hr.2.2.1
  ·exact hr.2.2.2)
 obtain⟨dg,hdg⟩: ∃dg:Int→Int→Q.D4,∀a b,(lim Tryz.prog E7 X).dat 34 [tv (⟨#[104]⟩++Q.txtW [IntKind.u32.wrap a,IntKind.u32.wrap b,r0,r1,r2,r3])]=some [.agg [uv (dg a b).d0,uv (dg a b).d1,uv (dg a b).d2,uv (dg a b).d3]]:=⟨fun a b=>Q.ofP (⟨#[104]⟩++Q.txtW [IntKind.u32.wrap a,IntKind.u32.wrap b,r0,r1,r2,r3]),fun a b=>F.hD _ (by
  have:=Q.txtW_size [IntKind.u32.wrap a,IntKind.u32.wrap b,r0,r1,r2,r3]
  rw[ByteArray.size_append,this]
  simp
  decide)⟩
 obtain⟨e,he⟩: ∃e:Q.D4,(lim Tryz.prog E7 X).dat 34 [tv ⟨#[104,101,97,100]⟩]=some [.agg [uv e.d0,uv e.d1,uv e.d2,uv e.d3]]:=⟨_,F.hD _ (by decide)⟩
 obtain⟨e0,e1,e2,e3⟩:=e
 obtain⟨pr,hpr⟩: ∃pr:Q.D4→Q.D4,∀a,(lim Tryz.prog E7 X).dat 33 [.agg [uv a.d0,uv a.d1,uv a.d2,uv a.d3],.agg [uv e0,uv e1,uv e2,uv e3]]=some [.agg [uv (pr a).d0,uv (pr a).d1,uv (pr a).d2,uv (pr a).d3]]:=⟨fun a=>Q.pairP a ⟨e0,e1,e2,e3⟩,fun a=>F.hP a ⟨e0,e1,e2,e3⟩⟩
 have hTs: ∀a b:Int,(Q.txtW [IntKind.u32.wrap a,IntKind.u32.wrap b,r0,r1,r2,r3]).size=24:=fun a b=>by rw[Q.txtW_size];rfl
 have h1s:(⟨#[104]⟩:ByteArray).size=1:=rfl
 generalize hTW:Q.txtW=TW at*
 clear hTW hr
 repeat' (first|(refine ZN ?_)|(refine Z2 ?_ ?_)|(intro h h';try simp[*,-h] at h'))
 all_goals exact⟨⟨_,_,_,_⟩,rfl⟩
theorem holds_w {X:Orc}(F:F7 X)(Bs:List Q.D4)(need:Int)(hB:Bs.length≤1000000)(m:Q.D4)(L:List Sg)(WR:List (List AV))(wn:Nat)(hwl:WR.length=wn)(hwn:wn≤1000000)(hn:(wn:Int)<need)(h60:(lim Tryz.prog E7 X).dat 60 [.agg [.sl false 4 (rowG Bs),iv need],.agg m.row,.sl false 7 (rowSg L)]=some [.vec 1 WR]): ∃rs,(lim Tryz.prog E7 X).dat 43 [.agg [.sl false 4 (rowG Bs),iv need],.agg m.row,.sl false 7 (rowSg L)]=some rs∧ ∃v,rs=[bv v]∧v=false:=by
 refine fnR (P:=Tryz.prog) (E:=E7) (X:=X) (R:=fun rs=> ∃v,rs=[bv v]∧v=false) Tryz.func43 (F.hX _ _ rfl) rfl bodyOk_43 rfl rtys_43 rvs_43 ?_
 obtain⟨_,hq,qv,rfl⟩:=qright_w F Bs need hB
 obtain⟨m0,m1,m2,m3⟩:=m
 simp only[Q.D4.row] at*
 have hend:=Lib.hid hn
 have hWl:WR.length=wn:=hwl
 clear hn
 generalize rowSg L=RS at*
 generalize rowG Bs=RB at*
 cases qv with
 |false=>
  repeat' (first|(refine ZN ?_)|(refine Z2 ?_ ?_)|(intro h h';try simp[*,-h] at h'))
  all_goals exact⟨_,rfl,rfl⟩
 |true=>
  have hlt: ¬need≤(wn:Int):=by have:=hend.out;omega
  repeat' (first|(refine ZN ?_)|(refine Z2 ?_ ?_)|(intro h h';try simp[*,-h] at h'))
  all_goals exact⟨_,rfl,rfl⟩
theorem holds_t {X:Orc}(F:F7 X)(Bs:List Q.D4)(need:Int)(hB:Bs.length≤1000000)(m:Q.D4)(L:List Sg)(WR:List (List AV))(wn:Nat)(hwl:WR.length=wn)(hwn:wn≤1000000)(h60:(lim Tryz.prog E7 X).dat 60 [.agg [.sl false 4 (rowG Bs),iv need],.agg m.row,.sl false 7 (rowSg L)]=some [.vec 1 WR]): ∃rs,(lim Tryz.prog E7 X).dat 43 [.agg [.sl false 4 (rowG Bs),iv need],.agg m.row,.sl false 7 (rowSg L)]=some rs∧ ∃v,rs=[bv v]:=by
 refine fnR (P:=Tryz.prog) (E:=E7) (X:=X) (R:=fun rs=> ∃v,rs=[bv v]) Tryz.func43 (F.hX _ _ rfl) rfl bodyOk_43 rfl rtys_43 rvs_43 ?_
 obtain⟨_,hq,qv,rfl⟩:=qright_w F Bs need hB
 obtain⟨m0,m1,m2,m3⟩:=m
 simp only[Q.D4.row] at*
 have hWl:WR.length=wn:=hwl
 generalize rowSg L=RS at*
 generalize rowG Bs=RB at*
 cases qv with
 |false=>
  repeat' (first|(refine ZN ?_)|(refine Z2 ?_ ?_)|(intro h h';try simp[*,-h] at h'))
  all_goals exact⟨_,rfl⟩
 |true=>
  by_cases hlt:need≤(wn:Int)
  ·repeat' (first|(refine ZN ?_)|(refine Z2 ?_ ?_)|(intro h h';try simp[*,-h] at h'))
   all_goals exact⟨_,rfl⟩
  ·repeat' (first|(refine ZN ?_)|(refine Z2 ?_ ?_)|(intro h h';try simp[*,-h] at h'))
   all_goals exact⟨_,rfl⟩
end
section
open Go Go.Ab
attribute [-simp] Prog.bind getCs putCs
attribute [local simp ↓] run_bind
attribute [local simp ↓] runF_bind
attribute [local simp] run_getCsN runF_getCsN runF_putCsN facetsC facetsW facetsH putCs_one run_putCsN
theorem fewA_w {X:Orc}(F:F7 X)(p0 p1 p2 p3 y0 y1 y2 y3 k1 k2 k3 k4 d0 d1 d2 d3 e0 e1 e2 e3 t m0 m1 m2 m3 fu n1 f0 f1 f2 f3:Int)(g1 g2 g3 g4:ByteArray)(P1 P2 PS IS:List (List AV))(L1 L2:List Sg)(l:List ByteArray)(Bs:List Q.D4)(need fuel:Int): ∃rs,(lim Tryz.prog E7 X).dat 8 [.agg [uv p0,uv p1,uv p2,uv p3,uv y0,uv y1,uv y2,uv y3,iv k1,.sl false 1 P1,tv g1,iv k2,uv d0,uv d1,uv d2,uv d3,tv g2,iv k3,.sl false 1 P2,tv g3,iv k4,uv e0,uv e1,uv e2,uv e3,tv g4,iv t,uv m0,uv m1,uv m2,uv m3,.sl false 1 PS,.sl false 4 IS,iv fu,.sl false 7 (rowSg L1),iv n1,uv f0,uv f1,uv f2,uv f3,.sl false 7 (rowSg L2),.sl false 1 (rowS l),.sl false 4 (rowG Bs),iv need,iv fuel]]=some rs∧ ∃v,rs=[bv v]∧(v=true→PS.length≤40∧IS.length≤40∧Bs.length≤30∧L1.length≤8∧L2.length≤8∧l.length≤12∧ ∀x∈l,x.size≤1000):=by
 refine fnR (P:=Tryz.prog) (E:=E7) (X:=X) (R:=fun rs=> ∃v,rs=[bv v]∧(v=true→PS.length≤40∧IS.length≤40∧Bs.length≤30∧L1.length≤8∧L2.length≤8∧l.length≤12∧ ∀x∈l,x.size≤1000)) Tryz.func8 (F.hX _ _ rfl) rfl bodyOk_8 rfl rtys_8 rvs_8 ?_
 obtain⟨_,hs1,v1,rfl,hv1⟩:=short_w F L1
 obtain⟨_,hs2,v2,rfl,hv2⟩:=short_w F L2
 obtain⟨_,hfw,fv,rfl,hfv⟩:=few_w F l
 have hrt:fv=true→ ∃b,(lim Tryz.prog E7 X).dat 18 [.agg [.sl false 1 (rowS l)]]=some [bv b]:=fun h=>by
  obtain⟨h1,h2⟩:=hfv h
  obtain⟨_,h3,b,rfl⟩:=right_w F l h1 (fun x hx=>Nat.le_trans (h2 x hx) (by decide))
  exact⟨b,h3⟩
 have hBl:(rowG Bs).length=Bs.length:=by simp
 have hK:=Lib.hid (⟨hv1,hv2,hfv⟩:_∧_∧_)
 have hrtK:=Lib.hid hrt
 clear hv1 hv2 hfv hrt
 generalize rowSg L1=RS1 at*
 generalize rowSg L2=RS2 at*
 generalize rowS l=RS at*
 generalize rowG Bs=RB at*
 generalize hbn:Bs.length=bn at*
 clear hbn
 by_cases c1:(40:Int)<PS.length
 ·repeat' (first|(refine ZN ?_)|(refine Z2 ?_ ?_)|(intro h h';try simp[*,-h] at h'))
  all_goals exact⟨false,rfl,fun h=>nomatch h⟩
 by_cases c2:(40:Int)<IS.length
 ·repeat' (first|(refine ZN ?_)|(refine Z2 ?_ ?_)|(intro h h';try simp[*,-h] at h'))
  all_goals exact⟨false,rfl,fun h=>nomatch h⟩
 by_cases c3:(30:Int)<bn
 ·repeat' (first|(refine ZN ?_)|(refine Z2 ?_ ?_)|(intro h h';try simp[*,-h] at h'))
  all_goals exact⟨false,rfl,fun h=>nomatch h⟩
 by_cases c4:1000000<fuel
 ·repeat' (first|(refine ZN ?_)|(refine Z2 ?_ ?_)|(intro h h';try simp[*,-h] at h'))
  all_goals exact⟨false,rfl,fun h=>nomatch h⟩
 cases v1 with
 |false=>
  repeat' (first|(refine ZN ?_)|(refine Z2 ?_ ?_)|(intro h h';try simp[*,-h] at h'))
  all_goals exact⟨false,rfl,fun h=>nomatch h⟩
 |true=>
 cases v2 with
 |false=>
  repeat' (first|(refine ZN ?_)|(refine Z2 ?_ ?_)|(intro h h';try simp[*,-h] at h'))
  all_goals exact⟨false,rfl,fun h=>nomatch h⟩
 |true=>
 have hfin:=Lib.hid (⟨by omega,by omega,by omega,hK.out.1 rfl,hK.out.2.1 rfl⟩:PS.length≤40∧IS.length≤40∧bn≤30∧L1.length≤8∧L2.length≤8)
 have hfvK:=hK.out.2.2
 have hfK:=Lib.hid hfvK
 clear hK hfvK
 repeat' (first|(refine ZN ?_)|(refine Z2 ?_ ?_)|(intro h h';try simp[*,-h] at h'))
 refine W_loopS (n:=2) (fun s0 m q=> ∃k:Nat,m=2 - k∧k≤2∧q.fr 3=iv k∧q.fr 1=s0.fr 1∧q.hp ⟨0,1,0⟩=s0.hp ⟨0,1,0⟩) ⟨0,by simp,by omega,by simp,by simp,by simp⟩ ?_
 rintro m ⟨fr,hp⟩ ⟨k,rfl,hk,hs3,hs1',hh1⟩
 simp at hs3 hs1' hh1
 obtain rfl|rfl|rfl:k=0∨k=1∨k=2:=by omega
 ·simp only[Int.natCast_zero,Int.natCast_one,Int.ofNat_zero,Int.cast_ofNat_Int] at hs3
  by_cases q1:(40:Int)<P1.length
  ·repeat' (first|(refine ZN ?_)|(refine Z2 ?_ ?_)|(intro h h';try simp[*,-h] at h'))
   all_goals exact⟨false,rfl,fun h=>nomatch h⟩
  by_cases q2:(20000:Int)<g1.size
  ·repeat' (first|(refine ZN ?_)|(refine Z2 ?_ ?_)|(intro h h';try simp[*,-h] at h'))
   all_goals exact⟨false,rfl,fun h=>nomatch h⟩
  by_cases q3:(20000:Int)<g2.size
  ·repeat' (first|(refine ZN ?_)|(refine Z2 ?_ ?_)|(intro h h';try simp[*,-h] at h'))
   all_goals exact⟨false,rfl,fun h=>nomatch h⟩
  by_cases q4:100000<k2
  ·repeat' (first|(refine ZN ?_)|(refine Z2 ?_ ?_)|(intro h h';try simp[*,-h] at h'))
   all_goals exact⟨false,rfl,fun h=>nomatch h⟩
  repeat' (first|(refine ZN ?_)|(refine Z2 ?_ ?_)|(intro h h';try simp[*,-h] at h'))
  all_goals exact⟨_,by omega,1,rfl,by omega,by simp[*],by simp[*],by simp[*]⟩
 ·simp only[Int.natCast_zero,Int.natCast_one,Int.ofNat_zero,Int.cast_ofNat_Int] at hs3
  by_cases q1:(40:Int)<P2.length
  ·repeat' (first|(refine ZN ?_)|(refine Z2 ?_ ?_)|(intro h h';try simp[*,-h] at h'))
   all_goals exact⟨false,rfl,fun h=>nomatch h⟩
  by_cases q2:(20000:Int)<g3.size
  ·repeat' (first|(refine ZN ?_)|(refine Z2 ?_ ?_)|(intro h h';try simp[*,-h] at h'))
   all_goals exact⟨false,rfl,fun h=>nomatch h⟩
  by_cases q3:(20000:Int)<g4.size
  ·repeat' (first|(refine ZN ?_)|(refine Z2 ?_ ?_)|(intro h h';try simp[*,-h] at h'))
   all_goals exact⟨false,rfl,fun h=>nomatch h⟩
  by_cases q4:100000<k4
  ·repeat' (first|(refine ZN ?_)|(refine Z2 ?_ ?_)|(intro h h';try simp[*,-h] at h'))
   all_goals exact⟨false,rfl,fun h=>nomatch h⟩
  repeat' (first|(refine ZN ?_)|(refine Z2 ?_ ?_)|(intro h h';try simp[*,-h] at h'))
  all_goals exact⟨_,by omega,2,rfl,by omega,by simp[*],by simp[*],by simp[*]⟩
 ·cases fv with
  |false=>
   repeat' (first|(refine ZN ?_)|(refine Z2 ?_ ?_)|(intro h h';try simp[*,-h] at h'))
   all_goals exact⟨false,rfl,fun h=>nomatch h⟩
  |true=>
   obtain⟨rb,hrb⟩:=hrtK.out rfl
   repeat' (first|(refine ZN ?_)|(refine Z2 ?_ ?_)|(intro h h';try simp[*,-h] at h'))
   all_goals exact⟨_,rfl,fun _=>⟨hfin.out.1,hfin.out.2.1,hfin.out.2.2.1,hfin.out.2.2.2.1,hfin.out.2.2.2.2,hfK.out rfl⟩⟩
end
section
open Go Go.Ab
def Kept (k:Nat)(hp1 hp2:Hp):Prop:= ∀d i c,d≤k→hp2 ⟨d,i,c⟩=hp1 ⟨d,i,c⟩
attribute [-simp] Prog.bind getCs putCs
attribute [local simp ↓] run_bind
attribute [local simp ↓] runF_bind
attribute [local simp] run_getCsN runF_getCsN runF_putCsN facetsC facetsW facetsH putCs_one run_putCsN
theorem agreed_w {X:Orc}(F:F7 X)(p0 p1 p2 p3 y0 y1 y2 y3 k1 k2 k3 k4 d0 d1 d2 d3 e0 e1 e2 e3 t m0 m1 m2 m3 fu n1 f0 f1 f2 f3:Int)(g1 g2 g3 g4:ByteArray)(P1 P2 PS IS:List (List AV))(L1 L2:List Sg)(l:List ByteArray)(Bs:List Q.D4)(need fuel:Int)(sa sb:ByteArray)(m:Q.D4)(RL:List (List AV))(v:Bool)(hh:(lim Tryz.prog E7 X).dat 43 [.agg [.sl false 4 (rowG Bs),iv need],.agg m.row,.sl false 7 RL]=some [bv v]){d:Nat}{hp1:Hp}(h19:hp1 ⟨0,19,0⟩= .box 1 [uv p0,uv p1,uv p2,uv p3,uv y0,uv y1,uv y2,uv y3,iv k1,.sl false 1 P1,tv g1,iv k2,uv d0,uv d1,uv d2,uv d3,tv g2,iv k3,.sl false 1 P2,tv g3,iv k4,uv e0,uv e1,uv e2,uv e3,tv g4,iv t,uv m0,uv m1,uv m2,uv m3,.sl false 1 PS,.sl false 4 IS,iv fu,.sl false 7 (rowSg L1),iv n1,uv f0,uv f1,uv f2,uv f3,.sl false 7 (rowSg L2),.sl false 1 (rowS l),.sl false 4 (rowG Bs),iv need,iv fuel,tv sa,tv sb] false):HB Tryz.prog E7 (lim Tryz.prog E7 X) 1 d 22 [.ptr ⟨0,19,0⟩ 1 0,.agg m.row,.sl false 7 RL] hp1 (fun u hp2=>u=iv (if v then 0 else 13)∧Kept 1 hp1 hp2) (fun _ _=>False):=by
 refine lim_hpcBr (k1:=2) (PR:=fun _ _=>False) rfl Tryz.func22 (F.hH _ _ _ _ _) rfl bodyOk_22 rfl rvs_22 ?_
 obtain⟨m0,m1,m2,m3⟩:=m
 simp only[Q.D4.row] at*
 generalize rowSg L1=RS1 at*
 generalize rowSg L2=RS2 at*
 generalize rowS l=RS at*
 generalize rowG Bs=RB at*
 cases v with
 |false=>
  repeat' (first|(refine ZN ?_)|(refine Z2 ?_ ?_)|(intro h h';try simp[*,-h] at h'))
  all_goals exact⟨rfl,(by intro d i c hd;have hd2:d≠2:=(by omega);simp[*])⟩
 |true=>
  repeat' (first|(refine ZN ?_)|(refine Z2 ?_ ?_)|(intro h h';try simp[*,-h] at h'))
  all_goals exact⟨rfl,(by intro d i c hd;have hd2:d≠2:=(by omega);simp[*])⟩
theorem kept_w {X:Orc}(F:F7 X)(p0 p1 p2 p3 y0 y1 y2 y3 k1 k2 k3 k4 d0 d1 d2 d3 e0 e1 e2 e3 t m0 m1 m2 m3 fu n1 f0 f1 f2 f3:Int)(g1 g2 g3 g4:ByteArray)(P1 P2 PS IS:List (List AV))(L1 L2:List Sg)(l:List ByteArray)(Bs:List Q.D4)(need fuel:Int)(sa sb:ByteArray)(hl:l.length≤1000000)(hz: ∀x∈l,x.size≤1000000){d:Nat}{hp1:Hp}(h19:hp1 ⟨0,19,0⟩= .box 1 [uv p0,uv p1,uv p2,uv p3,uv y0,uv y1,uv y2,uv y3,iv k1,.sl false 1 P1,tv g1,iv k2,uv d0,uv d1,uv d2,uv d3,tv g2,iv k3,.sl false 1 P2,tv g3,iv k4,uv e0,uv e1,uv e2,uv e3,tv g4,iv t,uv m0,uv m1,uv m2,uv m3,.sl false 1 PS,.sl false 4 IS,iv fu,.sl false 7 (rowSg L1),iv n1,uv f0,uv f1,uv f2,uv f3,.sl false 7 (rowSg L2),.sl false 1 (rowS l),.sl false 4 (rowG Bs),iv need,iv fuel,tv sa,tv sb] false):HB Tryz.prog E7 (lim Tryz.prog E7 X) 0 d 20 [.ptr ⟨0,19,0⟩ 1 0] hp1 (fun u hp2=> ∃e:Int,u=iv e∧(e=0→0≤n1∧n1≤l.length)∧Kept 0 hp1 hp2) (fun _ _=>False):=by
 refine lim_hpcBr (k1:=1) (PR:=fun _ _=>False) rfl Tryz.func20 (F.hH _ _ _ _ _) rfl bodyOk_20 rfl rvs_20 ?_
 obtain⟨_,hlo,e,rfl,he⟩:=lost_w F l n1 f0 f1 f2 f3 hl hz
 have heK:=Lib.hid he
 clear he hz
 generalize rowSg L1=RS1 at*
 generalize rowSg L2=RS2 at*
 generalize rowS l=RS at*
 generalize rowG Bs=RB at*
 repeat' (first|(refine ZN ?_)|(refine Z2 ?_ ?_)|(intro h h';try simp[*,-h] at h'))
 all_goals exact⟨e,rfl,heK.out,(by intro d i c hd;have hd1:d≠1:=(by omega);simp[*])⟩
theorem form_w {X:Orc}(F:F7 X)(p0 p1 p2 p3 y0 y1 y2 y3 k1 k2 k3 k4 d0 d1 d2 d3 e0 e1 e2 e3 t m0 m1 m2 m3 fu n1 f0 f1 f2 f3:Int)(g1 g2 g3 g4:ByteArray)(P1 P2 PS IS:List (List AV))(L1 L2:List Sg)(l:List ByteArray)(Bs:List Q.D4)(need fuel:Int)(sa sb:ByteArray)(hB:Bs.length≤1000000)(ri:Bool)(hri:(lim Tryz.prog E7 X).dat 41 [.agg [iv t,uv m0,uv m1,uv m2,uv m3,.sl false 1 PS,.sl false 4 IS,iv fu]]=some [bv ri])(hIS: ∀r∈IS,∃a b c d:Int,r=[uv a,uv b,uv c,uv d]){d:Nat}{hp1:Hp}(h19:hp1 ⟨0,19,0⟩= .box 1 [uv p0,uv p1,uv p2,uv p3,uv y0,uv y1,uv y2,uv y3,iv k1,.sl false 1 P1,tv g1,iv k2,uv d0,uv d1,uv d2,uv d3,tv g2,iv k3,.sl false 1 P2,tv g3,iv k4,uv e0,uv e1,uv e2,uv e3,tv g4,iv t,uv m0,uv m1,uv m2,uv m3,.sl false 1 PS,.sl false 4 IS,iv fu,.sl false 7 (rowSg L1),iv n1,uv f0,uv f1,uv f2,uv f3,.sl false 7 (rowSg L2),.sl false 1 (rowS l),.sl false 4 (rowG Bs),iv need,iv fuel,tv sa,tv sb] false):HB Tryz.prog E7 (lim Tryz.prog E7 X) 0 d 19 [.ptr ⟨0,19,0⟩ 1 0] hp1 (fun u hp2=> ∃e:Int,u=iv e∧Kept 0 hp1 hp2) (fun _ _=>False):=by
 refine lim_hpcBr (k1:=1) (PR:=fun _ _=>False) rfl Tryz.func19 (F.hH _ _ _ _ _) rfl bodyOk_19 rfl rvs_19 ?_
 obtain⟨_,hq,qv,rfl⟩:=qright_w F Bs need hB
 generalize rowSg L1=RS1 at*
 generalize rowSg L2=RS2 at*
 generalize rowS l=RS at*
 generalize rowG Bs=RB at*
 cases qv with
 |false=>
  clear hIS
  repeat' (first|(refine ZN ?_)|(refine Z2 ?_ ?_)|(intro h h';try simp[*,-h] at h'))
  all_goals exact⟨_,rfl,(by intro d i c hd;have hd1:d≠1:=(by omega);simp[*])⟩
 |true=>
  cases ri with
  |false=>
   clear hIS
   repeat' (first|(refine ZN ?_)|(refine Z2 ?_ ?_)|(intro h h';try simp[*,-h] at h'))
   all_goals exact⟨_,rfl,(by intro d i c hd;have hd1:d≠1:=(by omega);simp[*])⟩
  |true=>
   by_cases h1:IS.length=1
   ·obtain⟨r,rfl⟩: ∃r,IS=[r]:=List.length_eq_one_iff.1 h1
    obtain⟨a0,a1,a2,a3,rfl⟩:=hIS _ (List.mem_singleton.2 rfl)
    clear hIS h1
    repeat' (first|(refine ZN ?_)|(refine Z2 ?_ ?_)|(intro h h';try simp[*,-h] at h'))
    all_goals exact⟨_,rfl,(by intro d i c hd;have hd1:d≠1:=(by omega);simp[*])⟩
   ·have h1': ¬(IS.length:Int)=1:=by omega
    clear hIS
    repeat' (first|(refine ZN ?_)|(refine Z2 ?_ ?_)|(intro h h';try simp[*,-h] at h'))
    all_goals exact⟨_,rfl,(by intro d i c hd;have hd1:d≠1:=(by omega);simp[*])⟩
end
section
open Go Go.Ab
attribute [-simp] Prog.bind getCs putCs
attribute [local simp ↓] run_bind
attribute [local simp ↓] runF_bind
attribute [local simp] run_getCsN runF_getCsN runF_putCsN facetsC facetsW facetsH putCs_one run_putCsN
theorem heads_w {X:Orc}(F:F7 X)(p0 p1 p2 p3 y0 y1 y2 y3 k1 k2 k3 k4 d0 d1 d2 d3 e0 e1 e2 e3 t m0 m1 m2 m3 fu n1 f0 f1 f2 f3:Int)(g1 g2 g3 g4:ByteArray)(P1 P2 PS IS:List (List AV))(L1 L2:List Sg)(l:List ByteArray)(Bs:List Q.D4)(need fuel:Int)(sa sb:ByteArray)(hr:Q.U f0∧Q.U f1∧Q.U f2∧Q.U f3)(short:Prop)(hh: ∀m:Q.D4,∃v,(lim Tryz.prog E7 X).dat 43 [.agg [.sl false 4 (rowG Bs),iv need],.agg m.row,.sl false 7 (rowSg L2)]=some [bv v]∧(short→v=false)){d:Nat}{hp1:Hp}(h19:hp1 ⟨0,19,0⟩= .box 1 [uv p0,uv p1,uv p2,uv p3,uv y0,uv y1,uv y2,uv y3,iv k1,.sl false 1 P1,tv g1,iv k2,uv d0,uv d1,uv d2,uv d3,tv g2,iv k3,.sl false 1 P2,tv g3,iv k4,uv e0,uv e1,uv e2,uv e3,tv g4,iv t,uv m0,uv m1,uv m2,uv m3,.sl false 1 PS,.sl false 4 IS,iv fu,.sl false 7 (rowSg L1),iv n1,uv f0,uv f1,uv f2,uv f3,.sl false 7 (rowSg L2),.sl false 1 (rowS l),.sl false 4 (rowG Bs),iv need,iv fuel,tv sa,tv sb] false)(h9:hp1 ⟨0,9,0⟩= .box 1 [.ptr ⟨0,19,0⟩ 1 0] false)(h4:hp1 ⟨0,4,0⟩= .box 1 [uv p0,uv p1,uv p2,uv p3,uv y0,uv y1,uv y2,uv y3,iv k1,.sl false 1 P1,tv g1,iv k2,uv d0,uv d1,uv d2,uv d3,tv g2,iv k3,.sl false 1 P2,tv g3,iv k4,uv e0,uv e1,uv e2,uv e3,tv g4,iv t,uv m0,uv m1,uv m2,uv m3,.sl false 1 PS,.sl false 4 IS,iv fu,.sl false 7 (rowSg L1),iv n1,uv f0,uv f1,uv f2,uv f3,.sl false 7 (rowSg L2)] false):HB Tryz.prog E7 (lim Tryz.prog E7 X) 0 d 21 [.ptr ⟨0,9,0⟩ 1 0,.ptr ⟨0,4,0⟩ 1 0] hp1 (fun u hp2=> ∃e:Int,u=iv e∧(short→e≠0)∧Kept 0 hp1 hp2) (fun _ _=>False):=by
 refine lim_hpcBr (k1:=1) (PR:=fun _ _=>False) rfl Tryz.func21 (F.hH _ _ _ _ _) rfl bodyOk_21 rfl rvs_21 ?_
 obtain⟨_,hho,dg,rfl⟩:=headOf_w F n1 f0 f1 f2 f3 hr
 clear hr
 obtain⟨v,hv,hsh⟩:=hh dg
 have hag:=Lib.hid (show∀(d:Nat) (hp1:Hp),hp1 ⟨0,19,0⟩= .box 1 [uv p0,uv p1,uv p2,uv p3,uv y0,uv y1,uv y2,uv y3,iv k1,.sl false 1 P1,tv g1,iv k2,uv d0,uv d1,uv d2,uv d3,tv g2,iv k3,.sl false 1 P2,tv g3,iv k4,uv e0,uv e1,uv e2,uv e3,tv g4,iv t,uv m0,uv m1,uv m2,uv m3,.sl false 1 PS,.sl false 4 IS,iv fu,.sl false 7 (rowSg L1),iv n1,uv f0,uv f1,uv f2,uv f3,.sl false 7 (rowSg L2),.sl false 1 (rowS l),.sl false 4 (rowG Bs),iv need,iv fuel,tv sa,tv sb] false→HB Tryz.prog E7 (lim Tryz.prog E7 X) 1 d 22 [.ptr ⟨0,19,0⟩ 1 0,.agg dg.row,.sl false 7 (rowSg L2)] hp1 (fun u hp2=>u=iv (if v then 0 else 13)∧Kept 1 hp1 hp2) (fun _ _=>False) from fun d hp1 h=>agreed_w F p0 p1 p2 p3 y0 y1 y2 y3 k1 k2 k3 k4 d0 d1 d2 d3 e0 e1 e2 e3 t m0 m1 m2 m3 fu n1 f0 f1 f2 f3 g1 g2 g3 g4 P1 P2 PS IS L1 L2 l Bs need fuel sa sb dg _ v hv h)
 have hend:=Lib.hid (show short→(if v then(0:Int) else 13)≠0 from fun h=>by rw[hsh h];decide)
 clear hh hsh hv
 generalize (if v then(0:Int) else 13)=ev at*
 obtain⟨dg0,dg1,dg2,dg3⟩:=dg
 simp only[Q.D4.row] at*
 generalize rowSg L1=RS1 at*
 generalize rowSg L2=RS2 at*
 generalize rowS l=RS at*
 generalize rowG Bs=RB at*
 rcases hag.out 9 hp1 h19 with⟨u,hp2,hc,hu,hkp⟩|⟨_,_,_,_,h⟩
 ·subst hu
  have hkK:=Lib.hid hkp
  clear hkp
  repeat' (first|(refine ZN ?_)|(refine Z2 ?_ ?_)|(intro h h';try simp[*,-h] at h'))
  all_goals exact⟨ev,rfl,hend.out,(by intro d i c hd;exact hkK.out d i c (by omega))⟩
 ·exact h.elim
theorem links_w {X:Orc}(F:F7 X)(p0 p1 p2 p3 y0 y1 y2 y3 k1 k2 k3 k4 d0 d1 d2 d3 e0 e1 e2 e3 t m0 m1 m2 m3 fu n1 f0 f1 f2 f3:Int)(g1 g2 g3 g4:ByteArray)(P1 P2 PS IS:List (List AV))(L1 L2:List Sg)(l:List ByteArray)(Bs:List Q.D4)(need fuel:Int)(sa sb:ByteArray)(dd:Q.D4)(er:Int)(h6:(lim Tryz.prog E7 X).dat 6 [.agg [uv p0,uv p1,uv p2,uv p3,uv y0,uv y1,uv y2,uv y3,iv k1,.sl false 1 P1,tv g1,iv k2,uv d0,uv d1,uv d2,uv d3,tv g2,iv k3,.sl false 1 P2,tv g3,iv k4,uv e0,uv e1,uv e2,uv e3,tv g4,iv t,uv m0,uv m1,uv m2,uv m3,.sl false 1 PS,.sl false 4 IS,iv fu,.sl false 7 (rowSg L1),iv n1,uv f0,uv f1,uv f2,uv f3,.sl false 7 (rowSg L2)]]=some [.agg dd.row,iv er])(short:Prop)(hh: ∀m:Q.D4,∃v,(lim Tryz.prog E7 X).dat 43 [.agg [.sl false 4 (rowG Bs),iv need],.agg m.row,.sl false 7 (rowSg L1)]=some [bv v]∧(short→v=false)){d:Nat}{hp1:Hp}(h19:hp1 ⟨0,19,0⟩= .box 1 [uv p0,uv p1,uv p2,uv p3,uv y0,uv y1,uv y2,uv y3,iv k1,.sl false 1 P1,tv g1,iv k2,uv d0,uv d1,uv d2,uv d3,tv g2,iv k3,.sl false 1 P2,tv g3,iv k4,uv e0,uv e1,uv e2,uv e3,tv g4,iv t,uv m0,uv m1,uv m2,uv m3,.sl false 1 PS,.sl false 4 IS,iv fu,.sl false 7 (rowSg L1),iv n1,uv f0,uv f1,uv f2,uv f3,.sl false 7 (rowSg L2),.sl false 1 (rowS l),.sl false 4 (rowG Bs),iv need,iv fuel,tv sa,tv sb] false)(h9:hp1 ⟨0,9,0⟩= .box 1 [.ptr ⟨0,19,0⟩ 1 0] false)(h4:hp1 ⟨0,4,0⟩= .box 1 [uv p0,uv p1,uv p2,uv p3,uv y0,uv y1,uv y2,uv y3,iv k1,.sl false 1 P1,tv g1,iv k2,uv d0,uv d1,uv d2,uv d3,tv g2,iv k3,.sl false 1 P2,tv g3,iv k4,uv e0,uv e1,uv e2,uv e3,tv g4,iv t,uv m0,uv m1,uv m2,uv m3,.sl false 1 PS,.sl false 4 IS,iv fu,.sl false 7 (rowSg L1),iv n1,uv f0,uv f1,uv f2,uv f3,.sl false 7 (rowSg L2)] false):HB Tryz.prog E7 (lim Tryz.prog E7 X) 0 d 25 [.ptr ⟨0,4,0⟩ 1 0,.ptr ⟨0,9,0⟩ 1 0] hp1 (fun u hp2=> ∃e:Int,u=iv e∧(short→e≠0)∧Kept 0 hp1 hp2) (fun _ _=>False):=by
 refine lim_hpcBr (k1:=1) (PR:=fun _ _=>False) rfl Tryz.func25 (F.hH _ _ _ _ _) rfl bodyOk_25 rfl rvs_25 ?_
 obtain⟨v,hv,hsh⟩:=hh dd
 have hag:=Lib.hid (show∀(d:Nat) (hp1:Hp),hp1 ⟨0,19,0⟩= .box 1 [uv p0,uv p1,uv p2,uv p3,uv y0,uv y1,uv y2,uv y3,iv k1,.sl false 1 P1,tv g1,iv k2,uv d0,uv d1,uv d2,uv d3,tv g2,iv k3,.sl false 1 P2,tv g3,iv k4,uv e0,uv e1,uv e2,uv e3,tv g4,iv t,uv m0,uv m1,uv m2,uv m3,.sl false 1 PS,.sl false 4 IS,iv fu,.sl false 7 (rowSg L1),iv n1,uv f0,uv f1,uv f2,uv f3,.sl false 7 (rowSg L2),.sl false 1 (rowS l),.sl false 4 (rowG Bs),iv need,iv fuel,tv sa,tv sb] false→HB Tryz.prog E7 (lim Tryz.prog E7 X) 1 d 22 [.ptr ⟨0,19,0⟩ 1 0,.agg dd.row,.sl false 7 (rowSg L1)] hp1 (fun u hp2=>u=iv (if v then 0 else 13)∧Kept 1 hp1 hp2) (fun _ _=>False) from fun d hp1 h=>agreed_w F p0 p1 p2 p3 y0 y1 y2 y3 k1 k2 k3 k4 d0 d1 d2 d3 e0 e1 e2 e3 t m0 m1 m2 m3 fu n1 f0 f1 f2 f3 g1 g2 g3 g4 P1 P2 PS IS L1 L2 l Bs need fuel sa sb dd _ v hv h)
 have hend:=Lib.hid (show short→(if v then(0:Int) else 13)≠0 from fun h=>by rw[hsh h];decide)
 clear hh hsh hv
 generalize (if v then(0:Int) else 13)=ev at*
 obtain⟨dg0,dg1,dg2,dg3⟩:=dd
 simp only[Q.D4.row] at*
 generalize rowSg L1=RS1 at*
 generalize rowSg L2=RS2 at*
 generalize rowS l=RS at*
 generalize rowG Bs=RB at*
 by_cases he:er=0
 ·subst he
  repeat' (first|(refine ZN ?_)|(refine Z2 ?_ ?_)|(intro h h';try simp[*,-h] at h')|((with_reducible apply Wo_call (f:=22));(iterate 5 exact Z5);(apply hag.out);(focus (simp[*];done));rotate_left;(rintro _ _ h;exact h.elim);(rintro _ hp2 ⟨rfl,hk2⟩;replace hk2:=Lib.hid hk2))|fail)
  all_goals exact⟨ev,rfl,hend.out,(by intro d i c hd;have hd1:d≠1:=(by omega);exact(hk2.out d i c (by omega)).trans (by simp[*]))⟩
 ·have hne:=Lib.hid he
  repeat' (first|(refine ZN ?_)|(refine Z2 ?_ ?_)|(intro h h';try simp[*,-h] at h'))
  all_goals exact⟨er,rfl,fun _=>hne.out,(by intro d i c hd;have hd1:d≠1:=(by omega);simp[*])⟩
theorem found_w {X:Orc}(F:F7 X)(p0 p1 p2 p3 y0 y1 y2 y3 k1 k2 k3 k4 d0 d1 d2 d3 e0 e1 e2 e3 t m0 m1 m2 m3 fu n1 f0 f1 f2 f3:Int)(g1 g2 g3 g4:ByteArray)(P1 P2 PS IS:List (List AV))(L1 L2:List Sg)(l:List ByteArray)(Bs:List Q.D4)(need fuel:Int)(sa sb:ByteArray)(hl:l.length≤1000000)(hz: ∀x∈l,x.size≤1000000)(hn0:0≤n1)(hn1:n1≤l.length){d:Nat}{hp1:Hp}(h19:hp1 ⟨0,19,0⟩= .box 1 [uv p0,uv p1,uv p2,uv p3,uv y0,uv y1,uv y2,uv y3,iv k1,.sl false 1 P1,tv g1,iv k2,uv d0,uv d1,uv d2,uv d3,tv g2,iv k3,.sl false 1 P2,tv g3,iv k4,uv e0,uv e1,uv e2,uv e3,tv g4,iv t,uv m0,uv m1,uv m2,uv m3,.sl false 1 PS,.sl false 4 IS,iv fu,.sl false 7 (rowSg L1),iv n1,uv f0,uv f1,uv f2,uv f3,.sl false 7 (rowSg L2),.sl false 1 (rowS l),.sl false 4 (rowG Bs),iv need,iv fuel,tv sa,tv sb] false):HB Tryz.prog E7 (lim Tryz.prog E7 X) 0 d 24 [.ptr ⟨0,19,0⟩ 1 0] hp1 (fun u hp2=> ∃(e:Int) (ta tb:ByteArray),u=iv e∧hp2 ⟨0,19,0⟩= .box 1 [uv p0,uv p1,uv p2,uv p3,uv y0,uv y1,uv y2,uv y3,iv k1,.sl false 1 P1,tv g1,iv k2,uv d0,uv d1,uv d2,uv d3,tv g2,iv k3,.sl false 1 P2,tv g3,iv k4,uv e0,uv e1,uv e2,uv e3,tv g4,iv t,uv m0,uv m1,uv m2,uv m3,.sl false 1 PS,.sl false 4 IS,iv fu,.sl false 7 (rowSg L1),iv n1,uv f0,uv f1,uv f2,uv f3,.sl false 7 (rowSg L2),.sl false 1 (rowS l),.sl false 4 (rowG Bs),iv need,iv fuel,tv ta,tv tb] false∧ ∀d i c,d≤0→(⟨d,i,c⟩:Nm)≠⟨0,19,0⟩→hp2 ⟨d,i,c⟩=hp1 ⟨d,i,c⟩) (fun _ _=>False):=by
 refine lim_hpcBr (k1:=1) (PR:=fun _ _=>False) rfl Tryz.func24 (F.hH _ _ _ _ _) rfl bodyOk_24 rfl rvs_24 ?_
 obtain⟨nn,rfl⟩: ∃nn:Nat,n1=nn:=⟨n1.toNat,by omega⟩
 have hnl:nn≤l.length:=by omega
 have hmin:min nn l.length=nn:=by omega
 have hRl:(rowS l).length=l.length:=by simp
 have hDK:=Lib.hid (show∀j,j<nn→ ∃(s:ByteArray) (q0 q1 q2 q3:Int),(∀h,((rowS l).take nn)[j]'h=[tv s])∧(lim Tryz.prog E7 X).dat 34 [tv s]=some [.agg [uv q0,uv q1,uv q2,uv q3]] from fun j hj=>⟨l[j],(Q.ofP l[j]).d0,(Q.ofP l[j]).d1,(Q.ofP l[j]).d2,(Q.ofP l[j]).d3,fun h=>by rw[List.getElem_take];simp,F.hD _ (hz _ (List.getElem_mem (by omega)))⟩)
 have htl:((rowS l).take nn).length=nn:=by rw[List.length_take,hRl,hmin]
 have hl0:l.length≤1000000:=hl
 generalize hln:l.length=ln at*
 clear hln hz
 generalize rowSg L1=RS1 at*
 generalize rowSg L2=RS2 at*
 generalize rowS l=RS at*
 generalize rowG Bs=RB at*
 repeat' (first|(refine ZN ?_)|(refine Z2 ?_ ?_)|(intro h h';try simp[*,-h] at h'))
 refine W_loopS (n:=nn) (fun s0 m q=> ∃(k:Nat) (x y:Bool) (ta tb:ByteArray),m=nn - k∧k≤nn∧q.fr 21=iv k∧q.fr 3=bv x∧q.fr 4=bv y∧q.fr 20=s0.fr 20∧q.fr 19=s0.fr 19∧q.fr 0=s0.fr 0∧q.hp ⟨0,19,0⟩= .box 1 [uv p0,uv p1,uv p2,uv p3,uv y0,uv y1,uv y2,uv y3,iv k1,.sl false 1 P1,tv g1,iv k2,uv d0,uv d1,uv d2,uv d3,tv g2,iv k3,.sl false 1 P2,tv g3,iv k4,uv e0,uv e1,uv e2,uv e3,tv g4,iv t,uv m0,uv m1,uv m2,uv m3,.sl false 1 PS,.sl false 4 IS,iv fu,.sl false 7 RS1,iv (nn:Int),uv f0,uv f1,uv f2,uv f3,.sl false 7 RS2,.sl false 1 RS,.sl false 4 RB,iv need,iv fuel,tv ta,tv tb] false∧ ∀d i c,d≤0→(⟨d,i,c⟩:Nm)≠⟨0,19,0⟩→q.hp ⟨d,i,c⟩=hp1 ⟨d,i,c⟩) ⟨0,false,false,sa,sb,by simp,by omega,by simp,by simp,by simp,by simp,by simp,by simp,by simp[*],(by intro d i c hd hne;have hd1:d≠1:=(by omega);simp[*])⟩ ?_
 rintro m ⟨fr,hp⟩ ⟨k,x,y,ta,tb,rfl,hk,hs21,hs3,hs4,hs20,hs19,hs0,hb,hfar⟩
 simp[hmin,htl,hRl] at hs21 hs3 hs4 hs20 hs19 hs0
 simp only at hb hfar
 replace hfar:=Lib.hid hfar
 clear h19
 by_cases hlt:k<nn
 ·have hlI:(k:Int)<nn:=by omega
  have hw:=wrapN (k:=k) (by omega)
  obtain⟨s,q0,q1,q2,q3,hg,hdo⟩:=hDK.out k hlt
  have hltl:k<(RS.take nn).length:=by omega
  have hg2:(RS.take nn)[k]?=some [tv s]:=by rw[List.getElem?_eq_getElem hltl,hg]
  clear hltl
  cases x<;>cases y
  ·repeat' (first|(refine ZN ?_)|(refine Z2 ?_ ?_)|(intro h h';try simp[*,-h] at h'))
   all_goals first
    |(refine⟨nn - (k+1),?_,k+1,false,false,ta,tb,rfl,?_,?_,?_,?_,?_,?_,?_,?_,?_⟩<;>first|omega|(simp[*];done)|(intro d i c hd hne;have hd1:d≠1:=(by omega);exact Eq.trans (by simp[*]) (hfar.out d i c hd hne)))
    |(refine⟨nn - (k+1),?_,k+1,true,false,s,tb,rfl,?_,?_,?_,?_,?_,?_,?_,?_,?_⟩<;>first|omega|(simp[*];done)|(intro d i c hd hne;have hd1:d≠1:=(by omega);exact Eq.trans (by simp[*]) (hfar.out d i c hd hne)))
    |(refine⟨nn - (k+1),?_,k+1,false,true,ta,s,rfl,?_,?_,?_,?_,?_,?_,?_,?_,?_⟩<;>first|omega|(simp[*];done)|(intro d i c hd hne;have hd1:d≠1:=(by omega);exact Eq.trans (by simp[*]) (hfar.out d i c hd hne)))
    |(refine⟨nn - (k+1),?_,k+1,true,true,s,s,rfl,?_,?_,?_,?_,?_,?_,?_,?_,?_⟩<;>first|omega|(simp[*];done)|(intro d i c hd hne;have hd1:d≠1:=(by omega);exact Eq.trans (by simp[*]) (hfar.out d i c hd hne)))
  ·repeat' (first|(refine ZN ?_)|(refine Z2 ?_ ?_)|(intro h h';try simp[*,-h] at h'))
   all_goals first
    |(refine⟨nn - (k+1),?_,k+1,false,true,ta,tb,rfl,?_,?_,?_,?_,?_,?_,?_,?_,?_⟩<;>first|omega|(simp[*];done)|(intro d i c hd hne;have hd1:d≠1:=(by omega);exact Eq.trans (by simp[*]) (hfar.out d i c hd hne)))
    |(refine⟨nn - (k+1),?_,k+1,true,true,s,tb,rfl,?_,?_,?_,?_,?_,?_,?_,?_,?_⟩<;>first|omega|(simp[*];done)|(intro d i c hd hne;have hd1:d≠1:=(by omega);exact Eq.trans (by simp[*]) (hfar.out d i c hd hne)))
    |(refine⟨nn - (k+1),?_,k+1,false,true,ta,s,rfl,?_,?_,?_,?_,?_,?_,?_,?_,?_⟩<;>first|omega|(simp[*];done)|(intro d i c hd hne;have hd1:d≠1:=(by omega);exact Eq.trans (by simp[*]) (hfar.out d i c hd hne)))
    |(refine⟨nn - (k+1),?_,k+1,true,true,s,s,rfl,?_,?_,?_,?_,?_,?_,?_,?_,?_⟩<;>first|omega|(simp[*];done)|(intro d i c hd hne;have hd1:d≠1:=(by omega);exact Eq.trans (by simp[*]) (hfar.out d i c hd hne)))
  ·repeat' (first|(refine ZN ?_)|(refine Z2 ?_ ?_)|(intro h h';try simp[*,-h] at h'))
   all_goals first
    |(refine⟨nn - (k+1),?_,k+1,true,false,ta,tb,rfl,?_,?_,?_,?_,?_,?_,?_,?_,?_⟩<;>first|omega|(simp[*];done)|(intro d i c hd hne;have hd1:d≠1:=(by omega);exact Eq.trans (by simp[*]) (hfar.out d i c hd hne)))
    |(refine⟨nn - (k+1),?_,k+1,true,false,s,tb,rfl,?_,?_,?_,?_,?_,?_,?_,?_,?_⟩<;>first|omega|(simp[*];done)|(intro d i c hd hne;have hd1:d≠1:=(by omega);exact Eq.trans (by simp[*]) (hfar.out d i c hd hne)))
    |(refine⟨nn - (k+1),?_,k+1,true,true,ta,s,rfl,?_,?_,?_,?_,?_,?_,?_,?_,?_⟩<;>first|omega|(simp[*];done)|(intro d i c hd hne;have hd1:d≠1:=(by omega);exact Eq.trans (by simp[*]) (hfar.out d i c hd hne)))
    |(refine⟨nn - (k+1),?_,k+1,true,true,s,s,rfl,?_,?_,?_,?_,?_,?_,?_,?_,?_⟩<;>first|omega|(simp[*];done)|(intro d i c hd hne;have hd1:d≠1:=(by omega);exact Eq.trans (by simp[*]) (hfar.out d i c hd hne)))
  ·repeat' (first|(refine ZN ?_)|(refine Z2 ?_ ?_)|(intro h h';try simp[*,-h] at h'))
   all_goals first
    |(refine⟨nn - (k+1),?_,k+1,true,true,ta,tb,rfl,?_,?_,?_,?_,?_,?_,?_,?_,?_⟩<;>first|omega|(simp[*];done)|(intro d i c hd hne;have hd1:d≠1:=(by omega);exact Eq.trans (by simp[*]) (hfar.out d i c hd hne)))
    |(refine⟨nn - (k+1),?_,k+1,true,true,s,tb,rfl,?_,?_,?_,?_,?_,?_,?_,?_,?_⟩<;>first|omega|(simp[*];done)|(intro d i c hd hne;have hd1:d≠1:=(by omega);exact Eq.trans (by simp[*]) (hfar.out d i c hd hne)))
    |(refine⟨nn - (k+1),?_,k+1,true,true,ta,s,rfl,?_,?_,?_,?_,?_,?_,?_,?_,?_⟩<;>first|omega|(simp[*];done)|(intro d i c hd hne;have hd1:d≠1:=(by omega);exact Eq.trans (by simp[*]) (hfar.out d i c hd hne)))
    |(refine⟨nn - (k+1),?_,k+1,true,true,s,s,rfl,?_,?_,?_,?_,?_,?_,?_,?_,?_⟩<;>first|omega|(simp[*];done)|(intro d i c hd hne;have hd1:d≠1:=(by omega);exact Eq.trans (by simp[*]) (hfar.out d i c hd hne)))
 ·obtain rfl:k=nn:=by omega
  cases x<;>cases y
  ·repeat' (first|(refine ZN ?_)|(refine Z2 ?_ ?_)|(intro h h';try simp[*,-h] at h'))
   all_goals exact⟨_,ta,tb,rfl,by simp[*],(by intro d i c hd hne;have hd1:d≠1:=(by omega);exact Eq.trans (by simp[*]) (hfar.out d i c hd hne))⟩
  ·repeat' (first|(refine ZN ?_)|(refine Z2 ?_ ?_)|(intro h h';try simp[*,-h] at h'))
   all_goals exact⟨_,ta,tb,rfl,by simp[*],(by intro d i c hd hne;have hd1:d≠1:=(by omega);exact Eq.trans (by simp[*]) (hfar.out d i c hd hne))⟩
  ·repeat' (first|(refine ZN ?_)|(refine Z2 ?_ ?_)|(intro h h';try simp[*,-h] at h'))
   all_goals exact⟨_,ta,tb,rfl,by simp[*],(by intro d i c hd hne;have hd1:d≠1:=(by omega);exact Eq.trans (by simp[*]) (hfar.out d i c hd hne))⟩
  ·repeat' (first|(refine ZN ?_)|(refine Z2 ?_ ?_)|(intro h h';try simp[*,-h] at h'))
   all_goals exact⟨_,ta,tb,rfl,by simp[*],(by intro d i c hd hne;have hd1:d≠1:=(by omega);exact Eq.trans (by simp[*]) (hfar.out d i c hd hne))⟩
end
end Go.Proofs.YtpedpkegmalgmaaGreatDoor
