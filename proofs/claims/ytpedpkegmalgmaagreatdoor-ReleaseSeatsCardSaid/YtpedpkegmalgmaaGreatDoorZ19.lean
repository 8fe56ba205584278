/- A part of the proof: Oo, Ub, Uc, Ya, Pa, Pb. -/
import Derived.Test.YtpedpkegmalgmaaGreatDoorZ18
import Derived.Test.YtpedpkegmalgmaaGreatDoorZ14
import Derived.Test.YtpedpkegmalgmaaGreatDoorZ00
import Derived.Test.YtpedpkegmalgmaaGreatDoorZ05
import Derived.Lib.Hide
set_option linter.unusedSimpArgs false
set_option linter.unusedVariables false
set_option maxRecDepth 200000
set_option maxHeartbeats 8000000
namespace Go.Proofs.YtpedpkegmalgmaaGreatDoor
section
open Go Go.Ab
theorem hb_get {P:Program}{E:Cfg}{C:Orc}{k d f:Nat}{args:List AV}{hp:Hp}{R:AV→Hp→Prop}(h:HB P E C k d f args hp R (fun _ _=>False)): ∃v hp',C.hpc k d f args hp=some (v,hp')∧R v hp':=by
 rcases h with h|⟨_,_,_,_,h⟩
 ·exact h
 ·exact h.elim
attribute [-simp] Prog.bind getCs putCs
attribute [local simp ↓] run_bind
attribute [local simp ↓] runF_bind
attribute [local simp] run_getCsN runF_getCsN runF_putCsN facetsC facetsW facetsH putCs_one run_putCsN
theorem accept_w {X:Orc}(F:F7 X)(p0 p1 p2 p3 y0 y1 y2 y3 k1 k2 k3 k4 d0 d1 d2 d3 e0 e1 e2 e3 t m0 m1 m2 m3 fu n1 f0 f1 f2 f3:Int)(g1 g2 g3 g4:ByteArray)(P1 P2 PS IS:List (List AV))(L1 L2:List Sg)(l:List ByteArray)(Bs:List Q.D4)(need fuel:Int)(hB:Bs.length≤1000000)(ri:Bool)(hri:(lim Tryz.prog E7 X).dat 41 [.agg [iv t,uv m0,uv m1,uv m2,uv m3,.sl false 1 PS,.sl false 4 IS,iv fu]]=some [bv ri])(hIS: ∀r∈IS,∃a b c d:Int,r=[uv a,uv b,uv c,uv d])(hl:l.length≤1000000)(hz: ∀x∈l,x.size≤1000000)(hr:Q.U f0∧Q.U f1∧Q.U f2∧Q.U f3)(dd:Q.D4)(er:Int)(h6:(lim Tryz.prog E7 X).dat 6 [.agg [uv p0,uv p1,uv p2,uv p3,uv y0,uv y1,uv y2,uv y3,iv k1,.sl false 1 P1,tv g1,iv k2,uv d0,uv d1,uv d2,uv d3,tv g2,iv k3,.sl false 1 P2,tv g3,iv k4,uv e0,uv e1,uv e2,uv e3,tv g4,iv t,uv m0,uv m1,uv m2,uv m3,.sl false 1 PS,.sl false 4 IS,iv fu,.sl false 7 (rowSg L1),iv n1,uv f0,uv f1,uv f2,uv f3,.sl false 7 (rowSg L2)]]=some [.agg dd.row,iv er])(s1 s2:Prop)(hs:s1∨s2)(hh1: ∀m:Q.D4,∃v,(lim Tryz.prog E7 X).dat 43 [.agg [.sl false 4 (rowG Bs),iv need],.agg m.row,.sl false 7 (rowSg L1)]=some [bv v]∧(s1→v=false))(hh2: ∀m:Q.D4,∃v,(lim Tryz.prog E7 X).dat 43 [.agg [.sl false 4 (rowG Bs),iv need],.agg m.row,.sl false 7 (rowSg L2)]=some [bv v]∧(s2→v=false)): ∃rs,(lim Tryz.prog E7 X).dat 10 [.agg [uv p0,uv p1,uv p2,uv p3,uv y0,uv y1,uv y2,uv y3,iv k1,.sl false 1 P1,tv g1,iv k2,uv d0,uv d1,uv d2,uv d3,tv g2,iv k3,.sl false 1 P2,tv g3,iv k4,uv e0,uv e1,uv e2,uv e3,tv g4,iv t,uv m0,uv m1,uv m2,uv m3,.sl false 1 PS,.sl false 4 IS,iv fu,.sl false 7 (rowSg L1),iv n1,uv f0,uv f1,uv f2,uv f3,.sl false 7 (rowSg L2)],.agg [.sl false 1 (rowS l)],.agg [.sl false 4 (rowG Bs),iv need],iv fuel]=some rs∧ ∃e:Int,rs=[iv e]∧e≠0:=by
 refine fnR (P:=Tryz.prog) (E:=E7) (X:=X) (R:=fun rs=> ∃e:Int,rs=[iv e]∧e≠0) Tryz.func10 (F.hX _ _ rfl) rfl bodyOk_10 rfl rtys_10 rvs_10 ?_
 have hform:=Lib.hid (show∀(ta tb:ByteArray) (d:Nat) (hp1:Hp),hp1 ⟨0,19,0⟩= .box 1 [uv p0,uv p1,uv p2,uv p3,uv y0,uv y1,uv y2,uv y3,iv k1,.sl false 1 P1,tv g1,iv k2,uv d0,uv d1,uv d2,uv d3,tv g2,iv k3,.sl false 1 P2,tv g3,iv k4,uv e0,uv e1,uv e2,uv e3,tv g4,iv t,uv m0,uv m1,uv m2,uv m3,.sl false 1 PS,.sl false 4 IS,iv fu,.sl false 7 (rowSg L1),iv n1,uv f0,uv f1,uv f2,uv f3,.sl false 7 (rowSg L2),.sl false 1 (rowS l),.sl false 4 (rowG Bs),iv need,iv fuel,tv ta,tv tb] false→HB Tryz.prog E7 (lim Tryz.prog E7 X) 0 d 19 [.ptr ⟨0,19,0⟩ 1 0] hp1 (fun u hp2=> ∃e:Int,u=iv e∧Kept 0 hp1 hp2) (fun _ _=>False) from fun ta tb d hp1 h=>form_w F p0 p1 p2 p3 y0 y1 y2 y3 k1 k2 k3 k4 d0 d1 d2 d3 e0 e1 e2 e3 t m0 m1 m2 m3 fu n1 f0 f1 f2 f3 g1 g2 g3 g4 P1 P2 PS IS L1 L2 l Bs need fuel ta tb hB ri hri hIS h)
 have hkept:=Lib.hid (show∀(ta tb:ByteArray) (d:Nat) (hp1:Hp),hp1 ⟨0,19,0⟩= .box 1 [uv p0,uv p1,uv p2,uv p3,uv y0,uv y1,uv y2,uv y3,iv k1,.sl false 1 P1,tv g1,iv k2,uv d0,uv d1,uv d2,uv d3,tv g2,iv k3,.sl false 1 P2,tv g3,iv k4,uv e0,uv e1,uv e2,uv e3,tv g4,iv t,uv m0,uv m1,uv m2,uv m3,.sl false 1 PS,.sl false 4 IS,iv fu,.sl false 7 (rowSg L1),iv n1,uv f0,uv f1,uv f2,uv f3,.sl false 7 (rowSg L2),.sl false 1 (rowS l),.sl false 4 (rowG Bs),iv need,iv fuel,tv ta,tv tb] false→HB Tryz.prog E7 (lim Tryz.prog E7 X) 0 d 20 [.ptr ⟨0,19,0⟩ 1 0] hp1 (fun u hp2=> ∃e:Int,u=iv e∧(e=0→0≤n1∧n1≤l.length)∧Kept 0 hp1 hp2) (fun _ _=>False) from fun ta tb d hp1 h=>kept_w F p0 p1 p2 p3 y0 y1 y2 y3 k1 k2 k3 k4 d0 d1 d2 d3 e0 e1 e2 e3 t m0 m1 m2 m3 fu n1 f0 f1 f2 f3 g1 g2 g3 g4 P1 P2 PS IS L1 L2 l Bs need fuel ta tb hl hz h)
 have hheads:=Lib.hid (show∀(ta tb:ByteArray) (d:Nat) (hp1:Hp),hp1 ⟨0,19,0⟩= .box 1 [uv p0,uv p1,uv p2,uv p3,uv y0,uv y1,uv y2,uv y3,iv k1,.sl false 1 P1,tv g1,iv k2,uv d0,uv d1,uv d2,uv d3,tv g2,iv k3,.sl false 1 P2,tv g3,iv k4,uv e0,uv e1,uv e2,uv e3,tv g4,iv t,uv m0,uv m1,uv m2,uv m3,.sl false 1 PS,.sl false 4 IS,iv fu,.sl false 7 (rowSg L1),iv n1,uv f0,uv f1,uv f2,uv f3,.sl false 7 (rowSg L2),.sl false 1 (rowS l),.sl false 4 (rowG Bs),iv need,iv fuel,tv ta,tv tb] false→hp1 ⟨0,9,0⟩= .box 1 [.ptr ⟨0,19,0⟩ 1 0] false→hp1 ⟨0,4,0⟩= .box 1 [uv p0,uv p1,uv p2,uv p3,uv y0,uv y1,uv y2,uv y3,iv k1,.sl false 1 P1,tv g1,iv k2,uv d0,uv d1,uv d2,uv d3,tv g2,iv k3,.sl false 1 P2,tv g3,iv k4,uv e0,uv e1,uv e2,uv e3,tv g4,iv t,uv m0,uv m1,uv m2,uv m3,.sl false 1 PS,.sl false 4 IS,iv fu,.sl false 7 (rowSg L1),iv n1,uv f0,uv f1,uv f2,uv f3,.sl false 7 (rowSg L2)] false→HB Tryz.prog E7 (lim Tryz.prog E7 X) 0 d 21 [.ptr ⟨0,9,0⟩ 1 0,.ptr ⟨0,4,0⟩ 1 0] hp1 (fun u hp2=> ∃e:Int,u=iv e∧(s2→e≠0)∧Kept 0 hp1 hp2) (fun _ _=>False) from fun ta tb d hp1 h h9 h4=>heads_w F p0 p1 p2 p3 y0 y1 y2 y3 k1 k2 k3 k4 d0 d1 d2 d3 e0 e1 e2 e3 t m0 m1 m2 m3 fu n1 f0 f1 f2 f3 g1 g2 g3 g4 P1 P2 PS IS L1 L2 l Bs need fuel ta tb hr s2 hh2 h h9 h4)
 have hfound:=Lib.hid (show∀(ta tb:ByteArray) (d:Nat) (hp1:Hp),hp1 ⟨0,19,0⟩= .box 1 [uv p0,uv p1,uv p2,uv p3,uv y0,uv y1,uv y2,uv y3,iv k1,.sl false 1 P1,tv g1,iv k2,uv d0,uv d1,uv d2,uv d3,tv g2,iv k3,.sl false 1 P2,tv g3,iv k4,uv e0,uv e1,uv e2,uv e3,tv g4,iv t,uv m0,uv m1,uv m2,uv m3,.sl false 1 PS,.sl false 4 IS,iv fu,.sl false 7 (rowSg L1),iv n1,uv f0,uv f1,uv f2,uv f3,.sl false 7 (rowSg L2),.sl false 1 (rowS l),.sl false 4 (rowG Bs),iv need,iv fuel,tv ta,tv tb] false→(0≤n1∧n1≤l.length)→HB Tryz.prog E7 (lim Tryz.prog E7 X) 0 d 24 [.ptr ⟨0,19,0⟩ 1 0] hp1 (fun u hp2=> ∃(e:Int) (tc td:ByteArray),u=iv e∧hp2 ⟨0,19,0⟩= .box 1 [uv p0,uv p1,uv p2,uv p3,uv y0,uv y1,uv y2,uv y3,iv k1,.sl false 1 P1,tv g1,iv k2,uv d0,uv d1,uv d2,uv d3,tv g2,iv k3,.sl false 1 P2,tv g3,iv k4,uv e0,uv e1,uv e2,uv e3,tv g4,iv t,uv m0,uv m1,uv m2,uv m3,.sl false 1 PS,.sl false 4 IS,iv fu,.sl false 7 (rowSg L1),iv n1,uv f0,uv f1,uv f2,uv f3,.sl false 7 (rowSg L2),.sl false 1 (rowS l),.sl false 4 (rowG Bs),iv need,iv fuel,tv tc,tv td] false∧ ∀d i c,d≤0→(⟨d,i,c⟩:Nm)≠⟨0,19,0⟩→hp2 ⟨d,i,c⟩=hp1 ⟨d,i,c⟩) (fun _ _=>False) from fun ta tb d hp1 h hn=>found_w F p0 p1 p2 p3 y0 y1 y2 y3 k1 k2 k3 k4 d0 d1 d2 d3 e0 e1 e2 e3 t m0 m1 m2 m3 fu n1 f0 f1 f2 f3 g1 g2 g3 g4 P1 P2 PS IS L1 L2 l Bs need fuel ta tb hl hz hn.1 hn.2 h)
 have hlinks:=Lib.hid (show∀(ta tb:ByteArray) (d:Nat) (hp1:Hp),hp1 ⟨0,19,0⟩= .box 1 [uv p0,uv p1,uv p2,uv p3,uv y0,uv y1,uv y2,uv y3,iv k1,.sl false 1 P1,tv g1,iv k2,uv d0,uv d1,uv d2,uv d3,tv g2,iv k3,.sl false 1 P2,tv g3,iv k4,uv e0,uv e1,uv e2,uv e3,tv g4,iv t,uv m0,uv m1,uv m2,uv m3,.sl false 1 PS,.sl false 4 IS,iv fu,.sl false 7 (rowSg L1),iv n1,uv f0,uv f1,uv f2,uv f3,.sl false 7 (rowSg L2),.sl false 1 (rowS l),.sl false 4 (rowG Bs),iv need,iv fuel,tv ta,tv tb] false→hp1 ⟨0,9,0⟩= .box 1 [.ptr ⟨0,19,0⟩ 1 0] false→hp1 ⟨0,4,0⟩= .box 1 [uv p0,uv p1,uv p2,uv p3,uv y0,uv y1,uv y2,uv y3,iv k1,.sl false 1 P1,tv g1,iv k2,uv d0,uv d1,uv d2,uv d3,tv g2,iv k3,.sl false 1 P2,tv g3,iv k4,uv e0,uv e1,uv e2,uv e3,tv g4,iv t,uv m0,uv m1,uv m2,uv m3,.sl false 1 PS,.sl false 4 IS,iv fu,.sl false 7 (rowSg L1),iv n1,uv f0,uv f1,uv f2,uv f3,.sl false 7 (rowSg L2)] false→HB Tryz.prog E7 (lim Tryz.prog E7 X) 0 d 25 [.ptr ⟨0,4,0⟩ 1 0,.ptr ⟨0,9,0⟩ 1 0] hp1 (fun u hp2=> ∃e:Int,u=iv e∧(s1→e≠0)∧Kept 0 hp1 hp2) (fun _ _=>False) from fun ta tb d hp1 h h9 h4=>links_w F p0 p1 p2 p3 y0 y1 y2 y3 k1 k2 k3 k4 d0 d1 d2 d3 e0 e1 e2 e3 t m0 m1 m2 m3 fu n1 f0 f1 f2 f3 g1 g2 g3 g4 P1 P2 PS IS L1 L2 l Bs need fuel ta tb dd er h6 s1 hh1 h h9 h4)
 clear hri hIS hr h6 hh1 hh2 hz
 have hsK:=Lib.hid hs
 clear hs
 generalize rowSg L1=RS1 at*
 generalize rowSg L2=RS2 at*
 generalize rowS l=RS at*
 generalize rowG Bs=RB at*
 generalize l.length=ln at*
 repeat' (first|(refine ZN ?_)|(refine Z2 ?_ ?_)|(intro h h';try simp[*,-h] at h'))
 refine W_loopS (n:=6) (fun s0 m q=> ∃(k:Nat) (ta tb:ByteArray),m=6 - k∧k≤6∧q.fr 33=iv k∧q.fr 32=s0.fr 32∧q.fr 31=s0.fr 31∧q.hp ⟨0,19,0⟩= .box 1 [uv p0,uv p1,uv p2,uv p3,uv y0,uv y1,uv y2,uv y3,iv k1,.sl false 1 P1,tv g1,iv k2,uv d0,uv d1,uv d2,uv d3,tv g2,iv k3,.sl false 1 P2,tv g3,iv k4,uv e0,uv e1,uv e2,uv e3,tv g4,iv t,uv m0,uv m1,uv m2,uv m3,.sl false 1 PS,.sl false 4 IS,iv fu,.sl false 7 RS1,iv n1,uv f0,uv f1,uv f2,uv f3,.sl false 7 RS2,.sl false 1 RS,.sl false 4 RB,iv need,iv fuel,tv ta,tv tb] false∧q.hp ⟨0,9,0⟩=s0.hp ⟨0,9,0⟩∧q.hp ⟨0,4,0⟩=s0.hp ⟨0,4,0⟩∧q.hp ⟨0,30,0⟩=s0.hp ⟨0,30,0⟩∧(2≤k→0≤n1∧n1≤ln)∧(3≤k→ ¬s2)∧(5≤k→ ¬s1)) ⟨0,⟨⟨[]⟩⟩,⟨⟨[]⟩⟩,by simp,by omega,by simp,by simp,by simp,by simp,by simp,by simp,by simp,by omega,by omega,by omega⟩ ?_
 rintro m ⟨fr,hp⟩ ⟨k,ta,tb,rfl,hk,hs33,hs32,hs31,b19,b9,b4,b30,hq1,hq2,hq3⟩
 simp at hs33 hs32 hs31 b9 b4 b30
 simp only at b19
 replace hq1:=Lib.hid hq1
 replace hq2:=Lib.hid hq2
 replace hq3:=Lib.hid hq3
 by_cases h5:5≤k
 ·rcases hsK.out with h|h
  ·exact absurd h (hq3.out h5)
  ·exact absurd h (hq2.out (by omega))
 obtain rfl|rfl|rfl|rfl|rfl:k=0∨k=1∨k=2∨k=3∨k=4:=by omega
 ·clear h5
  simp only[Int.natCast_zero,Int.natCast_one,Int.ofNat_zero,Int.cast_ofNat_Int] at hs33
  obtain⟨u,hp2,hc,e,hu,hk2⟩:=hb_get (hform.out ta tb 38 hp b19)
  subst hu
  have c19:=(hk2 0 19 0 (Nat.le_refl 0)).trans b19
  have c9:=(hk2 0 9 0 (Nat.le_refl 0)).trans b9
  have c4:=(hk2 0 4 0 (Nat.le_refl 0)).trans b4
  have c30:=(hk2 0 30 0 (Nat.le_refl 0)).trans b30
  clear hk2
  by_cases he:e=0
  ·subst he
   repeat' (first|(refine ZN ?_)|(refine Z2 ?_ ?_)|(intro h h';try simp[*,-h] at h'))
   all_goals exact⟨6 - 1,by omega,1,ta,tb,rfl,by omega,by simp[*],by simp[*],by simp[*],by simp[*],by simp[*],by simp[*],by simp[*],by omega,by omega,by omega⟩
  ·have hne:=Lib.hid he
   repeat' (first|(refine ZN ?_)|(refine Z2 ?_ ?_)|(intro h h';try simp[*,-h] at h'))
   all_goals exact⟨e,rfl,hne.out⟩
 ·clear h5
  simp only[Int.natCast_zero,Int.natCast_one,Int.ofNat_zero,Int.cast_ofNat_Int] at hs33
  obtain⟨u,hp2,hc,e,hu,hkk,hk2⟩:=hb_get (hkept.out ta tb 38 hp b19)
  subst hu
  replace hkk:=Lib.hid hkk
  have c19:=(hk2 0 19 0 (Nat.le_refl 0)).trans b19
  have c9:=(hk2 0 9 0 (Nat.le_refl 0)).trans b9
  have c4:=(hk2 0 4 0 (Nat.le_refl 0)).trans b4
  have c30:=(hk2 0 30 0 (Nat.le_refl 0)).trans b30
  clear hk2
  by_cases he:e=0
  ·subst he
   repeat' (first|(refine ZN ?_)|(refine Z2 ?_ ?_)|(intro h h';try simp[*,-h] at h'))
   all_goals exact⟨6 - 2,by omega,2,ta,tb,rfl,by omega,by simp[*],by simp[*],by simp[*],by simp[*],by simp[*],by simp[*],by simp[*],fun _=>hkk.out rfl,by omega,by omega⟩
  ·have hne:=Lib.hid he
   repeat' (first|(refine ZN ?_)|(refine Z2 ?_ ?_)|(intro h h';try simp[*,-h] at h'))
   all_goals exact⟨e,rfl,hne.out⟩
 ·clear h5
  simp only[Int.natCast_zero,Int.natCast_one,Int.ofNat_zero,Int.cast_ofNat_Int] at hs33
  obtain⟨u,hp2,hc,e,hu,hkk,hk2⟩:=hb_get (hheads.out ta tb 38 hp b19 b9 b4)
  subst hu
  replace hkk:=Lib.hid hkk
  have c19:=(hk2 0 19 0 (Nat.le_refl 0)).trans b19
  have c9:=(hk2 0 9 0 (Nat.le_refl 0)).trans b9
  have c4:=(hk2 0 4 0 (Nat.le_refl 0)).trans b4
  have c30:=(hk2 0 30 0 (Nat.le_refl 0)).trans b30
  clear hk2
  by_cases he:e=0
  ·subst he
   repeat' (first|(refine ZN ?_)|(refine Z2 ?_ ?_)|(intro h h';try simp[*,-h] at h'))
   all_goals exact⟨6 - 3,by omega,3,ta,tb,rfl,by omega,by simp[*],by simp[*],by simp[*],by simp[*],by simp[*],by simp[*],by simp[*],fun _=>hq1.out (by omega),fun _ h=>hkk.out h rfl,by omega⟩
  ·have hne:=Lib.hid he
   repeat' (first|(refine ZN ?_)|(refine Z2 ?_ ?_)|(intro h h';try simp[*,-h] at h'))
   all_goals exact⟨e,rfl,hne.out⟩
 ·clear h5
  simp only[Int.natCast_zero,Int.natCast_one,Int.ofNat_zero,Int.cast_ofNat_Int] at hs33
  obtain⟨u,hp2,hc,e,tc,td,hu,c19,hk2⟩:=hb_get (hfound.out ta tb 38 hp b19 (hq1.out (by omega)))
  subst hu
  have c9:=(hk2 0 9 0 (Nat.le_refl 0) (by decide)).trans b9
  have c4:=(hk2 0 4 0 (Nat.le_refl 0) (by decide)).trans b4
  have c30:=(hk2 0 30 0 (Nat.le_refl 0) (by decide)).trans b30
  clear hk2
  by_cases he:e=0
  ·subst he
   repeat' (first|(refine ZN ?_)|(refine Z2 ?_ ?_)|(intro h h';try simp[*,-h] at h'))
   all_goals exact⟨6 - 4,by omega,4,tc,td,rfl,by omega,by simp[*],by simp[*],by simp[*],by simp[*],by simp[*],by simp[*],by simp[*],fun _=>hq1.out (by omega),fun _=>hq2.out (by omega),by omega⟩
  ·have hne:=Lib.hid he
   repeat' (first|(refine ZN ?_)|(refine Z2 ?_ ?_)|(intro h h';try simp[*,-h] at h'))
   all_goals exact⟨e,rfl,hne.out⟩
 ·clear h5
  simp only[Int.natCast_zero,Int.natCast_one,Int.ofNat_zero,Int.cast_ofNat_Int] at hs33
  obtain⟨u,hp2,hc,e,hu,hkk,hk2⟩:=hb_get (hlinks.out ta tb 38 hp b19 b9 b4)
  subst hu
  replace hkk:=Lib.hid hkk
  have c19:=(hk2 0 19 0 (Nat.le_refl 0)).trans b19
  have c9:=(hk2 0 9 0 (Nat.le_refl 0)).trans b9
  have c4:=(hk2 0 4 0 (Nat.le_refl 0)).trans b4
  have c30:=(hk2 0 30 0 (Nat.le_refl 0)).trans b30
  clear hk2
  by_cases he:e=0
  ·subst he
   repeat' (first|(refine ZN ?_)|(refine Z2 ?_ ?_)|(intro h h';try simp[*,-h] at h'))
   all_goals exact⟨6 - 5,by omega,5,ta,tb,rfl,by omega,by simp[*],by simp[*],by simp[*],by simp[*],by simp[*],by simp[*],by simp[*],fun _=>hq1.out (by omega),fun _=>hq2.out (by omega),fun _ h=>hkk.out h rfl⟩
  ·have hne:=Lib.hid he
   repeat' (first|(refine ZN ?_)|(refine Z2 ?_ ?_)|(intro h h';try simp[*,-h] at h'))
   all_goals exact⟨e,rfl,hne.out⟩
end
section
open Go Go.Ab
def sd0 :AV:= .agg [uv 2932823035,uv 3379581963,uv 260609817,uv 3905672543]
def sd1 :AV:= .agg [uv 235576429,uv 3379581963,uv 260609817,uv 3905672543]
def key0 :List AV:=[uv 720850131,uv 1907289946,uv 2271014956,uv 1393973132]
def key1 :List AV:=[uv 1801958269,uv 1907289946,uv 2271014956,uv 1393973132]
def sigA :List (List AV):=[[uv 3720311765,uv 3355430862,uv 106809698,uv 3646503560],[uv 1242540699,uv 68341604,uv 2794308440,uv 1340293046],[uv 3396309139,uv 68341604,uv 2794308440,uv 1340293046],[uv 628716992,uv 3951660276,uv 3930972986,uv 3908968203],[uv 2104469472,uv 3009800320,uv 1942577991,uv 332914921],[uv 13746531,uv 3355430862,uv 106809698,uv 3646503560],[uv 3619883078,uv 845841939,uv 239381800,uv 3640732516],[uv 1787188574,uv 947287506,uv 3950757117,uv 3350304957],[uv 422536421,uv 1579329498,uv 840828413,uv 3714164508],[uv 3372904979,uv 3009800320,uv 1942577991,uv 332914921],[uv 3409616163,uv 68341604,uv 2794308440,uv 1340293046],[uv 3220657983,uv 1969232946,uv 3493842354,uv 453650536],[uv 630895607,uv 68341604,uv 2794308440,uv 1340293046],[uv 2159652269,uv 1464014828,uv 645815143,uv 1615191184],[uv 2367757399,uv 2169802557,uv 2002924848,uv 616227216],[uv 463227923,uv 4157669793,uv 3933790160,uv 2244688493],[uv 1981703245,uv 1969232946,uv 3493842354,uv 453650536],[uv 575555318,uv 3009800320,uv 1942577991,uv 332914921],[uv 1360988812,uv 3951660276,uv 3930972986,uv 3908968203],[uv 931977259,uv 1464014828,uv 645815143,uv 1615191184],[uv 2493713073,uv 947287506,uv 3950757117,uv 3350304957],[uv 765614253,uv 947287506,uv 3950757117,uv 3350304957],[uv 3283780422,uv 947287506,uv 3950757117,uv 3350304957],[uv 1702642518,uv 3037547900,uv 4091958367,uv 1904584872],[uv 3121301728,uv 3816230895,uv 1872614766,uv 1556485170],[uv 2759823044,uv 1579329498,uv 840828413,uv 3714164508],[uv 3902007696,uv 3009800320,uv 1942577991,uv 332914921],[uv 3954020341,uv 2169802557,uv 2002924848,uv 616227216],[uv 2329307822,uv 68341604,uv 2794308440,uv 1340293046],[uv 1433179484,uv 1464014828,uv 645815143,uv 1615191184],[uv 3265044935,uv 3009800320,uv 1942577991,uv 332914921],[uv 2416785624,uv 845841939,uv 239381800,uv 3640732516],[uv 2445399947,uv 1464014828,uv 645815143,uv 1615191184],[uv 1858307957,uv 1464014828,uv 645815143,uv 1615191184],[uv 3189900792,uv 3951660276,uv 3930972986,uv 3908968203]]
def sigB :List (List AV):=[[uv 3410643344,uv 2169802557,uv 2002924848,uv 616227216],[uv 2128080582,uv 3037547900,uv 4091958367,uv 1904584872],[uv 2666170835,uv 3037547900,uv 4091958367,uv 1904584872],[uv 699948871,uv 1969232946,uv 3493842354,uv 453650536],[uv 2533027269,uv 4157669793,uv 3933790160,uv 2244688493],[uv 1881971536,uv 2169802557,uv 2002924848,uv 616227216],[uv 473338993,uv 1464014828,uv 645815143,uv 1615191184],[uv 3124658446,uv 3355430862,uv 106809698,uv 3646503560],[uv 1857479322,uv 613828584,uv 1734600712,uv 2558120244],[uv 3086184218,uv 1579329498,uv 840828413,uv 3714164508],[uv 943287343,uv 613828584,uv 1734600712,uv 2558120244],[uv 1520054320,uv 1579329498,uv 840828413,uv 3714164508],[uv 766662046,uv 526657288,uv 1096075028,uv 2854606790],[uv 1082495393,uv 3009800320,uv 1942577991,uv 332914921],[uv 3822968489,uv 68341604,uv 2794308440,uv 1340293046],[uv 3889595162,uv 1969232946,uv 3493842354,uv 453650536],[uv 2122195113,uv 845841939,uv 239381800,uv 3640732516],[uv 2875104462,uv 4157669793,uv 3933790160,uv 2244688493],[uv 1279810308,uv 947287506,uv 3950757117,uv 3350304957],[uv 2420192601,uv 2169802557,uv 2002924848,uv 616227216],[uv 3280946830,uv 3355430862,uv 106809698,uv 3646503560],[uv 2342597700,uv 947287506,uv 3950757117,uv 3350304957],[uv 691800418,uv 1464014828,uv 645815143,uv 1615191184],[uv 277453432,uv 1579329498,uv 840828413,uv 3714164508],[uv 2172724915,uv 526657288,uv 1096075028,uv 2854606790],[uv 4210385789,uv 3355430862,uv 106809698,uv 3646503560],[uv 2789410469,uv 1579329498,uv 840828413,uv 3714164508],[uv 723450018,uv 3037547900,uv 4091958367,uv 1904584872],[uv 3686239343,uv 947287506,uv 3950757117,uv 3350304957],[uv 1144651079,uv 947287506,uv 3950757117,uv 3350304957],[uv 3627995591,uv 4157669793,uv 3933790160,uv 2244688493],[uv 2929092185,uv 68341604,uv 2794308440,uv 1340293046],[uv 2184982965,uv 1969232946,uv 3493842354,uv 453650536],[uv 1785972253,uv 4157669793,uv 3933790160,uv 2244688493],[uv 2908070717,uv 3009800320,uv 1942577991,uv 332914921]]
def pubA :List AV:=[uv 3589047133,uv 3549922436,uv 2911926221,uv 98228837]
theorem pub0_x :(lim Tryz.prog EK XW).dat 77 [sd0]=some [.agg key0]:=lim_dat.2 ⟨80,by kernel_rfl⟩
theorem pub0_s :SemD Tryz.prog 77 [sd0] [.agg key0]:=(lim_ok mixed6 EK_law XW_ok).1 _ _ _ pub0_x
theorem pub1_x :(lim Tryz.prog EK XW).dat 77 [sd1]=some [.agg key1]:=lim_dat.2 ⟨80,by kernel_rfl⟩
theorem pub1_s :SemD Tryz.prog 77 [sd1] [.agg key1]:=(lim_ok mixed6 EK_law XW_ok).1 _ _ _ pub1_x
theorem sig0_x :(lim Tryz.prog EK XW).dat 66 [sd0,.agg lkA]=some [.vec 4 sigA]:=lim_dat.2 ⟨80,by kernel_rfl⟩
theorem sig0_s :SemD Tryz.prog 66 [sd0,.agg lkA] [.vec 4 sigA]:=(lim_ok mixed6 EK_law XW_ok).1 _ _ _ sig0_x
theorem sig1_x :(lim Tryz.prog EK XW).dat 66 [sd1,.agg hdA]=some [.vec 4 sigB]:=lim_dat.2 ⟨80,by kernel_rfl⟩
theorem sig1_s :SemD Tryz.prog 66 [sd1,.agg hdA] [.vec 4 sigB]:=(lim_ok mixed6 EK_law XW_ok).1 _ _ _ sig1_x
def XU :Orc:=orX (oneX 77 [sd0] [.agg key0]) (orX (oneX 77 [sd1] [.agg key1]) (orX (oneX 66 [sd0,.agg lkA] [.vec 4 sigA]) (orX (oneX 66 [sd1,.agg hdA] [.vec 4 sigB]) XD)))
theorem XU_ok :OrcOk Tryz.prog XU:=orX_ok (oneX_ok pub0_s) (orX_ok (oneX_ok pub1_s) (orX_ok (oneX_ok sig0_s) (orX_ok (oneX_ok sig1_s) XD_ok)))
theorem say0_x :(lim Tryz.prog EK XU).dat 30 a30=some [.agg saR]:=lim_dat.2 ⟨80,by kernel_rfl⟩
theorem say0_s :SemD Tryz.prog 30 a30 [.agg saR]:=(lim_ok mixed6 EK_law XU_ok).1 _ _ _ say0_x
theorem say1_x :(lim Tryz.prog EK XU).dat 31 a31=some [.agg sbR]:=lim_dat.2 ⟨80,by kernel_rfl⟩
theorem say1_s :SemD Tryz.prog 31 a31 [.agg sbR]:=(lim_ok mixed6 EK_law XU_ok).1 _ _ _ say1_x
def sgA :AV:= .agg [iv 0,.sl false 4 sigA,.sl false 4 [key1]]
def sgB :AV:= .agg [iv 1,.sl false 4 sigB,.sl false 4 [key0]]
theorem chk0_x :(lim Tryz.prog EK XW).dat 71 [.agg pubA,.agg lkA,sgA]=some [bv true]:=lim_dat.2 ⟨80,by kernel_rfl⟩
theorem chk0_s :SemD Tryz.prog 71 [.agg pubA,.agg lkA,sgA] [bv true]:=(lim_ok mixed6 EK_law XW_ok).1 _ _ _ chk0_x
theorem chk1_x :(lim Tryz.prog EK XW).dat 71 [.agg pubA,.agg hdA,sgB]=some [bv true]:=lim_dat.2 ⟨80,by kernel_rfl⟩
theorem chk1_s :SemD Tryz.prog 71 [.agg pubA,.agg hdA,sgB] [bv true]:=(lim_ok mixed6 EK_law XW_ok).1 _ _ _ chk1_x
end
end Go.Proofs.YtpedpkegmalgmaaGreatDoor
namespace Go.Ab.Sy
open Go Go.Ab
abbrev iz (n:Int):AV:= .sc (.int .i64 n)
abbrev uz (n:Int):AV:= .sc (.int .u32 n)
abbrev tz (s:ByteArray):AV:= .sc (.string s)
abbrev bz (b:Bool):AV:= .sc (.bool b)
@[ext] structure Tx where
 val:ByteArray
 le:val.size≤20000
deriving DecidableEq
instance:Coe Tx ByteArray:=⟨Tx.val⟩
abbrev tx0 :Tx:=⟨⟨#[]⟩,by decide⟩
structure Tok where
 kind:Int
 text:Tx
 num:Int
 at_:Int
def Tok.row (t:Tok):List AV:=[iz t.kind,tz t.text.1,uz t.num,iz t.at_]
inductive Ex where
 |mk (kind op num:Int) (name:Tx) (kids:List Ex)
namespace Ex
def kind :Ex→Int| .mk k _ _ _ _=>k
def op :Ex→Int| .mk _ o _ _ _=>o
def num :Ex→Int| .mk _ _ n _ _=>n
def name :Ex→Tx| .mk _ _ _ s _=>s
def kids :Ex→List Ex| .mk _ _ _ _ l=>l
end Ex
mutual
def Ex.row :Ex→List AV
 | .mk k o n s l=>[iz k,iz o,uz n,tz s.1,.sl false 5 (exRows l)]
def exRows :List Ex→List (List AV)
 |[]=>[]
 |e::l=>e.row::exRows l
end
mutual
def Ex.size :Ex→Nat
 | .mk _ _ _ _ l=>exSize l+1
def exSize :List Ex→Nat
 |[]=>0
 |e::l=>e.size+exSize l
end
@[simp] theorem exRows_nil :exRows []=[]:=by rw[exRows]
@[simp] theorem exRows_cons (e:Ex)(l:List Ex):exRows (e::l)=e.row::exRows l:=by rw[exRows]
theorem exRows_eq : ∀l,exRows l=l.map Ex.row
 |[]=>rfl
 |e::l=>by simp[exRows_eq l]
@[simp] theorem exRows_length (l:List Ex):(exRows l).length=l.length:=by simp[exRows_eq]
@[simp] theorem exRows_app (l m:List Ex):exRows (l++m)=exRows l++exRows m:=by simp[exRows_eq]
theorem Ex.row_eq (e:Ex):e.row=[iz e.kind,iz e.op,uz e.num,tz e.name.1,.sl false 5 (exRows e.kids)]:=by
 cases e;rw[Ex.row];rfl
@[simp] theorem exSize_nil :exSize []=0:=by rw[exSize]
@[simp] theorem exSize_cons (e:Ex)(l:List Ex):exSize (e::l)=e.size+exSize l:=by rw[exSize]
@[simp] theorem exSize_app : ∀l m:List Ex,exSize (l++m)=exSize l+exSize m
 |[],m=>by simp
 |e::l,m=>by simp[exSize_app l m,Nat.add_assoc]
theorem Ex.size_eq (e:Ex):e.size=exSize e.kids+1:=by cases e;rw[Ex.size];rfl
theorem Ex.size_pos (e:Ex):1≤e.size:=by rw[Ex.size_eq];omega
theorem exSize_len : ∀l:List Ex,l.length≤exSize l
 |[]=>by simp
 |e::l=>by have:=exSize_len l;have:=e.size_pos;simp;omega
inductive St where
 |mk (kind:Int) (name:Tx) (e:List Ex) (th el:List St)
namespace St
def kind :St→Int| .mk k _ _ _ _=>k
def name :St→Tx| .mk _ s _ _ _=>s
def e :St→List Ex| .mk _ _ e _ _=>e
def th :St→List St| .mk _ _ _ t _=>t
def el :St→List St| .mk _ _ _ _ t=>t
end St
mutual
def St.row :St→List AV
 | .mk k s e t f=>[iz k,tz s.1,.sl false 5 (exRows e),.sl false 5 (stRows t),.sl false 5 (stRows f)]
def stRows :List St→List (List AV)
 |[]=>[]
 |e::l=>e.row::stRows l
end
mutual
def St.size :St→Nat
 | .mk _ _ e t f=>exSize e+stSize t+stSize f+1
def stSize :List St→Nat
 |[]=>0
 |e::l=>e.size+stSize l
end
@[simp] theorem stRows_nil :stRows []=[]:=by rw[stRows]
@[simp] theorem stRows_cons (e:St)(l:List St):stRows (e::l)=e.row::stRows l:=by rw[stRows]
theorem stRows_eq : ∀l,stRows l=l.map St.row
 |[]=>rfl
 |e::l=>by simp[stRows_eq l]
@[simp] theorem stRows_length (l:List St):(stRows l).length=l.length:=by simp[stRows_eq]
@[simp] theorem stRows_app (l m:List St):stRows (l++m)=stRows l++stRows m:=by simp[stRows_eq]
theorem St.row_eq (s:St):s.row=[iz s.kind,tz s.name.1,.sl false 5 (exRows s.e),.sl false 5 (stRows s.th),.sl false 5 (stRows s.el)]:=by
 cases s;rw[St.row];rfl
@[simp] theorem stSize_nil :stSize []=0:=by rw[stSize]
@[simp] theorem stSize_cons (e:St)(l:List St):stSize (e::l)=e.size+stSize l:=by rw[stSize]
@[simp] theorem stSize_app : ∀l m:List St,stSize (l++m)=stSize l+stSize m
 |[],m=>by simp
 |e::l,m=>by simp[stSize_app l m,Nat.add_assoc]
theorem St.size_eq (s:St):s.size=exSize s.e+stSize s.th+stSize s.el+1:=by cases s;rw[St.size];rfl
theorem St.size_pos (e:St):1≤e.size:=by rw[St.size_eq];omega
theorem stSize_len : ∀l:List St,l.length≤stSize l
 |[]=>by simp
 |e::l=>by have:=stSize_len l;have:=e.size_pos;simp;omega
abbrev txRows (l:List Tx):List (List AV):=l.map fun s=>[tz s.1]
abbrev tbRows (l:List ByteArray):List (List AV):=l.map fun s=>[tz s]
structure Fu where
 name:Tx
 params:List Tx
 locals:List Tx
 word:Bool
 body:List St
def Fu.row (f:Fu):List AV:=[tz f.name.1,.sl false 1 (txRows f.params),.sl false 1 (txRows f.locals),bz f.word,.sl false 5 (stRows f.body)]
def Fu.size (f:Fu):Nat:=f.params.length+f.locals.length+stSize f.body+1
structure Pr where
 vars:List Tx
 arrays:List (Tx×Int)
 funcs:List Fu
def arRows (l:List (Tx×Int)):List (List AV):=l.map fun a=>[tz a.1.1,iz a.2]
def Pr.row (p:Pr):List AV:=[.sl false 1 (txRows p.vars),.sl false 2 (arRows p.arrays),.sl false 5 (p.funcs.map Fu.row)]
def fuSize :List Fu→Nat
 |[]=>0
 |f::l=>f.size+fuSize l
def Pr.size (p:Pr):Nat:=p.vars.length+p.arrays.length+fuSize p.funcs
@[simp] theorem fuSize_nil :fuSize []=0:=rfl
@[simp] theorem fuSize_cons (f:Fu)(l:List Fu):fuSize (f::l)=f.size+fuSize l:=rfl
@[simp] theorem fuSize_app : ∀l m:List Fu,fuSize (l++m)=fuSize l+fuSize m
 |[],m=>by simp
 |e::l,m=>by simp[fuSize_app l m,Nat.add_assoc]
theorem fuSize_len : ∀l:List Fu,l.length≤fuSize l
 |[]=>by simp
 |e::l=>by have:=fuSize_len l;simp[Fu.size];omega
namespace Cx
end Cx
namespace Cs
end Cs
end Go.Ab.Sy
namespace Go.Proofs.YtpedpkegmalgmaaGreatDoor
section
open Go Go.Ab Go.Ab.Sy
def wrongV (a:Int):Value:= .iface 217 (.agg ⟨[.int .i64 a]⟩)
structure Rd (T:List Tok)(e:Int)(q gx gy n:Nat)(hp:Hp):Prop where
 box:hp ⟨1,q,0⟩= .box gx [.own ⟨1,q,1⟩ gy T.length,iv n,iv e] false
 arr:hp ⟨1,q,1⟩= .arr gy 4 223 (T.map Tok.row) false
 len:T.length≤1048576
 le:n≤T.length
def Far (k q:Nat)(hp1 hp2:Hp):Prop:= ∀d i c,d≤k→(⟨d,i,c⟩:Nm)≠⟨1,q,0⟩→hp2 ⟨d,i,c⟩=hp1 ⟨d,i,c⟩
abbrev Wr (k q:Nat)(hp1:Hp)(v:Value)(hp2:Hp):Prop:=(∃a,v=wrongV a)∧Far k q hp1 hp2
def peekT (T:List Tok)(n:Nat):ByteArray:=match T[n]? with|some t=>if t.kind=3∨t.kind=4 then t.text.1 else⟨#[]⟩|none=>⟨#[]⟩
def kindT (T:List Tok)(n:Nat):Int:=match T[n]? with|some t=>t.kind|none=>0
attribute [simp] resultV lowerRes lowerV lowerAll
theorem lim_hpcBk {P:Program}{E:Cfg}{X:Orc}{f k k1 d:Nat}{fn:Func}{c:Code}{args:List AV}{hp:Hp}{rvs:List ResultVar}{R:AV→Hp→Prop}{PR:Value→Hp→Prop}(hk:k+1=k1)(hf:P.funcs[f]?=some fn)(hx:X.hpc k d f args hp=none)(hb:fn.body=some c)(hok:bodyOk fn=true)(hl:args.length=fn.params.size+fn.nfree)
  (hrv:fn.results.toList=rvs) (h:W P E k1 (lim P E X) c ⟨frame0 args,hp⟩ (EndB P k d rvs R PR)) (hi:E.inl f=false:=by first|rfl|simp) (hz:E.frz f=false:=by first|rfl|simp):
  (∃v hp',(lim P E X).hpc k d f args hp=some (v,hp')∧R v hp')∨ ∃n v hp',Pan P E (lim P E X) (.fn k f args hp) n v hp'∧PR v hp':=by
 subst hk
 exact lim_hpcB hf hx hb hok hl hrv h hi hz
theorem lim_hpcBZk {P:Program}{E:Cfg}{X:Orc}{f k k1 d:Nat}{fn:Func}{c:Code}{args:List AV}{hp:Hp}{rvs:List ResultVar}{ts:List TypeId}{R:AV→Hp→Prop}{PR:Value→Hp→Prop}(hk:k+1=k1)(hf:P.funcs[f]?=some fn)(hx:X.hpc k d f args hp=none)(hb:fn.body=some c)(hok:bodyOk fn=true)(hl:args.length=fn.params.size+fn.nfree)
  (hrv:fn.results.toList=rvs) (ht:rtys P f=ts) (h:W P E k1 (lim P E X) c ⟨frame0 args,hp⟩ (EndBZ P ts rvs R PR)) (hi:E.inl f=false:=by first|rfl|simp) (hz:E.frz f=true:=by first|rfl|simp):
  (∃v hp',(lim P E X).hpc k d f args hp=some (v,hp')∧R v hp')∨ ∃n v hp',Pan P E (lim P E X) (.fn k f args hp) n v hp'∧PR v hp':=by
 subst hk
 exact lim_hpcBZ hf hx hb hok hl hrv ht h hi hz
attribute [simp] resultV lowerRes lowerV lowerAll
@[simp] theorem Tok.row_mk (k:Int)(t:Tx)(n a:Int):Tok.row ⟨k,t,n,a⟩=[iz k,tz t.1,uz n,iz a]:=rfl
theorem T_none {T:List Tok}{n:Nat}(h: ¬n<T.length):T[n]?=none:=List.getElem?_eq_none (by omega)
@[simp] theorem lk_ne {d k i j c c':Nat}(h:d≠k):((⟨d,i,c⟩:Nm)=⟨k,j,c'⟩)=False:=by simp[h]
theorem peek {T:List Tok}{e:Int}{q n gx gy:Nat}(D:Nat)(hD:1≤D)(d:Nat)(hp1:Hp)(hr:Rd T e q gx gy n hp1):HB Tryz.prog E47 (Lm X46) D d 167 [.ptr ⟨1,q,0⟩ gx 0] hp1 (fun v hp2=>v=tv (peekT T n)∧Rd T e q gx gy n hp2∧Far D q hp1 hp2) (Wr D q hp1):=by
 obtain⟨k,rfl⟩: ∃k,D=k+1:=⟨D - 1,by omega⟩
 clear hD
 refine lim_hpcBk (k1:=k+2) (PR:=Wr (k+1) q hp1) rfl Tryz.func167 rfl rfl bodyOk_167 rfl rvs_167 ?_
 obtain⟨h1,h2,hlen,hle⟩:=hr
 by_cases hn:n<T.length
 ·have e1:(n:Int)<T.length:=by omega
  have e3:T[n]?=some T[n]:=List.getElem?_eq_getElem hn
  generalize hq:T[n]=t at*
  obtain⟨tk,tt,tn,ta⟩:=t
  by_cases k3:tk=3
  ·subst k3
   repeat' (first|(refine ZN ?_)|(refine Z2 ?_ ?_)|(intro h h';try simp[*,-h] at h'))
   all_goals refine⟨by simp[peekT,kindT,e3, *];done,⟨by simp[*],by simp[*],hlen,hle⟩,fun d i c hd hne=>by have hd2:d≠k+2:=(by omega);simp[hd2,hne]⟩
  ·by_cases k4:tk=4
   ·subst k4
    repeat' (first|(refine ZN ?_)|(refine Z2 ?_ ?_)|(intro h h';try simp[*,-h] at h'))
    all_goals refine⟨by simp[peekT,kindT,e3, *];done,⟨by simp[*],by simp[*],hlen,hle⟩,fun d i c hd hne=>by have hd2:d≠k+2:=(by omega);simp[hd2,hne]⟩
   ·have q3:(tk==3)=false:=by simpa using k3
    have q4:(tk==4)=false:=by simpa using k4
    repeat' (first|(refine ZN ?_)|(refine Z2 ?_ ?_)|(intro h h';try simp[*,-h] at h'))
    all_goals refine⟨by simp[peekT,kindT,e3, *];done,⟨by simp[*],by simp[*],hlen,hle⟩,fun d i c hd hne=>by have hd2:d≠k+2:=(by omega);simp[hd2,hne]⟩
 ·have e1: ¬(n:Int)<T.length:=by omega
  have e3:T[n]?=none:=T_none hn
  repeat' (first|(refine ZN ?_)|(refine Z2 ?_ ?_)|(intro h h';try simp[*,-h] at h'))
  all_goals refine⟨by simp[peekT,kindT,e3, *];done,⟨by simp[*],by simp[*],hlen,hle⟩,fun d i c hd hne=>by have hd2:d≠k+2:=(by omega);simp[hd2,hne]⟩
theorem kind {T:List Tok}{e:Int}{q n gx gy:Nat}(D:Nat)(hD:1≤D)(d:Nat)(hp1:Hp)(hr:Rd T e q gx gy n hp1):HB Tryz.prog E47 (Lm X46) D d 168 [.ptr ⟨1,q,0⟩ gx 0] hp1 (fun v hp2=>v=iv (kindT T n)∧Rd T e q gx gy n hp2∧Far D q hp1 hp2) (Wr D q hp1):=by
 obtain⟨k,rfl⟩: ∃k,D=k+1:=⟨D - 1,by omega⟩
 clear hD
 refine lim_hpcBk (k1:=k+2) (PR:=Wr (k+1) q hp1) rfl Tryz.func168 rfl rfl bodyOk_168 rfl rvs_168 ?_
 obtain⟨h1,h2,hlen,hle⟩:=hr
 by_cases hn:n<T.length
 ·have e1:(n:Int)<T.length:=by omega
  have e3:T[n]?=some T[n]:=List.getElem?_eq_getElem hn
  generalize hq:T[n]=t at*
  obtain⟨tk,tt,tn,ta⟩:=t
  repeat' (first|(refine ZN ?_)|(refine Z2 ?_ ?_)|(intro h h';try simp[*,-h] at h'))
  all_goals refine⟨by simp[peekT,kindT,e3, *];done,⟨by simp[*],by simp[*],hlen,hle⟩,fun d i c hd hne=>by have hd2:d≠k+2:=(by omega);simp[hd2,hne]⟩
 ·have e1: ¬(n:Int)<T.length:=by omega
  have e3:T[n]?=none:=T_none hn
  repeat' (first|(refine ZN ?_)|(refine Z2 ?_ ?_)|(intro h h';try simp[*,-h] at h'))
  all_goals refine⟨by simp[peekT,kindT,e3, *];done,⟨by simp[*],by simp[*],hlen,hle⟩,fun d i c hd hne=>by have hd2:d≠k+2:=(by omega);simp[hd2,hne]⟩
theorem fail {T:List Tok}{e:Int}{q n gx gy:Nat}(D:Nat)(hD:1≤D)(d:Nat)(hp1:Hp)(hr:Rd T e q gx gy n hp1):HB Tryz.prog E47 (Lm X46) D d 137 [.ptr ⟨1,q,0⟩ gx 0] hp1 (fun v hp2=>False) (Wr D q hp1):=by
 obtain⟨k,rfl⟩: ∃k,D=k+1:=⟨D - 1,by omega⟩
 clear hD
 refine lim_hpcBk (k1:=k+2) (PR:=Wr (k+1) q hp1) rfl Tryz.func137 rfl rfl bodyOk_137 rfl rvs_137 ?_
 obtain⟨h1,h2,hlen,hle⟩:=hr
 by_cases hn:n<T.length
 ·have e1:(n:Int)<T.length:=by omega
  have e3:T[n]?=some T[n]:=List.getElem?_eq_getElem hn
  generalize hq:T[n]=t at*
  obtain⟨tk,tt,tn,ta⟩:=t
  repeat' (first|(apply W_srdt (c:=13) (idx:=[0,1,2,3,4,5,6,7,8,9,10,11,12]);(kernel_rfl);(kernel_rfl);(simp only[List.map_cons,List.map_nil,Array.getD_eq_getD_getElem?,List.getElem?_toArray,List.getElem?_cons_zero,List.getElem?_cons_succ,Option.getD_some]);(repeat' (first|exact Free.nil|((with_reducible apply Free_cons);(exact Zc))));(exact rfl);exact Zc)|(refine Z1 ?_)|(refine Z2 ?_ ?_)|(intro h h';try simp[*,-h] at h'))
  all_goals exact⟨⟨_,rfl⟩,fun _ _ _ _ _=>rfl⟩
 ·have e1: ¬(n:Int)<T.length:=by omega
  have e3:T[n]?=none:=T_none hn
  repeat' (first|(refine ZN ?_)|(refine Z2 ?_ ?_)|(intro h h';try simp[*,-h] at h'))
  all_goals exact⟨⟨_,rfl⟩,fun _ _ _ _ _=>rfl⟩
theorem Far.trans {k k' q:Nat}{a b c:Hp}(h1:Far k q a b)(h2:Far k' q b c)(h:k≤k'):Far k q a c:=fun d i x hd hne=>(h2 d i x (by omega) hne).trans (h1 d i x hd hne)
theorem Far.own {D q:Nat}{a b:Hp}(h:Far D q a b)(hD:D≠1): ∀i c,b ⟨D,i,c⟩=a ⟨D,i,c⟩:=fun i c=>h _ i c (Nat.le_refl _) (by simp[hD])
theorem Far.all {k k1 q:Nat}{a b:Hp}(h:Far k1 q a b)(hk:k≤k1): ∀d i c,d≤k→(⟨d,i,c⟩:Nm)≠⟨1,q,0⟩→b ⟨d,i,c⟩=a ⟨d,i,c⟩:=fun d i c hd hne=>h d i c (by omega) hne
theorem peek_pos {T:List Tok}{n:Nat}{s:ByteArray}(h:peekT T n=s)(hs:s≠⟨#[]⟩):n<T.length:=by
 by_cases hn:n<T.length
 ·exact hn
 ·unfold peekT at h
  rw[T_none hn] at h
  exact(hs h.symm).elim
theorem kind_pos {T:List Tok}{n:Nat}{k:Int}(h:kindT T n=k)(hs:k≠0):n<T.length:=by
 by_cases hn:n<T.length
 ·exact hn
 ·unfold kindT at h
  rw[T_none hn] at h
  exact(hs h.symm).elim
end
section
open Go Go.Ab Go.Ab.Sy
theorem may {T:List Tok}{e:Int}{q n gx gy:Nat}{s:ByteArray}(D:Nat)(hD:2≤D)(d:Nat)(hp1:Hp)(hs:s≠⟨#[]⟩)(hr:Rd T e q gx gy n hp1):HB Tryz.prog E47 (Lm X46) D d 138 [.ptr ⟨1,q,0⟩ gx 0,tv s] hp1 (fun v hp2=>(v=bv false∧Rd T e q gx gy n hp2∧Far D q hp1 hp2)∨(v=bv true∧n<T.length∧Rd T e q gx gy (n+1) hp2∧Far D q hp1 hp2)) (Wr D q hp1):=by
 obtain⟨k,rfl⟩: ∃k,D=k+2:=⟨D - 2,by omega⟩
 clear hD
 refine lim_hpcBk (k1:=k+3) (PR:=Wr (k+2) q hp1) rfl Tryz.func138 rfl rfl bodyOk_138 rfl rvs_138 ?_
 obtain⟨h1,h2,hlen,hle⟩:=hr
 have w1:IntKind.i64.wrap ((n:Int)+1)=(n:Int)+1:=wrapN (by omega)
 repeat' (first|(refine ZN ?_)|(refine Z2 ?_ ?_)|(intro h h';try simp[*,-h] at h')|(exact⟨⟨_,rfl⟩,fun d i c hd hne=>(hpf d i c (by omega) hne).trans (by have hd2:d≠k+3:=(by omega);first|exact HF.out d i c hd hne|(simp[*];done)|(simp[*];exact HF.out d i c hd hne))⟩)|((with_reducible apply Wo_call (f:=167));(iterate 5 exact Z5);(apply peek (k+3) (by omega));(constructor);((conv=>lhs;simp -implicitDefEqProofs [*,-Int.natCast_add])<;>exact rfl);(exact Zc);(assumption);(omega);rotate_left;(rintro _ hpp ⟨⟨a,rfl⟩,hpf⟩);rotate_right;(rintro _ hp2 ⟨rfl,⟨hb2,ha2,_,_⟩,hf2⟩;have hO2:=hf2.own (by omega);have hL2:=hf2.all (k:=k+2) (by omega);clear hf2))|fail)
 ·left
  exact⟨rfl,⟨by simp[*],by simp[*],hlen,hle⟩,fun d i c hd hne=>by have hd2:d≠k+3:=(by omega);simp[*]⟩
 ·right
  have hn:n<T.length:=peek_pos (by assumption) hs
  exact⟨rfl,hn,⟨by simp[*],by simp[*],hlen,hn⟩,fun d i c hd hne=>by have hd2:d≠k+3:=(by omega);simp[*]⟩
theorem take {T:List Tok}{e:Int}{q n gx gy:Nat}{kd:Int}(D:Nat)(hD:2≤D)(d:Nat)(hp1:Hp)(hs:kd≠0)(hr:Rd T e q gx gy n hp1):HB Tryz.prog E47 (Lm X46) D d 140 [.ptr ⟨1,q,0⟩ gx 0,iv kd] hp1 (fun v hp2=> ∃t:Tok,v= .agg t.row∧n<T.length∧Rd T e q gx gy (n+1) hp2∧Far D q hp1 hp2) (Wr D q hp1):=by
 obtain⟨k,rfl⟩: ∃k,D=k+2:=⟨D - 2,by omega⟩
 clear hD
 refine lim_hpcBZk (k1:=k+3) (PR:=Wr (k+2) q hp1) rfl Tryz.func140 rfl rfl bodyOk_140 rfl rvs_140 rtys_140 ?_
 obtain⟨h1,h2,hlen,hle⟩:=hr
 have w1:IntKind.i64.wrap ((n:Int)+1)=(n:Int)+1:=wrapN (by omega)
 by_cases hkd:kindT T n=kd
 ·have hn:n<T.length:=kind_pos hkd hs
  have e1:(n:Int)<T.length:=by omega
  have e3:T[n]?=some T[n]:=List.getElem?_eq_getElem hn
  generalize hq:T[n]=t at*
  obtain⟨tk,tt,tn,ta⟩:=t
  repeat' (first|(refine ZN ?_)|(refine Z2 ?_ ?_)|(intro h h';try simp[*,-h] at h')|(exact⟨⟨_,rfl⟩,fun d i c hd hne=>(hpf d i c (by omega) hne).trans (by have hd2:d≠k+3:=(by omega);first|exact HF.out d i c hd hne|(simp[*];done)|(simp[*];exact HF.out d i c hd hne))⟩)|((with_reducible apply Wo_call (f:=168));(iterate 5 exact Z5);(apply kind (k+3) (by omega));(constructor);((conv=>lhs;simp -implicitDefEqProofs [*,-Int.natCast_add])<;>exact rfl);(exact Zc);(assumption);(omega);rotate_left;(rintro _ hpp ⟨⟨a,rfl⟩,hpf⟩);rotate_right;(rintro _ hp2 ⟨rfl,⟨hb2,ha2,_,_⟩,hf2⟩;have hO2:=hf2.own (by omega);have hL2:=hf2.all (k:=k+2) (by omega);clear hf2))|((with_reducible apply Wo_call (f:=137));(iterate 5 exact Z5);(apply fail (k+3) (by omega));(constructor);((conv=>lhs;simp -implicitDefEqProofs [*,-Int.natCast_add])<;>exact rfl);(exact Zc);(assumption);(omega);rotate_left;(rintro _ hpp ⟨⟨a,rfl⟩,hpf⟩);rotate_right;(rintro _ _ hf2;exact hf2.elim))|fail)
  all_goals exact⟨⟨tk,tt,tn,ta⟩,rfl,hn,⟨by simp[*],by simp[*],hlen,hn⟩,fun d i c hd hne=>by have hd2:d≠k+3:=(by omega);simp[*]⟩
 ·
  repeat' (first|(refine ZN ?_)|(refine Z2 ?_ ?_)|(intro h h';try simp[*,-h] at h')|(exact⟨⟨_,rfl⟩,fun d i c hd hne=>(hpf d i c (by omega) hne).trans (by have hd2:d≠k+3:=(by omega);first|exact HF.out d i c hd hne|(simp[*];done)|(simp[*];exact HF.out d i c hd hne))⟩)|((with_reducible apply Wo_call (f:=168));(iterate 5 exact Z5);(apply kind (k+3) (by omega));(constructor);((conv=>lhs;simp -implicitDefEqProofs [*,-Int.natCast_add])<;>exact rfl);(exact Zc);(assumption);(omega);rotate_left;(rintro _ hpp ⟨⟨a,rfl⟩,hpf⟩);rotate_right;(rintro _ hp2 ⟨rfl,⟨hb2,ha2,_,_⟩,hf2⟩;have hO2:=hf2.own (by omega);have hL2:=hf2.all (k:=k+2) (by omega);clear hf2))|((with_reducible apply Wo_call (f:=137));(iterate 5 exact Z5);(apply fail (k+3) (by omega));(constructor);((conv=>lhs;simp -implicitDefEqProofs [*,-Int.natCast_add])<;>exact rfl);(exact Zc);(assumption);(omega);rotate_left;(rintro _ hpp ⟨⟨a,rfl⟩,hpf⟩);rotate_right;(rintro _ _ hf2;exact hf2.elim))|fail)
theorem must {T:List Tok}{e:Int}{q n gx gy:Nat}{l:List ByteArray}{s0 gl:Nat}(D:Nat)(hD:2≤D)(d:Nat)(hp1:Hp)(hs: ∀s∈l,s≠⟨#[]⟩)(hl:l.length≤8)(hls:hp1 ⟨D,s0,0⟩= .arr gl 1 9 (tbRows l) false)(hr:Rd T e q gx gy n hp1):HB Tryz.prog E47 (Lm X46) D d 141 [.ptr ⟨1,q,0⟩ gx 0,.own ⟨D,s0,0⟩ gl l.length] hp1 (fun v hp2=>v= .tup []∧n+l.length≤T.length∧Rd T e q gx gy (n+l.length) hp2∧Far D q hp1 hp2) (Wr D q hp1):=by
 obtain⟨k,rfl⟩: ∃k,D=k+2:=⟨D - 2,by omega⟩
 clear hD
 refine lim_hpcBk (k1:=k+3) (PR:=Wr (k+2) q hp1) rfl Tryz.func141 rfl rfl bodyOk_141 rfl rvs_141 ?_
 obtain⟨h1,h2,hlen,hle⟩:=hr
 have w1: ∀i:Nat,i≤1048576→IntKind.i64.wrap ((i:Int)+1)=(i:Int)+1:=fun i hi=>wrapN (by omega)
 repeat' (first|(refine ZN ?_)|(refine Z2 ?_ ?_)|(intro h h';try simp[*,-h] at h')|(exact⟨⟨_,rfl⟩,fun d i c hd hne=>(hpf d i c (by omega) hne).trans (by have hd2:d≠k+3:=(by omega);first|exact HF.out d i c hd hne|(simp[*];done)|(simp[*];exact HF.out d i c hd hne))⟩)|((with_reducible apply Wo_call (f:=167));(iterate 5 exact Z5);(apply peek (k+3) (by omega));(constructor);((conv=>lhs;simp -implicitDefEqProofs [*,-Int.natCast_add])<;>exact rfl);(exact Zc);(assumption);(omega);rotate_left;(rintro _ hpp ⟨⟨a,rfl⟩,hpf⟩);rotate_right;(rintro _ hp2 ⟨rfl,⟨hb2,ha2,_,_⟩,hf2⟩;have hO2:=hf2.own (by omega);have hL2:=hf2.all (k:=k+2) (by omega);clear hf2))|((with_reducible apply Wo_call (f:=137));(iterate 5 exact Z5);(apply fail (k+3) (by omega));(constructor);((conv=>lhs;simp -implicitDefEqProofs [*,-Int.natCast_add])<;>exact rfl);(exact Zc);(assumption);(omega);rotate_left;(rintro _ hpp ⟨⟨a,rfl⟩,hpf⟩);rotate_right;(rintro _ _ hf2;exact hf2.elim))|fail)
 refine W_loopS (n:=l.length) (fun s0 m s=> ∃i:Nat,m=l.length - i∧i≤l.length∧n+i≤T.length∧s.fr 8=iv i∧s.fr 6=s0.fr 6∧s.fr 7=s0.fr 7∧s.fr 0=s0.fr 0∧Rd T e q gx gy (n+i) s.hp∧Far (k+2) q hp1 s.hp) ⟨0,by simp,by omega,by omega,by simp,by simp,by simp,by simp,⟨by simp[*],by simp[*],hlen,hle⟩,fun d i c hd hne=>by have hd2:d≠k+3:=(by omega);simp[*]⟩ ?_
 rintro m ⟨fr,hp⟩ ⟨i,rfl,hi,hni,f8,f6,f7,f0,⟨hb,ha,_,_⟩,hfar⟩
 simp at f8 f6 f7 f0 hb ha hfar
 have hlo:hp ⟨k+2,s0,0⟩= .arr gl 1 9 (tbRows l) false:=(hfar _ _ _ (Nat.le_refl _) (by simp)).trans hls
 clear h1 h2 hls
 by_cases hlt:i<l.length
 ·have hg:l[i]?=some l[i]:=List.getElem?_eq_getElem hlt
  have hz:=hs _ (List.getElem_mem hlt)
  generalize hq:l[i]=t at*
  have e1:(i:Int)<l.length:=by omega
  have w2:=w1 i (by omega)
  have w3:IntKind.i64.wrap ((n:Int)+i+1)=(n:Int)+i+1:=by have:=w1 (n+i) (by omega);rw[Int.natCast_add] at this;exact this
  have HF:=Lib.hid hfar
  clear hfar
  repeat' (first|(refine ZN ?_)|(refine Z2 ?_ ?_)|(intro h h';try simp[*,-h] at h')|(exact⟨⟨_,rfl⟩,fun d i c hd hne=>(hpf d i c (by omega) hne).trans (by have hd2:d≠k+3:=(by omega);first|exact HF.out d i c hd hne|(simp[*];done)|(simp[*];exact HF.out d i c hd hne))⟩)|((with_reducible apply Wo_call (f:=167));(iterate 5 exact Z5);(apply peek (k+3) (by omega));(constructor);((conv=>lhs;simp -implicitDefEqProofs [*,-Int.natCast_add])<;>exact rfl);(exact Zc);(assumption);(omega);rotate_left;(rintro _ hpp ⟨⟨a,rfl⟩,hpf⟩);rotate_right;(rintro _ hp2 ⟨rfl,⟨hb2,ha2,_,_⟩,hf2⟩;have hO2:=hf2.own (by omega);have hL2:=hf2.all (k:=k+2) (by omega);clear hf2))|((with_reducible apply Wo_call (f:=137));(iterate 5 exact Z5);(apply fail (k+3) (by omega));(constructor);((conv=>lhs;simp -implicitDefEqProofs [*,-Int.natCast_add])<;>exact rfl);(exact Zc);(assumption);(omega);rotate_left;(rintro _ hpp ⟨⟨a,rfl⟩,hpf⟩);rotate_right;(rintro _ _ hf2;exact hf2.elim))|fail)
  have hn:n+i<T.length:=peek_pos (by assumption) hz
  have hfar:=HF.out
  exact⟨l.length - (i+1),by omega,i+1,rfl,by omega,by omega,by simp,by simp[*],by simp[*],by simp[*],⟨by simp[*];try omega,by simp[*],hlen,by omega⟩,fun d i c hd hne=>by have hd2:d≠k+3:=(by omega);simp[*];exact hfar d i c hd hne⟩
 ·obtain rfl:i=l.length:=by omega
  have e1: ¬(l.length:Int)<l.length:=by omega
  have HF:=Lib.hid hfar
  clear hfar
  repeat' (first|(refine ZN ?_)|(refine Z2 ?_ ?_)|(intro h h';try simp[*,-h] at h')|(exact⟨⟨_,rfl⟩,fun d i c hd hne=>(hpf d i c (by omega) hne).trans (by have hd2:d≠k+3:=(by omega);first|exact HF.out d i c hd hne|(simp[*];done)|(simp[*];exact HF.out d i c hd hne))⟩)|((with_reducible apply Wo_call (f:=167));(iterate 5 exact Z5);(apply peek (k+3) (by omega));(constructor);((conv=>lhs;simp -implicitDefEqProofs [*,-Int.natCast_add])<;>exact rfl);(exact Zc);(assumption);(omega);rotate_left;(rintro _ hpp ⟨⟨a,rfl⟩,hpf⟩);rotate_right;(rintro _ hp2 ⟨rfl,⟨hb2,ha2,_,_⟩,hf2⟩;have hO2:=hf2.own (by omega);have hL2:=hf2.all (k:=k+2) (by omega);clear hf2))|((with_reducible apply Wo_call (f:=137));(iterate 5 exact Z5);(apply fail (k+3) (by omega));(constructor);((conv=>lhs;simp -implicitDefEqProofs [*,-Int.natCast_add])<;>exact rfl);(exact Zc);(assumption);(omega);rotate_left;(rintro _ hpp ⟨⟨a,rfl⟩,hpf⟩);rotate_right;(rintro _ _ hf2;exact hf2.elim))|fail)
  exact⟨rfl,hni,⟨by simp[*],by simp[*],hlen,hni⟩,HF.out⟩
theorem tx_take (l:List Tx):(txRows l).take l.length=txRows l:=by rw[List.take_of_length_le (by simp)]
theorem names {T:List Tok}{e:Int}{q n gx gy:Nat}(D:Nat)(hD:2≤D)(d:Nat)(hp1:Hp)(hr:Rd T e q gx gy n hp1):HB Tryz.prog E47 (Lm X46) D d 139 [.ptr ⟨1,q,0⟩ gx 0] hp1 (fun v hp2=> ∃(l:List Tx) (n2:Nat),v= .sl false 1 (txRows l)∧n+l.length≤n2∧n<n2∧Rd T e q gx gy n2 hp2∧Far D q hp1 hp2) (Wr D q hp1):=by
 obtain⟨k,rfl⟩: ∃k,D=k+2:=⟨D - 2,by omega⟩
 clear hD
 refine lim_hpcBZk (k1:=k+3) (PR:=Wr (k+2) q hp1) rfl Tryz.func139 rfl rfl bodyOk_139 rfl rvs_139 rtys_139 ?_
 obtain⟨h1,h2,hlen,hle⟩:=hr
 repeat' (first|(refine ZN ?_)|(refine Z2 ?_ ?_)|(intro h h';try simp[*,-h] at h')|(exact⟨⟨_,rfl⟩,fun d i c hd hne=>(hpf d i c (by omega) hne).trans (by have hd2:d≠k+3:=(by omega);first|exact HF.out d i c hd hne|(simp[*];done)|(simp[*];exact HF.out d i c hd hne))⟩)|((with_reducible apply Wo_call (f:=140));(iterate 5 exact Z5);(apply take (k+3) (by omega));(decide);(constructor);((conv=>lhs;simp -implicitDefEqProofs [*,-Int.natCast_add])<;>exact rfl);(exact Zc);(assumption);(omega);rotate_left;(rintro _ hpp ⟨⟨a,rfl⟩,hpf⟩);rotate_right;(rintro _ hp2 ⟨⟨tk2,tt2,tn2,ta2⟩,rfl,hn2,⟨hb2,ha2,_,hle2⟩,hf2⟩;have hO2:=hf2.own (by omega);have hL2:=hf2.all (k:=k+2) (by omega);clear hf2;simp only[Tok.row_mk]))|fail)
 refine W_loopS (n:=T.length - (n+1)) (fun s0 m s=> ∃(n2 g:Nat) (l:List Tx),m=T.length - n2∧n+l.length≤n2∧n<n2∧s.fr 0=s0.fr 0∧s.fr 3= .own ⟨k+3,7,0⟩ g l.length∧s.hp ⟨k+3,7,0⟩= .arr g 1 9 (txRows l) false∧Rd T e q gx gy n2 s.hp∧Far (k+2) q hp1 s.hp) ⟨n+1,_,[tt2],by omega,by simp,by omega,by simp,by simp;rfl,by simp[*],⟨by simp[*],by simp[*],hlen,hle2⟩,fun d i c hd hne=>by have hd2:d≠k+3:=(by omega);simp[*]⟩ ?_
 rintro m ⟨fr,hp⟩ ⟨n2,g,l,rfl,hnl,hnn,f0,f3,hl,⟨hb,ha,_,hle3⟩,hfar⟩
 simp at f0 f3 hl hb ha hfar
 have HF:=Lib.hid hfar
 clear hfar h1 h2 hb2 ha2 hO2 hL2
 have a1:(l.length+1)*16≤140737488355328:=by omega
 have a2:l.length≤9223372036854775806:=by omega
 have a3:=tx_take l
 repeat' (first|(refine ZN ?_)|(refine Z2 ?_ ?_)|(intro h h';try simp[*,-h] at h')|(exact⟨⟨_,rfl⟩,fun d i c hd hne=>(hpf d i c (by omega) hne).trans (by have hd2:d≠k+3:=(by omega);first|exact HF.out d i c hd hne|(simp[*];done)|(simp[*];exact HF.out d i c hd hne))⟩)|((with_reducible apply Wo_call (f:=138));(iterate 5 exact Z5);(apply may (k+3) (by omega));(decide);(constructor);((conv=>lhs;simp -implicitDefEqProofs [*,-Int.natCast_add])<;>exact rfl);(exact Zc);(assumption);(omega);rotate_left;(rintro _ hpp ⟨⟨a,rfl⟩,hpf⟩);rotate_right;(rintro _ hp2 (⟨rfl,⟨hb2,ha2,_,_⟩,hf2⟩|⟨rfl,hn2,⟨hb2,ha2,_,hle2⟩,hf2⟩)<;>(have hO2:=hf2.own (by omega);have hL2:=hf2.all (k:=k+2) (by omega);clear hf2)))|((with_reducible apply Wo_call (f:=140));(iterate 5 exact Z5);(apply take (k+3) (by omega));(decide);(constructor);((conv=>lhs;simp -implicitDefEqProofs [*,-Int.natCast_add])<;>exact rfl);(exact Zc);(assumption);(omega);rotate_left;(rintro _ hpp ⟨⟨a,rfl⟩,hpf⟩);rotate_right;(rintro _ hp2 ⟨⟨tk2,tt2,tn2,ta2⟩,rfl,hn2,⟨hb2,ha2,_,hle2⟩,hf2⟩;have hO2:=hf2.own (by omega);have hL2:=hf2.all (k:=k+2) (by omega);clear hf2;simp only[Tok.row_mk]))|fail)
 ·have hfar:=HF.out
  exact⟨l,n2,by simp[*],hnl,hnn,⟨by simp[*],by simp[*],hlen,hle3⟩,fun d i c hd hne=>by have hd2:d≠k+3:=(by omega);simp[*];exact hfar d i c hd hne⟩
 ·have hfar:=HF.out
  exact⟨T.length - (n2+1+1),by omega,n2+1+1,g+1,l++[tt2],rfl,by simp;omega,by omega,by simp[*],by simp[*],by simp[*],⟨by simp[*],by simp[*],hlen,hle2⟩,fun d i c hd hne=>by have hd2:d≠k+3:=(by omega);simp[*];exact hfar d i c hd hne⟩
theorem must1 {T:List Tok}{e:Int}{q n gx gy:Nat}{s:ByteArray}{s0 gl:Nat}(D:Nat)(hD:2≤D)(d:Nat)(hp1:Hp)(hls:hp1 ⟨D,s0,0⟩= .arr gl 1 9 [[tz s]] false)(hs:s≠⟨#[]⟩)(hr:Rd T e q gx gy n hp1):
  HB Tryz.prog E47 (Lm X46) D d 141 [.ptr ⟨1,q,0⟩ gx 0,.own ⟨D,s0,0⟩ gl 1] hp1 (fun v hp2=>v= .tup []∧n+1≤T.length∧Rd T e q gx gy (n+1) hp2∧Far D q hp1 hp2) (Wr D q hp1):=
 must (l:=[s]) D hD d hp1 (fun x hx=>by simp at hx;rw[hx];exact hs) (by simp) hls hr
theorem must2 {T:List Tok}{e:Int}{q n gx gy:Nat}{s t:ByteArray}{s0 gl:Nat}(D:Nat)(hD:2≤D)(d:Nat)(hp1:Hp)(hls:hp1 ⟨D,s0,0⟩= .arr gl 1 9 [[tz s],[tz t]] false)(hs:s≠⟨#[]⟩)(ht:t≠⟨#[]⟩)(hr:Rd T e q gx gy n hp1):
  HB Tryz.prog E47 (Lm X46) D d 141 [.ptr ⟨1,q,0⟩ gx 0,.own ⟨D,s0,0⟩ gl 2] hp1 (fun v hp2=>v= .tup []∧n+2≤T.length∧Rd T e q gx gy (n+2) hp2∧Far D q hp1 hp2) (Wr D q hp1):=
 must (l:=[s,t]) D hD d hp1 (fun x hx=>by simp at hx;rcases hx with rfl|rfl;exact hs;exact ht) (by simp) hls hr
@[simp] theorem Ex_row_mk (k o n:Int)(s:Tx)(l:List Sy.Ex):(Sy.Ex.mk k o n s l).row=[iz k,iz o,uz n,tz s.1,.sl false 5 (exRows l)]:=Sy.Ex.row_eq _
@[simp] theorem Ex_size_mk (k o n:Int)(s:Tx)(l:List Sy.Ex):(Sy.Ex.mk k o n s l).size=exSize l+1:=Sy.Ex.size_eq _
end
end Go.Proofs.YtpedpkegmalgmaaGreatDoor
