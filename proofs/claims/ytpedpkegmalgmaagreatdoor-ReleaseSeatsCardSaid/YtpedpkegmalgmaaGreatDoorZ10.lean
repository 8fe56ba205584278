/- A part of the proof: Ra, Rb, Ree, Rf6, Rg. -/
import Derived.Lib.Hide
import Derived.Test.YtpedpkegmalgmaaGreatDoorZ05
import Derived.Test.YtpedpkegmalgmaaGreatDoorZ09
import Derived.Test.YtpedpkegmalgmaaGreatDoorZ07
import Derived.Test.YtpedpkegmalgmaaGreatDoorZ08
set_option linter.unusedSimpArgs false
set_option linter.unusedVariables false
set_option maxRecDepth 200000
set_option maxHeartbeats 8000000
namespace Go.Proofs.YtpedpkegmalgmaaGreatDoor
section
open Go Go.Ab
def E6 :Cfg:={eq:=fun t=>t==24,hp:=fun f=>f==52,yl:=fun _=>false,ws:=70}
@[simp] theorem E6_eq (t:Nat):E6.eq t=(t==24):=rfl
@[simp] theorem E6_hp (f:Nat):E6.hp f=(f==52):=rfl
@[simp] theorem E6_off :E6.off=0:=rfl
@[simp] theorem E6_ws :E6.ws=70:=rfl
@[simp] theorem E6_cl :E6.cl=false:=rfl
@[simp] theorem E6_frz (f:Nat):E6.frz f=false:=rfl
@[simp] theorem E6_inl (f:Nat):E6.inl f=false:=rfl
@[simp] theorem E6_bx (t:Nat):E6.bx t=false:=rfl
abbrev I4 :=Int×Int×Int×Int
abbrev ir (l:List Int):List (List AV):=l.map fun x=>[iv x]
abbrev rowU (l:List Int):List (List AV):=l.map fun x=>[uv x]
abbrev dr4 (l:List I4):List (List AV):=l.map fun x=>[uv x.1,uv x.2.1,uv x.2.2.1,uv x.2.2.2]
abbrev rcp (t m0 m1 m2 m3 fu:Int)(ps:List Int)(is:List I4):AV:= .agg [iv t,uv m0,uv m1,uv m2,uv m3,.sl false 1 (ir ps),.sl false 4 (dr4 is),iv fu]
def okP (q:Int):Bool:=decide (1≤q)&&decide (q≤4)
def R1 (t:Int)(z:Bool)(fu:Int)(ps:List Int)(n:Int):Bool:=
 if t<1∨6<t then false else if t≠1∧(z=false∨fu≠0) then false else if fu<0∨100000000<fu then false else if 20<(ps.length:Int)∨(t≠3∧0<(ps.length:Int)) then false else if ps.all okP=false then false else if 2≤t∧t≤5 then n==1 else decide (n≤20)
theorem all_bad {ps:List Int}{i:Nat}{q:Int}(h:ps[i]?=some q)(hq:okP q=false):ps.all okP=false:=by
 cases ha:ps.all okP with
 |false=>rfl
 |true=>
  rw[List.all_eq_true] at ha
  rw[ha q (List.mem_of_getElem? h)] at hq
  cases hq
theorem all_take {ps:List Int}{i:Nat}{q:Int}(h:ps[i]?=some q)(hq:okP q=true)(ha:(ps.take i).all okP=true):(ps.take (i+1)).all okP=true:=by
 rw[List.take_add_one,h]
 simp[ha,hq]
attribute [-simp] Prog.bind getCs putCs
attribute [local simp ↓] run_bind
attribute [local simp ↓] runF_bind
attribute [local simp] run_getCsN runF_getCsN runF_putCsN facetsC facetsW facetsH putCs_one run_putCsN
theorem right1_w {X:Orc}(hX: ∀a,X.dat 41 a=none)(t m0 m1 m2 m3 fu:Int)(ps:List Int)(is:List I4):(lim Tryz.prog E6 X).dat 41 [rcp t m0 m1 m2 m3 fu ps is]=some [bv (R1 t (m0==0&&(m1==0&&(m2==0&&m3==0))) fu ps is.length)]:=by
 refine fnW (P:=Tryz.prog) (E:=E6) (X:=X) Tryz.func41 (hX _) rfl bodyOk_41 rfl rtys_41 rvs_41 ?_
 by_cases c1:t<1
 ·have hR:R1 t (m0==0&&(m1==0&&(m2==0&&m3==0))) fu ps is.length=false:=by unfold R1;rw[if_pos (.inl c1)]
  rw[hR];clear hR
  repeat' (first|(refine ZN ?_)|(refine Z2 ?_ ?_)|(intro h h';try simp[*,-h] at h'))
  all_goals rfl
 by_cases c2:6<t
 ·have hR:R1 t (m0==0&&(m1==0&&(m2==0&&m3==0))) fu ps is.length=false:=by unfold R1;rw[if_pos (.inr c2)]
  rw[hR];clear hR
  repeat' (first|(refine ZN ?_)|(refine Z2 ?_ ?_)|(intro h h';try simp[*,-h] at h'))
  all_goals rfl
 by_cases c3:t≠1∧((m0==0&&(m1==0&&(m2==0&&m3==0)))=false∨fu≠0)
 ·have hR:R1 t (m0==0&&(m1==0&&(m2==0&&m3==0))) fu ps is.length=false:=by unfold R1;rw[if_neg (by omega),if_pos c3]
  rw[hR];clear hR
  obtain⟨c3,c4⟩:=c3
  by_cases c5:(m0==0&&(m1==0&&(m2==0&&m3==0)))=false
  ·clear c4
   repeat' (first|(refine ZN ?_)|(refine Z2 ?_ ?_)|(intro h h';try simp[*,-h] at h'))
   all_goals rfl
  ·have c6: ¬fu=0:=by simpa[c5] using c4
   have c7:(m0==0&&(m1==0&&(m2==0&&m3==0)))=true:=by simpa using c5
   clear c4 c5
   repeat' (first|(refine ZN ?_)|(refine Z2 ?_ ?_)|(intro h h';try simp[*,-h] at h'))
   all_goals rfl
 by_cases t1:t=1
 ·subst t1
  by_cases c4:fu<0
  ·have hR:R1 1 (m0==0&&(m1==0&&(m2==0&&m3==0))) fu ps is.length=false:=by unfold R1;rw[if_neg (by omega),if_neg c3,if_pos (.inl c4)]
   rw[hR];clear hR
   repeat' (first|(refine ZN ?_)|(refine Z2 ?_ ?_)|(intro h h';try simp[*,-h] at h'))
   all_goals rfl
  by_cases c5:100000000<fu
  ·have hR:R1 1 (m0==0&&(m1==0&&(m2==0&&m3==0))) fu ps is.length=false:=by unfold R1;rw[if_neg (by omega),if_neg c3,if_pos (.inr c5)]
   rw[hR];clear hR
   repeat' (first|(refine ZN ?_)|(refine Z2 ?_ ?_)|(intro h h';try simp[*,-h] at h'))
   all_goals rfl
  by_cases l1:20<(ps.length:Int)
  ·have hR:R1 1 (m0==0&&(m1==0&&(m2==0&&m3==0))) fu ps is.length=false:=by unfold R1;rw[if_neg (by omega),if_neg c3,if_neg (by omega),if_pos (.inl l1)]
   rw[hR];clear hR
   repeat' (first|(refine ZN ?_)|(refine Z2 ?_ ?_)|(intro h h';try simp[*,-h] at h'))
   all_goals rfl
  by_cases l2:0<ps.length
  ·have hR:R1 1 (m0==0&&(m1==0&&(m2==0&&m3==0))) fu ps is.length=false:=by unfold R1;rw[if_neg (by omega),if_neg c3,if_neg (by omega),if_pos (.inr ⟨by omega,by omega⟩)]
   rw[hR];clear hR
   repeat' (first|(refine ZN ?_)|(refine Z2 ?_ ?_)|(intro h h';try simp[*,-h] at h'))
   all_goals rfl
  have l3: ¬(20<(ps.length:Int)∨((1:Int)≠3∧0<(ps.length:Int))):=by omega
  repeat' (first|(refine ZN ?_)|(refine Z2 ?_ ?_)|(intro h h';try simp[*,-h] at h'))
  refine W_loopS (n:=ps.length) (fun s0 m s=> ∃i:Nat,ps.length - i≤m∧i≤ps.length∧s.fr 1=s0.fr 1∧s.hp ⟨0,1,0⟩=s0.hp ⟨0,1,0⟩∧s.fr 51= .sl false 1 (ir ps)∧s.fr 52=iv ps.length∧s.fr 53=iv i∧(ps.take i).all okP=true) ⟨0,by omega,by omega,rfl,rfl,by simp[*],by simp[*],by simp,by simp⟩ ?_
  rintro m ⟨fr,hp⟩ ⟨i,hm,hi,f1,b1,f51,f52,f53,ha⟩
  simp at f1 b1
  simp only at f51 f52 f53
  by_cases hlt:i<ps.length
  ·have e1:(i:Int)<ps.length:=by omega
   have hg:ps[i]?=some ps[i]:=List.getElem?_eq_getElem hlt
   have hwi:IntKind.i64.wrap ((i:Int)+1)=(i:Int)+1:=wrapN (by omega)
   generalize ps[i]=q at*
   have hgr:(ir ps)[i]?=some [iv q]:=by simp[hg]
   by_cases q1:q<1
   ·have hR:R1 1 (m0==0&&(m1==0&&(m2==0&&m3==0))) fu ps is.length=false:=by
     unfold R1
     rw[if_neg (by omega),if_neg c3,if_neg (by omega),if_neg l3,if_pos (all_bad hg (by unfold okP;simp;omega))]
    rw[hR];clear hR hlt hg c3 l3 ha
    repeat' (first|(refine ZN ?_)|(refine Z2 ?_ ?_)|(intro h h';try simp[*,-h] at h'))
    all_goals rfl
   by_cases q2:4<q
   ·have hR:R1 1 (m0==0&&(m1==0&&(m2==0&&m3==0))) fu ps is.length=false:=by
     unfold R1
     rw[if_neg (by omega),if_neg c3,if_neg (by omega),if_neg l3,if_pos (all_bad hg (by unfold okP;simp;omega))]
    rw[hR];clear hR hlt hg c3 l3 ha
    repeat' (first|(refine ZN ?_)|(refine Z2 ?_ ?_)|(intro h h';try simp[*,-h] at h'))
    all_goals rfl
   have ha2:=Lib.hid (all_take hg (by unfold okP;simp;omega) ha)
   clear ha hg hlt c3 l3
   repeat' (first|(refine ZN ?_)|(refine Z2 ?_ ?_)|(intro h h';try simp[*,-h] at h'))
   exact⟨ps.length - (i+1),by omega,i+1,by omega,by omega,by simp[*],by simp[*],by simp[*],by simp[*],by simp[*],ha2.out⟩
  have e1: ¬(i:Int)<ps.length:=by omega
  have hz:ps.take i=ps:=List.take_of_length_le (by omega)
  rw[hz] at ha
  have hR:R1 1 (m0==0&&(m1==0&&(m2==0&&m3==0))) fu ps is.length=(if 2≤(1:Int)∧(1:Int)≤5 then((is.length:Int)==1) else decide ((is.length:Int)≤20)):=by
   unfold R1
   rw[if_neg (by omega),if_neg c3,if_neg (by omega),if_neg l3,if_neg (by simp only[ha];decide)]
  rw[hR];clear hR hz ha c3 l3
  rw[if_neg (by omega)]
  repeat' (first|(refine ZN ?_)|(refine Z2 ?_ ?_)|(intro h h';try simp[*,-h] at h'))
  all_goals rfl
 ·have hzf:(m0==0&&(m1==0&&(m2==0&&m3==0)))=true∧fu=0:=by
   by_cases hz:(m0==0&&(m1==0&&(m2==0&&m3==0)))=false
   ·exact absurd ⟨t1,.inl hz⟩ c3
   ·exact⟨by simpa using hz,by
     by_cases hf:fu=0
     ·exact hf
     ·exact absurd ⟨t1,.inr hf⟩ c3⟩
  obtain⟨hz1,rfl⟩:=hzf
  by_cases t3:t=3
  ·subst t3
   by_cases l1:20<(ps.length:Int)
   ·have hR:R1 3 (m0==0&&(m1==0&&(m2==0&&m3==0))) 0 ps is.length=false:=by unfold R1;rw[if_neg (by omega),if_neg c3,if_neg (by omega),if_pos (.inl l1)]
    rw[hR];clear hR
    repeat' (first|(refine ZN ?_)|(refine Z2 ?_ ?_)|(intro h h';try simp[*,-h] at h'))
    all_goals rfl
   have l3: ¬(20<(ps.length:Int)∨((3:Int)≠3∧0<(ps.length:Int))):=by omega
   repeat' (first|(refine ZN ?_)|(refine Z2 ?_ ?_)|(intro h h';try simp[*,-h] at h'))
   refine W_loopS (n:=ps.length) (fun s0 m s=> ∃i:Nat,ps.length - i≤m∧i≤ps.length∧s.fr 1=s0.fr 1∧s.hp ⟨0,1,0⟩=s0.hp ⟨0,1,0⟩∧s.fr 51= .sl false 1 (ir ps)∧s.fr 52=iv ps.length∧s.fr 53=iv i∧(ps.take i).all okP=true) ⟨0,by omega,by omega,rfl,rfl,by simp[*],by simp[*],by simp,by simp⟩ ?_
   rintro m ⟨fr,hp⟩ ⟨i,hm,hi,f1,b1,f51,f52,f53,ha⟩
   simp at f1 b1
   simp only at f51 f52 f53
   by_cases hlt:i<ps.length
   ·have e1:(i:Int)<ps.length:=by omega
    have hg:ps[i]?=some ps[i]:=List.getElem?_eq_getElem hlt
    have hwi:IntKind.i64.wrap ((i:Int)+1)=(i:Int)+1:=wrapN (by omega)
    generalize ps[i]=q at*
    have hgr:(ir ps)[i]?=some [iv q]:=by simp[hg]
    by_cases q1:q<1
    ·have hR:R1 3 (m0==0&&(m1==0&&(m2==0&&m3==0))) 0 ps is.length=false:=by
      unfold R1
      rw[if_neg (by omega),if_neg c3,if_neg (by omega),if_neg l3,if_pos (all_bad hg (by unfold okP;simp;omega))]
     rw[hR];clear hR hlt hg c3 l3 ha
     repeat' (first|(refine ZN ?_)|(refine Z2 ?_ ?_)|(intro h h';try simp[*,-h] at h'))
     all_goals rfl
    by_cases q2:4<q
    ·have hR:R1 3 (m0==0&&(m1==0&&(m2==0&&m3==0))) 0 ps is.length=false:=by
      unfold R1
      rw[if_neg (by omega),if_neg c3,if_neg (by omega),if_neg l3,if_pos (all_bad hg (by unfold okP;simp;omega))]
     rw[hR];clear hR hlt hg c3 l3 ha
     repeat' (first|(refine ZN ?_)|(refine Z2 ?_ ?_)|(intro h h';try simp[*,-h] at h'))
     all_goals rfl
    have ha2:=Lib.hid (all_take hg (by unfold okP;simp;omega) ha)
    clear ha hg hlt c3 l3
    repeat' (first|(refine ZN ?_)|(refine Z2 ?_ ?_)|(intro h h';try simp[*,-h] at h'))
    exact⟨ps.length - (i+1),by omega,i+1,by omega,by omega,by simp[*],by simp[*],by simp[*],by simp[*],by simp[*],ha2.out⟩
   have e1: ¬(i:Int)<ps.length:=by omega
   have hz:ps.take i=ps:=List.take_of_length_le (by omega)
   rw[hz] at ha
   have hR:R1 3 (m0==0&&(m1==0&&(m2==0&&m3==0))) 0 ps is.length=(if 2≤(3:Int)∧(3:Int)≤5 then((is.length:Int)==1) else decide ((is.length:Int)≤20)):=by
    unfold R1
    rw[if_neg (by omega),if_neg c3,if_neg (by omega),if_neg l3,if_neg (by simp only[ha];decide)]
   rw[hR];clear hR hz ha c3 l3
   rw[if_pos (by omega)]
   repeat' (first|(refine ZN ?_)|(refine Z2 ?_ ?_)|(intro h h';try simp[*,-h] at h'))
   all_goals rfl
  by_cases l1:20<(ps.length:Int)
  ·have hR:R1 t (m0==0&&(m1==0&&(m2==0&&m3==0))) 0 ps is.length=false:=by unfold R1;rw[if_neg (by omega),if_neg c3,if_neg (by omega),if_pos (.inl l1)]
   rw[hR];clear hR
   repeat' (first|(refine ZN ?_)|(refine Z2 ?_ ?_)|(intro h h';try simp[*,-h] at h'))
   all_goals rfl
  by_cases l2:0<ps.length
  ·have hR:R1 t (m0==0&&(m1==0&&(m2==0&&m3==0))) 0 ps is.length=false:=by unfold R1;rw[if_neg (by omega),if_neg c3,if_neg (by omega),if_pos (.inr ⟨by omega,by omega⟩)]
   rw[hR];clear hR
   repeat' (first|(refine ZN ?_)|(refine Z2 ?_ ?_)|(intro h h';try simp[*,-h] at h'))
   all_goals rfl
  have l3: ¬(20<(ps.length:Int)∨(t≠3∧0<(ps.length:Int))):=by omega
  repeat' (first|(refine ZN ?_)|(refine Z2 ?_ ?_)|(intro h h';try simp[*,-h] at h'))
  refine W_loopS (n:=ps.length) (fun s0 m s=> ∃i:Nat,ps.length - i≤m∧i≤ps.length∧s.fr 1=s0.fr 1∧s.hp ⟨0,1,0⟩=s0.hp ⟨0,1,0⟩∧s.fr 51= .sl false 1 (ir ps)∧s.fr 52=iv ps.length∧s.fr 53=iv i∧(ps.take i).all okP=true) ⟨0,by omega,by omega,rfl,rfl,by simp[*],by simp[*],by simp,by simp⟩ ?_
  rintro m ⟨fr,hp⟩ ⟨i,hm,hi,f1,b1,f51,f52,f53,ha⟩
  simp at f1 b1
  simp only at f51 f52 f53
  by_cases hlt:i<ps.length
  ·have e1:(i:Int)<ps.length:=by omega
   have hg:ps[i]?=some ps[i]:=List.getElem?_eq_getElem hlt
   have hwi:IntKind.i64.wrap ((i:Int)+1)=(i:Int)+1:=wrapN (by omega)
   generalize ps[i]=q at*
   have hgr:(ir ps)[i]?=some [iv q]:=by simp[hg]
   by_cases q1:q<1
   ·have hR:R1 t (m0==0&&(m1==0&&(m2==0&&m3==0))) 0 ps is.length=false:=by
     unfold R1
     rw[if_neg (by omega),if_neg c3,if_neg (by omega),if_neg l3,if_pos (all_bad hg (by unfold okP;simp;omega))]
    rw[hR];clear hR hlt hg c3 l3 ha
    repeat' (first|(refine ZN ?_)|(refine Z2 ?_ ?_)|(intro h h';try simp[*,-h] at h'))
    all_goals rfl
   by_cases q2:4<q
   ·have hR:R1 t (m0==0&&(m1==0&&(m2==0&&m3==0))) 0 ps is.length=false:=by
     unfold R1
     rw[if_neg (by omega),if_neg c3,if_neg (by omega),if_neg l3,if_pos (all_bad hg (by unfold okP;simp;omega))]
    rw[hR];clear hR hlt hg c3 l3 ha
    repeat' (first|(refine ZN ?_)|(refine Z2 ?_ ?_)|(intro h h';try simp[*,-h] at h'))
    all_goals rfl
   have ha2:=Lib.hid (all_take hg (by unfold okP;simp;omega) ha)
   clear ha hg hlt c3 l3
   repeat' (first|(refine ZN ?_)|(refine Z2 ?_ ?_)|(intro h h';try simp[*,-h] at h'))
   exact⟨ps.length - (i+1),by omega,i+1,by omega,by omega,by simp[*],by simp[*],by simp[*],by simp[*],by simp[*],ha2.out⟩
  have e1: ¬(i:Int)<ps.length:=by omega
  have hz:ps.take i=ps:=List.take_of_length_le (by omega)
  rw[hz] at ha
  have hR:R1 t (m0==0&&(m1==0&&(m2==0&&m3==0))) 0 ps is.length=(if 2≤t∧t≤5 then((is.length:Int)==1) else decide ((is.length:Int)≤20)):=by
   unfold R1
   rw[if_neg (by omega),if_neg c3,if_neg (by omega),if_neg l3,if_neg (by simp only[ha];decide)]
  rw[hR];clear hR hz ha c3 l3
  obtain rfl|rfl|rfl|rfl:t=2∨t=4∨t=5∨t=6:=by omega
  ·rw[if_pos (by omega)]
   repeat' (first|(refine ZN ?_)|(refine Z2 ?_ ?_)|(intro h h';try simp[*,-h] at h'))
   all_goals rfl
  ·rw[if_pos (by omega)]
   repeat' (first|(refine ZN ?_)|(refine Z2 ?_ ?_)|(intro h h';try simp[*,-h] at h'))
   all_goals rfl
  ·rw[if_pos (by omega)]
   repeat' (first|(refine ZN ?_)|(refine Z2 ?_ ?_)|(intro h h';try simp[*,-h] at h'))
   all_goals rfl
  ·rw[if_neg (by omega)]
   repeat' (first|(refine ZN ?_)|(refine Z2 ?_ ?_)|(intro h h';try simp[*,-h] at h'))
   all_goals rfl
end
section
open Go Go.Ab
theorem lim_hpcBr {P:Program}{E:Cfg}{X:Orc}{f k k1 d:Nat}{fn:Func}{c:Code}{args:List AV}{hp:Hp}{rvs:List ResultVar}{R:AV→Hp→Prop}{PR:Value→Hp→Prop}(hk:k+1=k1)(hf:P.funcs[f]?=some fn)(hx:X.hpc k d f args hp=none)(hb:fn.body=some c)(hok:bodyOk fn=true)(hl:args.length=fn.params.size+fn.nfree)
  (hrv:fn.results.toList=rvs) (h:W P E k1 (lim P E X) c ⟨frame0 args,hp⟩ (EndB P k d rvs R PR)) (hi:E.inl f=false:=by first|rfl|simp) (hz:E.frz f=false:=by first|rfl|simp):
  HB P E (lim P E X) k d f args hp R PR:=by
 subst hk
 exact lim_hpcB hf hx hb hok hl hrv h hi hz
attribute [local simp] resultV lowerRes lowerV lowerAll
@[local simp] theorem lkr_ne {d k i j c c':Nat}(h:d≠k):((⟨d,i,c⟩:Nm)=⟨k,j,c'⟩)=False:=by simp[h]
def GL (l:List Int)(hp:Hp):Prop:= ∃g:Nat,hp ⟨0,4,0⟩= .box 1 [.own ⟨0,4,1⟩ g l.length] false∧hp ⟨0,4,1⟩= .arr g 1 22 (rowU l) false
theorem GL.congr {l:List Int}{hp hp':Hp}(h:GL l hp)(he: ∀c,hp' ⟨0,4,c⟩=hp ⟨0,4,c⟩):GL l hp':=by
 obtain⟨g,h1,h2⟩:=h
 exact⟨g,(he _).trans h1,(he _).trans h2⟩
def KL4 (D:Nat)(hp1 hp2:Hp):Prop:= ∀d i c,d≤D→(d≠0∨i≠4)→hp2 ⟨d,i,c⟩=hp1 ⟨d,i,c⟩
abbrev u32 (x:Int):Int:=IntKind.u32.wrap x
def four4 (l:List I4):List Int:=l.flatMap fun x=>[x.1,x.2.1,x.2.2.1,x.2.2.2]
def wds1 (t m0 m1 m2 m3 fu:Int)(ps:List Int):List Int:=[u32 t,m0,m1,m2,m3,u32 fu,u32 ps.length]
def wds (t m0 m1 m2 m3 fu:Int)(ps:List Int)(is:List I4):List Int:=wds1 t m0 m1 m2 m3 fu ps++ps.map u32++[u32 is.length]++four4 is
theorem four_take {l:List I4}{i:Nat}{x:I4}(h:l[i]?=some x):four4 (l.take (i+1))=four4 (l.take i)++[x.1,x.2.1,x.2.2.1,x.2.2.2]:=by
 unfold four4
 rw[List.take_add_one,h]
 simp
theorem map_take1 {l:List Int}{i:Nat}{x:Int}(h:l[i]?=some x):(l.take (i+1)).map u32=(l.take i).map u32++[u32 x]:=by
 rw[List.take_add_one,h]
 simp
theorem four_len (l:List I4):(four4 l).length=4*l.length:=by
 unfold four4
 induction l with
 |nil=>rfl
 |cons a l ih=>rw[List.flatMap_cons,List.length_append,ih,List.length_cons];simp;omega
attribute [-simp] Prog.bind getCs putCs
attribute [local simp ↓] run_bind
attribute [local simp ↓] runF_bind
attribute [local simp] run_getCsN runF_getCsN runF_putCsN facetsC facetsW facetsH putCs_one run_putCsN
attribute [-simp] rowsP in
theorem gput_w {X:Orc}(hX: ∀k d a hp,X.hpc k d 52 a hp=none){k d:Nat}{hp1:Hp}{l l2:List Int}{x:AV}(hcs:GL l hp1)(hr:(rowsP x).run hp1=some ((1,rowU l2),hp1))(hN:l.length+l2.length≤1000000):HB Tryz.prog E6 (lim Tryz.prog E6 X) k d 52 [x,.ptr ⟨0,4,0⟩ 1 0] hp1 (fun v hp2=>v= .tup []∧GL (l++l2) hp2∧KL4 k hp1 hp2) (fun _ _=>False):=by
 refine lim_hpcBr (k1:=k+1) (PR:=fun _ _=>False) rfl Tryz.func52 (hX _ _ _ _) rfl bodyOk_52 rfl rvs_52 ?_
 obtain⟨g,b0,b1⟩:=hcs
 have x1:(l.length+l2.length)*4≤140737488355328:=by omega
 have x2:l.length+l2.length≤9223372036854775807:=by omega
 repeat' (first|(refine ZN ?_)|(refine Z2 ?_ ?_)|(intro h h';try simp[*,-h] at h'))
 all_goals first
  |rfl
  |(refine⟨rfl,⟨g+1,by simp[*],by simp[*]⟩,fun d i c hd h=>?_⟩;rcases h with h|h<;>simp[*];done)
theorem put1_no {X:Orc}(hX: ∀a,X.dat 32 a=none)(t m0 m1 m2 m3 fu:Int)(ps:List Int)(is:List I4)(hr:(lim Tryz.prog E6 X).dat 41 [rcp t m0 m1 m2 m3 fu ps is]=some [bv false]):(lim Tryz.prog E6 X).dat 32 [rcp t m0 m1 m2 m3 fu ps is]=some [tv ⟨#[]⟩,iv 1]:=by
 refine fnW (P:=Tryz.prog) (E:=E6) (X:=X) Tryz.func32 (hX _) rfl bodyOk_32 rfl rtys_32 rvs_32 ?_
 repeat' (first|(refine ZN ?_)|(refine Z2 ?_ ?_)|(intro h h';try simp[*,-h] at h'))
 all_goals rfl
theorem put1_w {X:Orc}(hX: ∀a,X.dat 32 a=none)(hP: ∀k d a hp,X.hpc k d 52 a hp=none)(t m0 m1 m2 m3 fu:Int)(ps:List Int)(is:List I4)(g:ByteArray)(hg:g.size≤1000000)(hr:(lim Tryz.prog E6 X).dat 41 [rcp t m0 m1 m2 m3 fu ps is]=some [bv true])(hps:ps.length≤1000)(his:is.length≤1000)(hw:(lim Tryz.prog E6 X).dat 35 [.sl false 1 (rowU (wds t m0 m1 m2 m3 fu ps is))]=some [tv g]):(lim Tryz.prog E6 X).dat 32 [rcp t m0 m1 m2 m3 fu ps is]=some [tv (⟨#[82]⟩++g),iv 0]:=by
 refine fnW (P:=Tryz.prog) (E:=E6) (X:=X) Tryz.func32 (hX _) rfl bodyOk_32 rfl rtys_32 rvs_32 ?_
 repeat' (first|(refine ZN ?_)|(refine Z2 ?_ ?_)|(intro h h';try simp[*,-h] at h')|((with_reducible apply Wo_call (f:=52));(iterate 5 exact Z5);(apply(gput_w (l2:=[u32 t]) hP));(focus (first|(refine GL.congr hcs ?_;intro c;simp;done)|(show GL [] _;refine⟨1,?_,?_⟩<;>simp)));(focus (first|(simp[rowsP,chunks,isDat, *];done)|(simp[rowsP,chunks,isDat, *];rfl)));(focus (first|omega|(simp[wds1,four_len,List.length_take]<;>omega)));rotate_left;(rintro _ _ h;exact h.elim);(rintro _ hp2 ⟨rfl,hcn,hk2⟩;have hbn:=hk2 0 1 0 (Nat.le_refl _) (Or.inr (by decide));simp[*] at hbn;clear hk2;(try clear hcs);(try clear hb);have hcs:=hcn;clear hcn;have hb:=hbn;clear hbn))|((with_reducible apply Wo_call (f:=52));(iterate 5 exact Z5);(apply(gput_w (l2:=[m0,m1,m2,m3]) hP));(focus (first|(refine GL.congr hcs ?_;intro c;simp;done)|(show GL [] _;refine⟨1,?_,?_⟩<;>simp)));(focus (first|(simp[rowsP,chunks,isDat, *];done)|(simp[rowsP,chunks,isDat, *];rfl)));(focus (first|omega|(simp[wds1,four_len,List.length_take]<;>omega)));rotate_left;(rintro _ _ h;exact h.elim);(rintro _ hp2 ⟨rfl,hcn,hk2⟩;have hbn:=hk2 0 1 0 (Nat.le_refl _) (Or.inr (by decide));simp[*] at hbn;clear hk2;(try clear hcs);(try clear hb);have hcs:=hcn;clear hcn;have hb:=hbn;clear hbn))|((with_reducible apply Wo_call (f:=52));(iterate 5 exact Z5);(apply(gput_w (l2:=[u32 fu,u32 ps.length]) hP));(focus (first|(refine GL.congr hcs ?_;intro c;simp;done)|(show GL [] _;refine⟨1,?_,?_⟩<;>simp)));(focus (first|(simp[rowsP,chunks,isDat, *];done)|(simp[rowsP,chunks,isDat, *];rfl)));(focus (first|omega|(simp[wds1,four_len,List.length_take]<;>omega)));rotate_left;(rintro _ _ h;exact h.elim);(rintro _ hp2 ⟨rfl,hcn,hk2⟩;have hbn:=hk2 0 1 0 (Nat.le_refl _) (Or.inr (by decide));simp[*] at hbn;clear hk2;(try clear hcs);(try clear hb);have hcs:=hcn;clear hcn;have hb:=hbn;clear hbn))|fail)
 refine W_loopS (n:=ps.length) (fun s0 m s=> ∃i:Nat,ps.length - i≤m∧i≤ps.length∧s.fr 1= .ptr ⟨0,1,0⟩ 1 0∧s.fr 4= .ptr ⟨0,4,0⟩ 1 0∧s.fr 5= .fn 52 [.ptr ⟨0,4,0⟩ 1 0]∧s.fr 35= .sl false 1 (ir ps)∧s.fr 36=iv ps.length∧s.fr 37=iv i∧s.hp ⟨0,1,0⟩= .box 1 [iv t,uv m0,uv m1,uv m2,uv m3,.sl false 1 (ir ps),.sl false 4 (dr4 is),iv fu] false∧GL (wds1 t m0 m1 m2 m3 fu ps++(ps.take i).map u32) s.hp) ⟨0,by omega,by omega,by simp[*],by simp[*],by simp[*],by simp[*],by simp[*],by simp,by simp[*],by simpa[wds1,four4] using hcs⟩ ?_
 clear hcs hb
 rintro m ⟨fr,hp⟩ ⟨i,hm,hi,f1,f4,f5,fsl,fln,fix,hb,hcs⟩
 simp only at f1 f4 f5 fsl fln fix hb hcs
 by_cases hlt:i<ps.length
 ·have e1:(i:Int)<ps.length:=by omega
  have hg:ps[i]?=some ps[i]:=List.getElem?_eq_getElem hlt
  have hwi:IntKind.i64.wrap ((i:Int)+1)=(i:Int)+1:=wrapN (by omega)
  have hmt:=map_take1 hg
  generalize ps[i]=q at*
  have hgr:(ir ps)[i]?=some [iv q]:=by simp[hg]
  clear hg hlt
  repeat' (first|(refine ZN ?_)|(refine Z2 ?_ ?_)|(intro h h';try simp[*,-h] at h')|((with_reducible apply Wo_call (f:=52));(iterate 5 exact Z5);(apply(gput_w (l2:=[u32 q]) hP));(focus (first|(refine GL.congr hcs ?_;intro c;simp;done)|(show GL [] _;refine⟨1,?_,?_⟩<;>simp)));(focus (first|(simp[rowsP,chunks,isDat, *];done)|(simp[rowsP,chunks,isDat, *];rfl)));(focus (first|omega|(simp[wds1,four_len,List.length_take]<;>omega)));rotate_left;(rintro _ _ h;exact h.elim);(rintro _ hp2 ⟨rfl,hcn,hk2⟩;have hbn:=hk2 0 1 0 (Nat.le_refl _) (Or.inr (by decide));simp[*] at hbn;clear hk2;(try clear hcs);(try clear hb);have hcs:=hcn;clear hcn;have hb:=hbn;clear hbn))|fail)
  exact⟨ps.length - (i+1),by omega,i+1,by omega,by omega,by simp[*],by simp[*],by simp[*],by simp[*],by simp[*],by simp[*],by simp[*],by rw[hmt,←List.append_assoc];exact hcs⟩
 have e1: ¬(i:Int)<ps.length:=by omega
 have hz:ps.take i=ps:=List.take_of_length_le (by omega)
 rw[hz] at hcs
 clear hz hm hi
 repeat' (first|(refine ZN ?_)|(refine Z2 ?_ ?_)|(intro h h';try simp[*,-h] at h')|((with_reducible apply Wo_call (f:=52));(iterate 5 exact Z5);(apply(gput_w (l2:=[u32 is.length]) hP));(focus (first|(refine GL.congr hcs ?_;intro c;simp;done)|(show GL [] _;refine⟨1,?_,?_⟩<;>simp)));(focus (first|(simp[rowsP,chunks,isDat, *];done)|(simp[rowsP,chunks,isDat, *];rfl)));(focus (first|omega|(simp[wds1,four_len,List.length_take]<;>omega)));rotate_left;(rintro _ _ h;exact h.elim);(rintro _ hp2 ⟨rfl,hcn,hk2⟩;have hbn:=hk2 0 1 0 (Nat.le_refl _) (Or.inr (by decide));simp[*] at hbn;clear hk2;(try clear hcs);(try clear hb);have hcs:=hcn;clear hcn;have hb:=hbn;clear hbn))|fail)
 refine W_loopS (n:=is.length) (fun s0 m s=> ∃i:Nat,is.length - i≤m∧i≤is.length∧s.fr 1= .ptr ⟨0,1,0⟩ 1 0∧s.fr 4= .ptr ⟨0,4,0⟩ 1 0∧s.fr 5= .fn 52 [.ptr ⟨0,4,0⟩ 1 0]∧s.fr 55= .sl false 4 (dr4 is)∧s.fr 56=iv is.length∧s.fr 57=iv i∧s.hp ⟨0,1,0⟩= .box 1 [iv t,uv m0,uv m1,uv m2,uv m3,.sl false 1 (ir ps),.sl false 4 (dr4 is),iv fu] false∧GL (wds1 t m0 m1 m2 m3 fu ps++ps.map u32++[u32 is.length]++four4 (is.take i)) s.hp) ⟨0,by omega,by omega,by simp[*],by simp[*],by simp[*],by simp[*],by simp[*],by simp,by simp[*],by simpa[wds1,four4] using hcs⟩ ?_
 clear hcs hb
 rintro m ⟨fr,hp⟩ ⟨i,hm,hi,f1,f4,f5,fsl,fln,fix,hb,hcs⟩
 simp only at f1 f4 f5 fsl fln fix hb hcs
 by_cases hlt:i<is.length
 ·have e1:(i:Int)<is.length:=by omega
  have hg:is[i]?=some is[i]:=List.getElem?_eq_getElem hlt
  have hwi:IntKind.i64.wrap ((i:Int)+1)=(i:Int)+1:=wrapN (by omega)
  have hmt:=four_take hg
  generalize is[i]=q at*
  obtain⟨q0,q1,q2,q3⟩:=q
  have hgr:(dr4 is)[i]?=some [uv q0,uv q1,uv q2,uv q3]:=by simp[hg]
  clear hg hlt
  repeat' (first|(refine ZN ?_)|(refine Z2 ?_ ?_)|(intro h h';try simp[*,-h] at h')|((with_reducible apply Wo_call (f:=52));(iterate 5 exact Z5);(apply(gput_w (l2:=[q0,q1,q2,q3]) hP));(focus (first|(refine GL.congr hcs ?_;intro c;simp;done)|(show GL [] _;refine⟨1,?_,?_⟩<;>simp)));(focus (first|(simp[rowsP,chunks,isDat, *];done)|(simp[rowsP,chunks,isDat, *];rfl)));(focus (first|omega|(simp[wds1,four_len,List.length_take]<;>omega)));rotate_left;(rintro _ _ h;exact h.elim);(rintro _ hp2 ⟨rfl,hcn,hk2⟩;have hbn:=hk2 0 1 0 (Nat.le_refl _) (Or.inr (by decide));simp[*] at hbn;clear hk2;(try clear hcs);(try clear hb);have hcs:=hcn;clear hcn;have hb:=hbn;clear hbn))|fail)
  exact⟨is.length - (i+1),by omega,i+1,by omega,by omega,by simp[*],by simp[*],by simp[*],by simp[*],by simp[*],by simp[*],by simp[*],by rw[hmt,←List.append_assoc];exact hcs⟩
 have e1: ¬(i:Int)<is.length:=by omega
 have hz:is.take i=is:=List.take_of_length_le (by omega)
 rw[hz] at hcs
 clear hz hm hi
 change GL (wds t m0 m1 m2 m3 fu ps is) hp at hcs
 generalize wds t m0 m1 m2 m3 fu ps is=V at*
 obtain⟨gg,b0,b1⟩:=hcs
 have tk:(rowU V).take V.length=rowU V:=List.take_of_length_le (by simp)
 have z1:g.size≤9223372036854775806:=by omega
 have z2:1+g.size≤9223372036854775807:=by omega
 have z3:(⟨#[82]⟩:ByteArray).size+g.size≤9223372036854775807:=by show 1+g.size≤_;omega
 repeat' (first|(refine ZN ?_)|(refine Z2 ?_ ?_)|(intro h h';try simp[*,-h] at h'))
 all_goals rfl
end
section
open Go Go.Ab
attribute [-simp] Prog.bind getCs putCs
attribute [local simp ↓] run_bind
attribute [local simp ↓] runF_bind
attribute [local simp] run_getCsN runF_getCsN runF_putCsN facetsC facetsW facetsH putCs_one run_putCsN
theorem rof1_no {X:Orc}(hX: ∀a,X.dat 12 a=none)(t m0 m1 m2 m3 fu:Int)(ps:List Int)(is:List I4)(hp:(lim Tryz.prog E6 X).dat 32 [rcp t m0 m1 m2 m3 fu ps is]=some [tv ⟨#[]⟩,iv 1]):(lim Tryz.prog E6 X).dat 12 [rcp t m0 m1 m2 m3 fu ps is]=some [.agg [uv 0,uv 0,uv 0,uv 0],iv 1]:=by
 refine fnW (P:=Tryz.prog) (E:=E6) (X:=X) Tryz.func12 (hX _) rfl bodyOk_12 rfl rtys_12 rvs_12 ?_
 repeat' (first|(refine ZN ?_)|(refine Z2 ?_ ?_)|(intro h h';try simp[*,-h] at h'))
 all_goals rfl
theorem rof1_w {X:Orc}(hX: ∀a,X.dat 12 a=none)(t m0 m1 m2 m3 fu:Int)(ps:List Int)(is:List I4)(g:ByteArray)(a0 a1 a2 a3:Int)(b0 b1 b2 b3 c0 c1 c2 c3:Int)(hp:(lim Tryz.prog E6 X).dat 32 [rcp t m0 m1 m2 m3 fu ps is]=some [tv g,iv 0])(hA:(lim Tryz.prog E6 X).dat 34 [tv g]=some [.agg [uv b0,uv b1,uv b2,uv b3]])(hB:(lim Tryz.prog E6 X).dat 34 [tv ⟨#[114,101,99,105,112,101]⟩]=some [.agg [uv c0,uv c1,uv c2,uv c3]])(hC:(lim Tryz.prog E6 X).dat 33 [.agg [uv b0,uv b1,uv b2,uv b3],.agg [uv c0,uv c1,uv c2,uv c3]]=some [.agg [uv a0,uv a1,uv a2,uv a3]]):(lim Tryz.prog E6 X).dat 12 [rcp t m0 m1 m2 m3 fu ps is]=some [.agg [uv a0,uv a1,uv a2,uv a3],iv 0]:=by
 refine fnW (P:=Tryz.prog) (E:=E6) (X:=X) Tryz.func12 (hX _) rfl bodyOk_12 rfl rtys_12 rvs_12 ?_
 repeat' (first|(refine ZN ?_)|(refine Z2 ?_ ?_)|(intro h h';try simp[*,-h] at h'))
 all_goals rfl
theorem lof1_w {X:Orc}(hX: ∀a,X.dat 13 a=none)(x0 x1 x2 x3 y0 y1 y2 y3 b0 b1 b2 b3 c0 c1 c2 c3 a0 a1 a2 a3:Int)(g h:ByteArray)(hg:g.size≤1000000)(hh:h.size≤1000000)(h1:(lim Tryz.prog E6 X).dat 35 [.sl false 1 [[uv x0],[uv x1],[uv x2],[uv x3]]]=some [tv g])(h2:(lim Tryz.prog E6 X).dat 35 [.sl false 1 [[uv y0],[uv y1],[uv y2],[uv y3]]]=some [tv h])(hA:(lim Tryz.prog E6 X).dat 34 [tv (g++h)]=some [.agg [uv b0,uv b1,uv b2,uv b3]])(hB:(lim Tryz.prog E6 X).dat 34 [tv ⟨#[108,105,110,107]⟩]=some [.agg [uv c0,uv c1,uv c2,uv c3]])(hC:(lim Tryz.prog E6 X).dat 33 [.agg [uv b0,uv b1,uv b2,uv b3],.agg [uv c0,uv c1,uv c2,uv c3]]=some [.agg [uv a0,uv a1,uv a2,uv a3]]):(lim Tryz.prog E6 X).dat 13 [.agg [uv x0,uv x1,uv x2,uv x3,uv y0,uv y1,uv y2,uv y3]]=some [.agg [uv a0,uv a1,uv a2,uv a3]]:=by
 refine fnW (P:=Tryz.prog) (E:=E6) (X:=X) Tryz.func13 (hX _) rfl bodyOk_13 rfl rtys_13 rvs_13 ?_
 have z1:g.size+h.size≤9223372036854775807:=by omega
 repeat' (first|(refine ZN ?_)|(refine Z2 ?_ ?_)|(intro h h';try simp[*,-h] at h'))
 all_goals rfl
end
section
open Go Go.Ab
attribute [-simp] Prog.bind getCs putCs
attribute [local simp ↓] run_bind
attribute [local simp ↓] runF_bind
attribute [local simp] run_getCsN runF_getCsN runF_putCsN facetsC facetsW facetsH putCs_one run_putCsN
theorem rel1_no {X:Orc}(hX: ∀a,X.dat 6 a=none)(t m0 m1 m2 m3 fu:Int)(ps:List Int)(is:List I4)(p0 p1 p2 p3 y0 y1 y2 y3:Int)(k1 k2 k3 k4:Int)(d0 d1 d2 d3 e0 e1 e2 e3:Int)(P1 P2 S1 S2:List (List AV))(g1 g2 g3 g4:ByteArray)(n1 f0 f1 f2 f3:Int)(ws:Nat)(hr:(lim Tryz.prog E6 X).dat 12 [rcp t m0 m1 m2 m3 fu ps is]=some [.agg [uv 0,uv 0,uv 0,uv 0],iv 1]):(lim Tryz.prog E6 X).dat 6 [.agg [uv p0,uv p1,uv p2,uv p3,uv y0,uv y1,uv y2,uv y3,iv k1,.sl false 1 P1,tv g1,iv k2,uv d0,uv d1,uv d2,uv d3,tv g2,iv k3,.sl false 1 P2,tv g3,iv k4,uv e0,uv e1,uv e2,uv e3,tv g4,iv t,uv m0,uv m1,uv m2,uv m3,.sl false 1 (ir ps),.sl false 4 (dr4 is),iv fu,.sl false ws S1,iv n1,uv f0,uv f1,uv f2,uv f3,.sl false ws S2]]=some [.agg [uv 0,uv 0,uv 0,uv 0],iv 1]:=by
 refine fnW (P:=Tryz.prog) (E:=E6) (X:=X) Tryz.func6 (hX _) rfl bodyOk_6 rfl rtys_6 rvs_6 ?_
 repeat' (first|(refine ZN ?_)|(refine Z2 ?_ ?_)|(intro h h';try simp[*,-h] at h'))
 all_goals rfl
theorem rel1_w {X:Orc}(hX: ∀a,X.dat 6 a=none)(t m0 m1 m2 m3 fu:Int)(ps:List Int)(is:List I4)(p0 p1 p2 p3 y0 y1 y2 y3:Int)(k1 k2 k3 k4:Int)(d0 d1 d2 d3 e0 e1 e2 e3:Int)(P1 P2 S1 S2:List (List AV))(g1 g2 g3 g4:ByteArray)(n1 f0 f1 f2 f3:Int)(ws:Nat)(b0 b1 b2 b3 a0 a1 a2 a3:Int)(hr:(lim Tryz.prog E6 X).dat 12 [rcp t m0 m1 m2 m3 fu ps is]=some [.agg [uv b0,uv b1,uv b2,uv b3],iv 0])(hl:(lim Tryz.prog E6 X).dat 13 [.agg [uv b0,uv b1,uv b2,uv b3,uv y0,uv y1,uv y2,uv y3]]=some [.agg [uv a0,uv a1,uv a2,uv a3]]):(lim Tryz.prog E6 X).dat 6 [.agg [uv p0,uv p1,uv p2,uv p3,uv y0,uv y1,uv y2,uv y3,iv k1,.sl false 1 P1,tv g1,iv k2,uv d0,uv d1,uv d2,uv d3,tv g2,iv k3,.sl false 1 P2,tv g3,iv k4,uv e0,uv e1,uv e2,uv e3,tv g4,iv t,uv m0,uv m1,uv m2,uv m3,.sl false 1 (ir ps),.sl false 4 (dr4 is),iv fu,.sl false ws S1,iv n1,uv f0,uv f1,uv f2,uv f3,.sl false ws S2]]=some [.agg [uv a0,uv a1,uv a2,uv a3],iv 0]:=by
 refine fnW (P:=Tryz.prog) (E:=E6) (X:=X) Tryz.func6 (hX _) rfl bodyOk_6 rfl rtys_6 rvs_6 ?_
 repeat' (first|(refine ZN ?_)|(refine Z2 ?_ ?_)|(intro h h';try simp[*,-h] at h'))
 all_goals rfl
end
section
open Go Go.Ab
theorem mixed6 :Tryz.prog.follows .mixedOrders=true:=by kernel_rfl
theorem E6_law :ELaw Tryz.prog E6:=by
 refine⟨fun t ht w x y us vs b h1 h2 h=>?_,fun _=>rfl⟩
 simp only[E6_eq,beq_iff_eq] at ht
 subst ht
 exact array_law (by kernel_rfl) (by kernel_rfl) (by kernel_rfl) w x y us vs b h1 h2 h
theorem L46r_ok :OrcOk Tryz.prog (Lm X46):=lim_ok mixed6 ⟨fun t h=>by simp at h,fun _=>rfl⟩ ⟨(fun f a rs h=>nomatch h),(fun k d f a hp v hp' h=>nomatch h)⟩
theorem row_inj {p q:Q.D4}(h:p.row=q.row):p=q:=by
 cases p;cases q;simpa[Q.D4.row] using h
theorem rowW_inj : ∀{l m:List Int},Q.rowW l=Q.rowW m→l=m
 |[],[],_=>rfl
 |[],_::_,h=>by simp at h
 |_::_,[],h=>by simp at h
 |a::l,b::m,h=>by
  simp only[List.map_cons,List.cons.injEq] at h
  obtain⟨h1,h2⟩:=h
  rw[rowW_inj h2]
  simp at h1
  rw[h1]
def Rd6 (f:Nat)(a r:List AV):Prop:=(f=5∧a=[]∧r=[bv true])∨(∃s,a=[tv s]∧(f=28∨f=34)∧r=[.agg (Q.ofP s).row])∨(∃p q:Q.D4,a=[.agg p.row,.agg q.row]∧(f=33∨f=37)∧r=[.agg (Q.pairP p q).row])∨(∃l,a=[.sl false 1 (Q.rowW l)]∧(f=35∨f=57)∧r=[tv (Q.txtW l)])
noncomputable def X6 :Orc:=semX Tryz.prog Rd6 (fun _ _ _ _ _ _=>False)
theorem X6_ok :OrcOk Tryz.prog X6:=semX_ok _ _ _
noncomputable abbrev L6 :Orc:=lim Tryz.prog E6 X6
theorem L6_ok :OrcOk Tryz.prog L6:=lim_ok mixed6 E6_law X6_ok
theorem x6_of {f:Nat}{a r:List AV}(h:SemD Tryz.prog f a r)(hr:Rd6 f a r)(hu: ∀r',Rd6 f a r'→r'=r):L6.dat f a=some r:=by
 obtain⟨r',h1,h2⟩:=semX_dat (Rd:=Rd6) (Rh:=fun _ _ _ _ _ _=>False) h hr
 rw[hu r' h2] at h1
 exact lim_base_dat h1
theorem X6_no {f:Nat}(a:List AV)(h:f≠5∧f≠28∧f≠34∧f≠33∧f≠37∧f≠35∧f≠57):X6.dat f a=none:=by
 refine semX_dat_none fun r hr=>?_
 obtain⟨h1,h2,h3,h4,h5,h6,h7⟩:=h
 rcases hr with⟨e,_⟩|⟨s,_,e|e,_⟩|⟨p,q,_,e|e,_⟩|⟨l,_,e|e,_⟩
 all_goals first|exact h1 e|exact h2 e|exact h3 e|exact h4 e|exact h5 e|exact h6 e|exact h7 e
theorem X6_hno (k d f:Nat)(a:List AV)(hp:Hp):X6.hpc k d f a hp=none:=semX_hpc_none fun _ _ h=>h
theorem x6_s {f:Nat}{s:ByteArray}{r':List AV}(h:Rd6 f [tv s] r'):r'=[.agg (Q.ofP s).row]:=by
 rcases h with⟨_,h,_⟩|⟨s',h,_,rfl⟩|⟨p,q,h,_⟩|⟨l,h,_⟩
 ·simp at h
 ·simp at h;rw[h]
 ·simp at h
 ·simp at h
theorem x6_p {f:Nat}{p q:Q.D4}{r':List AV}(h:Rd6 f [.agg p.row,.agg q.row] r'):r'=[.agg (Q.pairP p q).row]:=by
 rcases h with⟨_,h,_⟩|⟨s',h,_,rfl⟩|⟨p',q',h,_,rfl⟩|⟨l,h,_⟩
 ·simp at h
 ·simp at h
 ·injection h with h1 h2
  injection h2 with h2 _
  injection h1 with h1
  injection h2 with h2
  rw[row_inj h1,row_inj h2]
 ·simp at h
theorem x6_w {f:Nat}{l:List Int}{r':List AV}(h:Rd6 f [.sl false 1 (Q.rowW l)] r'):r'=[tv (Q.txtW l)]:=by
 rcases h with⟨_,h,_⟩|⟨s',h,_,rfl⟩|⟨p',q',h,_,rfl⟩|⟨m,h,_,rfl⟩
 ·simp at h
 ·simp at h
 ·simp at h
 ·injection h with h1 h2
  injection h1 with _ _ h1
  rw[rowW_inj h1]
theorem x6_dig (s:ByteArray)(hs:s.size≤1000000):L6.dat 34 [tv s]=some [.agg (Q.ofP s).row]:=x6_of (L46r_ok.1 _ _ _ (Q.d34 s hs)) (.inr (.inl ⟨s,rfl,.inr rfl,rfl⟩)) fun _ h=>x6_s h
theorem x6_pair (p q:Q.D4):L6.dat 33 [.agg p.row,.agg q.row]=some [.agg (Q.pairP p q).row]:=x6_of (L46r_ok.1 _ _ _ (Q.d33 p q)) (.inr (.inr (.inl ⟨p,q,rfl,.inl rfl,rfl⟩))) fun _ h=>x6_p h
theorem x6_word (l:List Int)(hl:l.length≤1048576)(hU: ∀x∈l,Q.U x):L6.dat 35 [.sl false 1 (rowU l)]=some [tv (Q.txtW l)]:=x6_of (L46r_ok.1 _ _ _ (Q.d26 l hl hU)) (.inr (.inr (.inr ⟨l,rfl,.inl rfl,rfl⟩))) fun _ h=>x6_w h
theorem u32_U (x:Int):Q.U (u32 x):=by
 unfold Q.U u32
 rw[IntKind.wrap_u32];omega
theorem wds_U {t m0 m1 m2 m3 fu:Int}{ps:List Int}{is:List I4}(hm:Q.U m0∧Q.U m1∧Q.U m2∧Q.U m3)(hi: ∀x∈is,Q.U x.1∧Q.U x.2.1∧Q.U x.2.2.1∧Q.U x.2.2.2): ∀x∈wds t m0 m1 m2 m3 fu ps is,Q.U x:=by
 intro x hx
 simp only[wds,wds1,List.mem_append,List.mem_cons,List.not_mem_nil,or_false,List.mem_map] at hx
 obtain⟨h0,h1,h2,h3⟩:=hm
 rcases hx with((hx|⟨y,_,rfl⟩)|rfl)|hx
 ·rcases hx with rfl|rfl|rfl|rfl|rfl|rfl|rfl
  ·exact u32_U _
  ·exact h0
  ·exact h1
  ·exact h2
  ·exact h3
  ·exact u32_U _
  ·exact u32_U _
 ·exact u32_U _
 ·exact u32_U _
 ·unfold four4 at hx
  obtain⟨y,hy,hx⟩:=List.mem_flatMap.1 hx
  obtain⟨g0,g1,g2,g3⟩:=hi y hy
  simp only[List.mem_cons,List.not_mem_nil,or_false] at hx
  rcases hx with rfl|rfl|rfl|rfl<;>assumption
theorem wds_len (t m0 m1 m2 m3 fu:Int)(ps:List Int)(is:List I4):(wds t m0 m1 m2 m3 fu ps is).length=8+ps.length+4*is.length:=by
 unfold wds wds1
 simp[four_len]
 omega
theorem mix_U (s:Q.S8):Q.U (Q.mixN 8 s).a0∧Q.U (Q.mixN 8 s).a1∧Q.U (Q.mixN 8 s).a2∧Q.U (Q.mixN 8 s).a3:=by
 show Q.U (Q.rnd 7 (Q.mixN 7 s)).a0∧Q.U (Q.rnd 7 (Q.mixN 7 s)).a1∧Q.U (Q.rnd 7 (Q.mixN 7 s)).a2∧Q.U (Q.rnd 7 (Q.mixN 7 s)).a3
 exact⟨Q.wrap_U32 _,Q.turnP_U (Q.xorW_U _ _) 7 (by decide),Q.turnP_U (Q.xorW_U _ _) 9 (by decide),Q.turnP_U (Q.xorW_U _ _) 13 (by decide)⟩
theorem pair_U (a b:Q.D4):Q.U (Q.pairP a b).d0∧Q.U (Q.pairP a b).d1∧Q.U (Q.pairP a b).d2∧Q.U (Q.pairP a b).d3:=mix_U _
end
end Go.Proofs.YtpedpkegmalgmaaGreatDoor
