/- A part of the proof: Wi, Wj, Wk, Wa, Wd, Wb, I0, I1, I3, I4, I5, I6, I7, I8, I9, I10. -/
import Derived.Test.YtpedpkegmalgmaaGreatDoorV15
import Derived.RangeFuncBox
import Derived.RangeFuncLeaves
import Derived.Shelf.Abstract
import Derived.WalkKit
import Derived.OwnWalkIn
import Derived.TacticsInMore
import Derived.LoopNIn
import Derived.LoopIn
import Derived.Test.YtpedpkegmalgmaaGreatDoorV11
import Derived.Test.YtpedpkegmalgmaaGreatDoorV10
import Derived.Test.YtpedpkegmalgmaaGreatDoorV12
import Derived.Lib.Hide
import Derived.Test.YtpedpkegmalgmaaGreatDoorV04
set_option linter.unusedSimpArgs false
set_option linter.unusedVariables false
set_option maxRecDepth 200000
set_option maxHeartbeats 8000000
namespace Go.Proofs.YtpedpkegmalgmaaGreatDoor
section
open Go Go.Ab Go.Ab.Sy
def RR (hp:Hp)(gp:Nat)(v:AV)(hp':Hp):Prop:= ∃a e:Int,v= .tup [iv a,iv e]∧((e=0∧ ∃p:Sy.Pr,p.size≤20000∧hp' ⟨0,5,0⟩= .box gp p.row false)∨(0<e∧ ∃cells,hp' ⟨0,5,0⟩= .box gp cells false))∧ ∀i c,(⟨0,i,c⟩:Nm)≠⟨0,5,0⟩→hp' ⟨0,i,c⟩=hp ⟨0,i,c⟩
def Fresh1 (s:ByteArray)(gp:Nat)(hp:Hp):Prop:=s=s1∧gp=1∧(∀c,hp ⟨1,25,c⟩= .no 0)∧ ∀d i c,hp ⟨d+2,i,c⟩= .no 0
def RX (s:ByteArray)(hp:Hp)(gp:Nat)(v:AV)(hp':Hp):Prop:=RR hp gp v hp'∧(Fresh1 s gp hp→v= .tup [iv 0,iv 0]∧hp' ⟨0,5,0⟩= .box gp x1.row false)
theorem read_start {s:ByteArray}{gp:Nat}{hp:Hp}{I K:Nat→Prop}{m:Mp}{w:World}{us:List Value}(G:Gam I K m hp w)(ha:AllR (Rep 0 I m hp w) [tv s,.fn 118 [.ptr ⟨0,5,0⟩ gp 0]] us):
  StR 1 41 K ⟨I,m,hp,w,[]⟩ ⟨frame0 [tv s,.fn 118 [.ptr ⟨0,5,0⟩ gp 0]],hp⟩ {tmps:=(⟨us⟩:Array Value)++Array.replicate (Tryz.f117.ntmps - (⟨us⟩:Array Value).size) undef,defers:=[]} w:=by
 have hl:us.length=2:=by rw[←ha.1];rfl
 have hn:Tryz.f117.ntmps=41:=rfl
 refine⟨I,m,G,.refl _ _ _ _ _,fun t=>frame_ok (ha.imp fun a u h=>Rep.depth (Nat.le_succ 0) a u h) t,?_,rfl⟩
 simp only[Array.size_append,List.size_toArray,Array.size_replicate,hn]
 omega
theorem read_slots {c0 c1 c2 c3 d5 d6 d7 d8 d9:Code}{x:Operand}(hb:Tryz.f117.body=some (.seq c0 (.seq c1 (.seq c2 (.seq c3 (.seq d5 (.seq d6 (.seq (.seq d7 (.cond x d8 .skip)) (.seq d9 .ret))))))))):(∀c∈[c0,c1,c2],slotsIn 41 c=true)∧slotsIn 41 d5=true∧slotsIn 41 d6=true∧slotsIn 41 d7=true∧slotsIn 41 d8=true∧slotsIn 41 (.seq d9 .ret)=true:=by
 have h:slotsIn 41 (.seq c0 (.seq c1 (.seq c2 (.seq c3 (.seq d5 (.seq d6 (.seq (.seq d7 (.cond x d8 .skip)) (.seq d9 .ret))))))))=true:=by
  have h0:(match Tryz.f117.body with|some c=>slotsIn 41 c|none=>false)=true:=by kernel_rfl
  rw[hb] at h0
  exact h0
 simp only[slotsIn,Bool.and_eq_true] at h
 obtain⟨a0,a1,a2,a3,a5,a6,⟨a7,⟨_,a8⟩,_⟩,a9⟩:=h
 refine⟨?_,a5,a6,a7,a8,?_⟩
 ·intro c hc
  simp only[List.mem_cons,List.not_mem_nil,or_false] at hc
  rcases hc with rfl|rfl|rfl<;>assumption
 ·simp only[slotsIn,a9.1,Bool.and_self,Bool.true_and]
theorem read_uncut {c0 c1 c2 c3 d5 d6 d7 d8 d9:Code}{x:Operand}(hb:Tryz.f117.body=some (.seq c0 (.seq c1 (.seq c2 (.seq c3 (.seq d5 (.seq d6 (.seq (.seq d7 (.cond x d8 .skip)) (.seq d9 .ret))))))))){s:ByteArray}{gp:Nat}{hp hp':Hp}{v:AV}{s1:AS}
  (hW:Wch Tryz.prog E47 1 (Lm X46) (fun e1 s2=>e1= .ret∧s2=s1) (fun s2=>s2=s1∧Ab.Ex.ret= .normal) [c0,c1,c2] ⟨frame0 [tv s,.fn 118 [.ptr ⟨0,5,0⟩ gp 0]],hp⟩)
  (hl:(lowerRes Tryz.prog s1.fr 0 0 [.cell 4 3,.cell 5 38]).run s1.hp=some (v,hp')):SemH Tryz.prog 0 117 [tv s,.fn 118 [.ptr ⟨0,5,0⟩ gp 0]] hp v hp':=by
 intro hok I K m w us G ha
 refine calls_of_wp_defers Tryz.func117 hb ?_
 refine Wch.wp mixed47 E47_law Lm46_ok (fun s2 a' w' h=>nomatch h.2) (fun e s2 a' w' hne h S=>?_) (fun v hp' a' w' h=>nomatch h.1) [c0,c1,c2] hW (read_slots hb).1 (read_start G ha)
 obtain⟨rfl,rfl⟩:=h
 obtain⟨I1,m1,G1,E1,hf1,_,hd1⟩:=S
 obtain⟨us',hrun,I2,m2,G2,E2,R2⟩:=lowerRes_ok (k:=0) G1 hf1 hl
 show Leaves _ _ _ _ a'.defers .returning w'
 rw[hd1]
 exact⟨retV us',run_results _ _ us' (by rw[rs_read];exact hrun),retV us',rfl,I2,m2,G2,E1.trans E2,R2⟩
def offD (p q:Value):Deferred:={target:= .fn (.func 136) #[p,q],args:= #[]}
theorem off_inv (p q:Value)(w:World):(invoke (.fn (.func 136) #[p,q]) #[]).run Tryz.prog w= .ok (.enter 136 #[p,q]) w:=by
 simp[go_sem]
theorem leave_ret {K:Nat→Prop}{I:Nat→Prop}{m:Mp}{hp hq:Hp}{w w':World}{fr:Nat→AV}{act:Act}{p q:Addr}{a e:Int}{g4 g5:Nat}(S:StR 1 41 K ⟨I,m,hp,w,[offD (.pointer (some p)) (.pointer (some q))]⟩ ⟨fr,hq⟩ act w')(f4:fr 4= .ptr ⟨1,4,0⟩ g4 0)(b4:hq ⟨1,4,0⟩= .box g4 [iv a] false)(f5:fr 5= .ptr ⟨1,5,0⟩ g5 0)(b5:hq ⟨1,5,0⟩= .box g5 [iv e] false):
  Leaves Tryz.prog Tryz.f117 act.tmps (fun e' w''=> ∃u,e'= .returned u∧ ∃I' m',Sim I' K m' hq w'' (.tup [iv a,iv e]) 0 I m hp w u) act.defers .returning w':=by
 obtain⟨v,hv,hS⟩:=read_end S f4 b4 f5 b5
 obtain⟨_,_,_,_,_,_,hd⟩:=S
 rw[hd]
 refine leaves_cons (f:=136) (args:= #[.pointer (some p),.pointer (some q)]) (by simp) (off_inv _ _ _) ?_
 refine(catch_idle p q w').mono ?_
 rintro e1 u' w1 ⟨rfl,rfl,rfl⟩
 exact⟨v,hv,v,rfl,hS⟩
theorem leave_pan {K:Nat→Prop}{I:Nat→Prop}{m:Mp}{hp hq:Hp}{w w':World}{fr:Nat→AV}{act:Act}{p q:Value}{a:Int}{g4 g5:Nat}{x4 x5:AV}(S:StR 1 41 K ⟨I,m,hp,w,[offD p q]⟩ ⟨fr,hq⟩ act w')(f4:fr 4= .ptr ⟨1,4,0⟩ g4 0)(b4:hq ⟨1,4,0⟩= .box g4 [x4] false)(f5:fr 5= .ptr ⟨1,5,0⟩ g5 0)(b5:hq ⟨1,5,0⟩= .box g5 [x5] false)
  (hp4: ∀I1 m1,Gam I1 K m1 hq w'→Ext I K m hp w I1 m1 hq w'→Rep 1 I1 m1 hq w' (.ptr ⟨1,4,0⟩ g4 0) p∧Rep 1 I1 m1 hq w' (.ptr ⟨1,5,0⟩ g5 0) q):
  Leaves Tryz.prog Tryz.f117 act.tmps (fun e' w''=> ∃u,e'= .returned u∧ ∃I' m',Sim I' K m' (catchHp a g4 g5 hq) w'' (.tup [iv a,iv 3]) 0 I m hp w u) act.defers (.panicking (panE (wrongV a))) w':=by
 obtain⟨I1,m1,G1,E1,hf,hs,hd⟩:=S
 rw[hd]
 refine leaves_cons (f:=136) (args:= #[p,q]) (by simp) (off_inv _ _ _) ?_
 refine(catch_wrong G1 (hp4 I1 m1 G1 E1).1 (hp4 I1 m1 G1 E1).2 b4 b5).mono ?_
 rintro e1 u' w1 ⟨rfl,rfl,I',m',G',E'⟩
 obtain⟨v,hv,hS⟩:=read_end (N:=41) (B:=⟨I,m,hp,w,[offD p q]⟩) (a:=a) (e:=3) (S:=⟨I',m',G',E1.trans E',fun t=>Rep.mono E' _ _ _ (hf t),hs,hd⟩) f4 rfl f5 rfl
 exact⟨v,hv,v,rfl,hS⟩
theorem read_x {K:Nat→Prop}{B:Base}{st:AS}{a:Act}{w:World}{x:Operand}{b t:Bool}(S:StR 1 41 K B st a w)(h:opA st.fr x=bv b)(hb:b=t):a.eval x= .bool t:=by
 obtain⟨I,m,G,_,hf,_,_⟩:=S
 have:=opA_ok G hf x
 rw[h,hb] at this
 simpa[Rep] using this
theorem read_body {c0 c1 c2 c3 d5 d6 d7 d8 d9:Code}{x:Operand}(hb:Tryz.f117.body=some (.seq c0 (.seq c1 (.seq c2 (.seq c3 (.seq d5 (.seq d6 (.seq (.seq d7 (.cond x d8 .skip)) (.seq d9 .ret))))))))){s:ByteArray}{T:List Tok}{gp g4 g5:Nat}{hp:Hp}{st:AS}{c1v c2v c3v:AV}(hT:T.length≤20000)(h:RH s T gp g4 g5 hp st)(hbx:hp ⟨0,5,0⟩= .box gp [c1v,c2v,c3v] false):
  ∃v hp',RX s hp gp v hp'∧ ∀(I K:Nat→Prop) (m:Mp) (w:World) (act:Act) (p q:Addr),StR 1 41 K ⟨I,m,st.hp,w,[offD (.pointer (some p)) (.pointer (some q))]⟩ st act w→Rep 1 I m st.hp w (st.fr 4) (.pointer (some p))→Rep 1 I m st.hp w (st.fr 5) (.pointer (some q))→
   (Code.seq d5 (.seq d6 (.seq (.seq d7 (.cond x d8 .skip)) (.seq d9 .ret)))).wp Tryz.prog (bodyPostD Tryz.prog Tryz.f117 (fun e' w''=> ∃u,e'= .returned u∧ ∃I' m',Sim I' K m' hp' w'' v 0 I m st.hp w u)) act w:=by
 obtain⟨e5,s5,hW5,rfl,gx,gy,hRT,hgx,hgy,hup⟩:=W.pick (read_d5 hb hT h)
 have hq5:s5.hp ⟨0,5,0⟩= .box gp [c1v,c2v,c3v] false:=(hRT.low 5 0).trans hbx
 have hx:Fresh1 s gp hp→ ∃hp2,(Lm X46).hpc 1 28 118 [.ptr ⟨1,25,0⟩ gx 0,.ptr ⟨0,5,0⟩ gp 0] s5.hp=some (.tup [],hp2)∧hp2 ⟨0,5,0⟩= .box gp x1.row false∧ ∃e:Int,hp2 ⟨1,25,0⟩= .box gx [.own ⟨1,25,1⟩ gy T.length,iv T.length,iv e] false:=by
  rintro⟨hs,hgp,f1,f2⟩
  have hT1:=(h.lx hs).1
  have hl:T.length=16:=by have:=congrArg List.length hT1;simpa[T1] using this
  have hrd:=hRT.rd
  have hss:(s.size:Int)=35:=by rw[hs];rfl
  rw[hss] at hrd
  have hgx1:gx=1:=by rw[hgx,f1];rfl
  have hgy1:gy=1:=by rw[hgy,f1];rfl
  subst hgp
  rw[hgx1,hgy1] at hrd
  obtain⟨hp2,h1,h2,h3⟩:=closure_x hT1 hrd hq5 (fun d i c=>(hup d i c).trans (f2 d i c))
  rw[hgx1,hgy1,hl]
  exact⟨hp2,h1,h2,35,h3⟩
 rcases closure_w 28 s5.hp hRT.rd hq5 with⟨v,hp2,hc,hr⟩|⟨nn,v,hp',hc,⟨a,rfl⟩,hfar⟩
 ·obtain⟨pr,n,hr⟩: ∃pr n,RC1 T s.size gx gy gp s5.hp v hp2 pr n:=by
   obtain⟨h1,x,n,h2⟩:=hr
   exact⟨x,n,h1,h2⟩
  have hps:=hr.2.2.1
  have hx2:Fresh1 s gp hp→pr.row=x1.row∧n=T.length:=by
   intro hF
   obtain⟨hp3,c3,b3,e3,r3⟩:=hx hF
   rw[hc] at c3
   obtain rfl:hp2=hp3:=congrArg Prod.snd (Option.some.inj c3)
   have h6:=hr.2.1
   rw[b3] at h6
   have h7:=hr.2.2.2.1.box
   rw[r3] at h7
   simp only[AObj.box.injEq,true_and,and_true] at h6
   simp only[AObj.box.injEq,List.cons.injEq,AV.sc.injEq,Value.int.injEq,true_and,and_true] at h7
   exact⟨h6.symm,by omega⟩
  obtain⟨e6,s6,hW6,rfl,hRQ⟩:=W.pick (read_d6 hb hRT hc hr)
  obtain⟨e7,s7,hW7,rfl,hx7,hRQ7⟩:=W.pick (read_d7 hb hRQ)
  by_cases hn:n<T.length
  ·rcases fail 1 (by omega) 40 s7.hp hRQ7.rd with⟨v,hp2,_,h1⟩|⟨nn,v,hp',h1,⟨a,rfl⟩,hfar⟩
   ·exact h1.elim
   obtain⟨f4,b4⟩:=hRQ7.f4
   obtain⟨f5,b5⟩:=hRQ7.f5
   refine⟨.tup [iv a,iv 3],catchHp a g4 g5 hp',⟨⟨a,3,rfl,.inr ⟨by decide,_,((hfar 0 5 0 (by omega) (by simp)).trans hRQ7.bx)⟩,fun i c hne=>(hfar 0 i c (by omega) (by simp)).trans (hRQ7.low i c hne)⟩,fun hF=>absurd hn (by have:=(hx2 hF).2;omega)⟩,?_⟩
   intro I K m w act p q S hp4 hp5
   refine wp_seq (W.wp mixed47 E47_law Lm46_ok hW5 (read_slots hb).2.1 S (fun e s2 a' w' hh S'=>?_) (fun v hp' a' w' h=>nomatch h.1))
   obtain⟨rfl,rfl⟩:=hh
   refine wp_seq (W.wp mixed47 E47_law Lm46_ok hW6 (read_slots hb).2.2.1 S' (fun e s2 a' w' hh S'=>?_) (fun v hp' a' w' h=>nomatch h.1))
   obtain⟨rfl,rfl⟩:=hh
   refine wp_seq (wp_seq (W.wp mixed47 E47_law Lm46_ok hW7 (read_slots hb).2.2.2.1 S' (fun e s2 a' w' hh S'=>?_) (fun v hp' a' w' h=>nomatch h.1)))
   obtain⟨rfl,rfl⟩:=hh
   refine wp_cond_true (read_x S' hx7 (by simp[hn])) (read_d8p hb rfl hRQ7 h1 S' fun fr a2 w2 e4 e5 S2=>?_)
   exact leave_pan S2 (e4.trans f4) ((hfar 1 4 0 (by omega) (by simp)).trans b4) (e5.trans f5) ((hfar 1 5 0 (by omega) (by simp)).trans b5) (fun I1 m1 _ E1=>⟨Rep.mono E1 _ _ _ (h.f4.1▸hp4),Rep.mono E1 _ _ _ (h.f5.1▸hp5)⟩)
  ·obtain⟨e9,s9,hW9,rfl,hRQ9⟩:=W.pick (read_d9 hb hRQ7)
   refine⟨.tup [iv 0,iv 0],s9.hp,⟨⟨0,0,rfl,.inl ⟨rfl,pr,by omega,hRQ9.bx⟩,hRQ9.low⟩,fun hF=>⟨rfl,by rw[←(hx2 hF).1];exact hRQ9.bx⟩⟩,?_⟩
   intro I K m w act p q S hp4 hp5
   refine wp_seq (W.wp mixed47 E47_law Lm46_ok hW5 (read_slots hb).2.1 S (fun e s2 a' w' hh S'=>?_) (fun v hp' a' w' h=>nomatch h.1))
   obtain⟨rfl,rfl⟩:=hh
   refine wp_seq (W.wp mixed47 E47_law Lm46_ok hW6 (read_slots hb).2.2.1 S' (fun e s2 a' w' hh S'=>?_) (fun v hp' a' w' h=>nomatch h.1))
   obtain⟨rfl,rfl⟩:=hh
   refine wp_seq (wp_seq (W.wp mixed47 E47_law Lm46_ok hW7 (read_slots hb).2.2.2.1 S' (fun e s2 a' w' hh S'=>?_) (fun v hp' a' w' h=>nomatch h.1)))
   obtain⟨rfl,rfl⟩:=hh
   refine wp_cond_false (read_x S' hx7 (by simp[hn])) (wp_skip ?_)
   refine W.wp mixed47 E47_law Lm46_ok hW9 (read_slots hb).2.2.2.2.2 S' (fun e s2 a' w' hh S'=>?_) (fun v hp' a' w' h=>nomatch h.1)
   obtain⟨rfl,rfl⟩:=hh
   exact leave_ret S' hRQ9.f4.1 hRQ9.f4.2 hRQ9.f5.1 hRQ9.f5.2
 ·by_cases hF:Fresh1 s gp hp
  ·obtain⟨hp3,c3,b3,_⟩:=hx hF
   refine⟨.tup [iv 0,iv 0],upd s5.hp ⟨0,5,0⟩ (.box gp x1.row false),⟨⟨0,0,rfl,.inl ⟨rfl,x1,by decide,upd_same _ _ _⟩,fun i c hne=>(upd_other _ _ hne).trans (hRT.low i c)⟩,fun _=>⟨rfl,upd_same _ _ _⟩⟩,?_⟩
   intro I K m w act p q S hp4 hp5
   refine wp_seq (W.wp mixed47 E47_law Lm46_ok hW5 (read_slots hb).2.1 S (fun e s2 a' w' hh S'=>?_) (fun v hp' a' w' h=>nomatch h.1))
   obtain⟨rfl,rfl⟩:=hh
   exact(no_world c3 hc S' hRT.f1 hRT.f9).elim
  obtain⟨f4,b4⟩:=hRT.f4
  obtain⟨f5,b5⟩:=hRT.f5
  refine⟨.tup [iv a,iv 3],catchHp a g4 g5 hp',⟨⟨a,3,rfl,.inr ⟨by decide,_,((hfar 0 5 0 (by omega) (by simp)).trans hq5)⟩,fun i c hne=>(hfar 0 i c (by omega) (by simp)).trans (hRT.low i c)⟩,fun h=>(hF h).elim⟩,?_⟩
  intro I K m w act p q S hp4 hp5
  refine wp_seq (W.wp mixed47 E47_law Lm46_ok hW5 (read_slots hb).2.1 S (fun e s2 a' w' hh S'=>?_) (fun v hp' a' w' h=>nomatch h.1))
  obtain⟨rfl,rfl⟩:=hh
  refine wp_seq (read_d6p hb rfl hRT hc S' fun fr a2 w2 e4 e5 S2=>?_)
  exact leave_pan S2 (e4.trans f4) ((hfar 1 4 0 (by omega) (by simp)).trans b4) (e5.trans f5) ((hfar 1 5 0 (by omega) (by simp)).trans b5) (fun I1 m1 _ E1=>⟨Rep.mono E1 _ _ _ (h.f4.1▸hp4),Rep.mono E1 _ _ _ (h.f5.1▸hp5)⟩)
theorem Leaves_mono {P:Program}{fn:Func}{tmps:Array Value}{R R':Ending→World→Prop}(h: ∀e w,R e w→R' e w): ∀(ds:List Deferred) (u:FrameMode) (w:World),Leaves P fn tmps R ds u w→Leaves P fn tmps R' ds u w
 |[],.returning,w,⟨v,h1,h2⟩=>⟨v,h1,h _ _ h2⟩
 |[],.panicking c,w,h1=>h _ _ h1
 |[],.run,_,h1=>h1.elim
 |d::ds,u,w,⟨hu,fv,cap,f,args,h1,h2,h3⟩=>by
  refine⟨hu,fv,cap,f,args,h1,h2,h3.mono fun e u' w' he=>?_⟩
  cases e with
  |returned v=>exact Leaves_mono h ds _ _ he
  |panicked c=>exact Leaves_mono h ds _ _ he
  |outgrown=>exact h _ _ he
theorem bodyPostD_mono {P:Program}{fn:Func}{R R':Ending→World→Prop}(h: ∀e w,R e w→R' e w): ∀(e:Exit) (a:Act) (w:World),bodyPostD P fn R e a w→bodyPostD P fn R' e a w:=by
 intro e a w h1
 cases e<;>first|exact Leaves_mono h _ _ _ h1|exact h _ _ h1|exact h1.elim
theorem read_sem {s:ByteArray}(hs:s.size<9223372036854775807){gp:Nat}{hp:Hp}{c1v c2v c3v:AV}(hbx:hp ⟨0,5,0⟩= .box gp [c1v,c2v,c3v] false):
  ∃v hp',SemH Tryz.prog 0 117 [tv s,.fn 118 [.ptr ⟨0,5,0⟩ gp 0]] hp v hp'∧RX s hp gp v hp':=by
 obtain⟨c0,c1,c2,c3,d5,d6,d7,x,d8,d9,hb⟩: ∃c0 c1 c2 c3 d5 d6 d7 x d8 d9,Tryz.f117.body=some (.seq c0 (.seq c1 (.seq c2 (.seq c3 (.seq d5 (.seq d6 (.seq (.seq d7 (.cond x d8 .skip)) (.seq d9 .ret)))))))):=⟨_,_,_,_,_,_,_,_,_,_,rfl⟩
 obtain⟨T,hT,hW⟩:=read_head hb hs (gp:=gp) (hp:=hp)
 obtain⟨e1,s1,hW1,h1⟩:=Wch.pick _ hW
 rcases h1 with⟨rfl,h1⟩|⟨hne,h1⟩
 ·obtain⟨v,hp',hRR,hbody⟩:=read_body hb hT (st:=⟨setd s1.fr (some 20) .any,s1.hp⟩) (hp:=hp) (s:=s) (gp:=gp) ⟨by simpa using h1.f0,by simpa using h1.f1,by simpa using h1.f4,by simpa using h1.f5,by simpa using h1.f6,h1.low,h1.lx,h1.u25,h1.up⟩ hbx
  refine⟨v,hp',?_,hRR⟩
  intro hok I K m w us G ha
  refine calls_of_wp_defers Tryz.func117 hb ?_
  refine Wch.wp mixed47 E47_law Lm46_ok (fun s2 a' w' hh S=>?_) (fun e s2 a' w' hne hh S=>(hne hh.1).elim) (fun v hp' a' w' h=>nomatch h.1) [c0,c1,c2] hW1 (read_slots hb).1 (read_start G ha)
  obtain⟨rfl,_⟩:=hh
  obtain⟨I1,m1,G1,E1,hf1,hs1,hd1⟩:=S
  have R4:=hf1 4
  have R5:=hf1 5
  rw[h1.f4.1] at R4
  rw[h1.f5.1] at R5
  have R4':=R4
  have R5':=R5
  simp only[Rep] at R4' R5'
  obtain⟨b4,n4,_,e4⟩:=R4'.2.2 _ _ h1.f4.2
  obtain⟨b5,n5,_,e5⟩:=R5'.2.2 _ _ h1.f5.2
  refine wp_seq (read_c3 hb hs1 ?_)
  have S':StR 1 41 K ⟨I1,m1,s2.hp,w',[offD (.pointer (some ⟨b4,0,none⟩)) (.pointer (some ⟨b5,0,none⟩))]⟩ ⟨setd s2.fr (some 20) .any,s2.hp⟩ {(a'.put (some 20) (.func (.func 136) #[] #[a'.eval (.tmp 4),a'.eval (.tmp 5)])) with defers:={target:= .fn (.func 136) #[a'.eval (.tmp 4),a'.eval (.tmp 5)],args:= #[]}::a'.defers} w':=by
   refine⟨I1,m1,G1,.refl _ _ _ _ _,fun t=>?_,?_,?_⟩
   ·show Rep 1 I1 m1 s2.hp w' (setd s2.fr (some 20) .any t) ((a'.put (some 20) _).eval (.tmp t))
    rw[put_eval _ _ _ _ (by omega)]
    by_cases h:t=20
    ·subst h;simp[Rep]
    ·simp only[if_neg h]
     have:setd s2.fr (some 20) .any t=s2.fr t:=by simp[setd,h]
     rw[this];exact hf1 t
   ·show(a'.put (some 20) _).tmps.size=41
    rw[put_size];exact hs1
   ·show _::a'.defers=_
    rw[hd1,e4,e5];rfl
  refine wp_mono (hbody I1 K m1 w' _ _ _ S' (by rw[e4] at R4;simpa[h1.f4.1] using R4) (by rw[e5] at R5;simpa[h1.f5.1] using R5)) (bodyPostD_mono ?_)
  rintro e w'' ⟨u,he,I',m',hS⟩
  exact⟨u,he,I',m',hS.1,E1.trans hS.2.1,hS.2.2⟩
 ·cases e1 with
  |normal=>exact(hne rfl).elim
  |exit i=>exact h1.elim
  |panic v=>exact h1.elim
  |ret=>
   obtain⟨v,hp',hl,a,e,rfl,he,hns,hlow⟩:=h1
   exact⟨_,hp',read_uncut hb hW1 hl,⟨a,e,rfl,.inr ⟨he,_,(hlow 5 0).trans hbx⟩,fun i c _=>hlow i c⟩,fun hF=>(hns hF.1).elim⟩
def RhR (k f:Nat)(a:List AV)(hp:Hp)(v:AV)(hp':Hp):Prop:=k=0∧f=117∧ ∃s gp,a=[tv s,.fn 118 [.ptr ⟨0,5,0⟩ gp 0]]∧RX s hp gp v hp'
noncomputable def X47 :Orc:=semX Tryz.prog (fun _ _ _=>False) RhR
theorem X47_ok :OrcOk Tryz.prog X47:=semX_ok _ _ _
def Rd48 (f:Nat)(a r:List AV):Prop:=f=120∧a=[.agg x1.row]∧r=[bv true]
noncomputable def X48 :Orc:=⟨(semX Tryz.prog Rd48 (fun _ _ _ _ _ _=>False)).dat,X47.hpc⟩
theorem X48_ok :OrcOk Tryz.prog X48:=⟨(semX_ok _ _ _).1,X47_ok.2⟩
theorem Lm48_ok :OrcOk Tryz.prog (Lm X48):=lim_ok mixed47 E47_law X48_ok
theorem X48_no {f:Nat}(a:List AV)(h:f≠120):X48.dat f a=none:=semX_dat_none (Rh:=fun _ _ _ _ _ _=>False) fun r hr=>h hr.1
theorem semD_of {X:Orc}(h:OrcOk Tryz.prog (Lm X)){f:Nat}{a r:List AV}(hf:(Lm X).dat f a=some r):SemD Tryz.prog f a r:=h.1 f a r hf
theorem right_46 :(Lm X46).dat 120 [.agg x1.row]=some [bv true]:=lim_dat.2 ⟨200,by kernel_rfl⟩
theorem right_x :(Lm X48).dat 120 [.agg x1.row]=some [bv true]:=by
 obtain⟨r,h1,h2⟩:=semX_dat (Rd:=Rd48) (Rh:=fun _ _ _ _ _ _=>False) (semD_of Lm46_ok right_46) ⟨rfl,rfl,rfl⟩
 obtain⟨_,_,rfl⟩:=h2
 exact lim_base_dat (X:=X48) h1
theorem read_hx {d gp:Nat}{hp:Hp}{c1v c2v c3v:AV}(hF:Fresh1 s1 gp hp)(hbx:hp ⟨0,5,0⟩= .box gp [c1v,c2v,c3v] false):
  HB Tryz.prog E47 (Lm X48) 0 d 117 [tv s1,.fn 118 [.ptr ⟨0,5,0⟩ gp 0]] hp (fun v hp'=>v= .tup [iv 0,iv 0]∧hp' ⟨0,5,0⟩= .box gp x1.row false∧hp' ⟨0,2,0⟩=hp ⟨0,2,0⟩) (fun _ _=>False):=by
 obtain⟨v,hp',h1,h2⟩:=read_sem (s:=s1) (by decide) hbx
 obtain⟨v',hp'',h3,_,_,s',gp',h4,⟨a,e,_,_,hlow⟩,h5⟩:=semX_hpc (d:=d) (Rd:=fun _ _ _=>False) (Rh:=RhR) h1 ⟨rfl,rfl,s1,gp,rfl,h2⟩
 simp only[List.cons.injEq,AV.sc.injEq,Value.string.injEq,AV.fn.injEq,AV.ptr.injEq,and_true,true_and] at h4
 obtain⟨rfl,rfl⟩:=h4
 exact .inl ⟨v',hp'',lim_base_hpc (X:=X48) h3,(h5 hF).1,(h5 hF).2,hlow 2 0 (by simp)⟩
theorem prog_x :(Lm X48).dat 108 [tv s1]=some [.agg x1.row,iv 0,iv 0]:=by
 refine fnW (P:=Tryz.prog) (E:=E47) (X:=X48) Tryz.func108 (X48_no _ (by decide)) rfl bodyOk_108 rfl rtys_108 rvs_108 ?_
 have rw1:=right_x
 obtain⟨R,hR⟩: ∃R,x1.row=[.sl false 1 [],.sl false 2 [],.sl false 5 [R]]:=⟨_,rfl⟩
 rw[hR] at rw1⊢
 repeat' (first|(refine ZN ?_)|(refine Z2 ?_ ?_)|(intro h h';try simp[*,-h] at h')|((with_reducible apply Wo_call (f:=117));(iterate 5 exact Z5);(apply read_hx);(exact⟨rfl,rfl,fun c=>by simp,fun d i c=>by simp⟩);(exact Zc);rotate_left;(rintro _ _ h;exact h.elim);(rintro _ hp2 ⟨rfl,hb,h2⟩;simp only[hR] at hb;simp at h2))|fail)
 all_goals rfl
theorem prog_s :SemD Tryz.prog 108 [tv s1] [.agg x1.row,iv 0,iv 0]:=semD_of Lm48_ok prog_x
end
section
open Go Go.Ab
def cnt1 :Value→Nat
 | .int _ n=>(n+1).toNat
 |_=>0
theorem down_get (n k:Nat)(h:k<n):((List.range n).reverse.map fun(i:Nat)=>Value.int .i64 i)[k]?=some (.int .i64 ((n:Int) - 1 - k)):=by
 have e:(List.range n).reverse[k]?=some (n - 1 - k):=by
  rw[List.getElem?_reverse (by simpa using h),List.length_range,List.getElem?_range (by omega)]
 rw[List.getElem?_map,e]
 simp only[Option.map_some,Option.some.injEq,Value.int.injEq,true_and]
 omega
theorem down_it (n:Nat)(hn:n≤4611686018427387904):ItOk Tryz.prog 343 [.dp [iv n] 0] ((List.range n).reverse.map fun(i:Nat)=>Value.int .i64 i):=by
 intro I w us hcap l J hJd hJI hY h0
 obtain⟨u,us2,rfl,hu,hr⟩:=hcap.cons_inv
 have:us2=[]:=List.eq_nil_of_length_eq_zero (by rw[←hr.1];rfl)
 subst this
 simp only[RepD] at hu
 obtain⟨b,o,cs,rfl,hI,hc,hd⟩:=hu
 simp only[RepDL,RepD] at hd
 obtain⟨v,vs,rfl,⟨rfl,_⟩,rfl⟩:=hd
 have hcell: ∀i W,J i W→W.cell? ⟨b,o,none⟩=some (.int .i64 n):=fun i W hJ=>(World.cell?_of_block (a:=⟨b,o,none⟩) (hJI i W hJ b hI)).trans (by simpa using hc 0 _ rfl)
 have hcw:=hcell 0 w h0
 have hlen:((List.range n).reverse.map fun(i:Nat)=>Value.int .i64 i).length=n:=by simp
 rw[hlen]
 have hw1:IntKind.i64.wrap ((n:Int) - 1)=(n:Int) - 1:=by rw[IntKind.wrap_i64];omega
 show CallsIn Fence.wide 0 Tryz.prog 343 #[.func (.yield l) #[] #[],.pointer (some ⟨b,o,none⟩)] w _
 refine callsIn_of_wp Tryz.func343 rfl trivial ?_ rfl
 simp only[Tryz.ntmps343,List.size_toArray,List.length_cons,List.length_nil,Nat.reduceAdd,Nat.reduceSub,Array.replicate_succ,Array.replicate_zero,List.push_toArray,List.append_toArray,List.nil_append,List.cons_append]
 gi_wp2
 gi_loopw [3] (fun i wr=> ∃k:Nat,k≤n∧i= .int .i64 ((n:Int) - 1 - k)∧J k wr)
  (fun i _=>cnt1 i)
 case atStart=>exact⟨0,Nat.zero_le _,by simp,h0⟩
 case round=>
  obtain⟨k,hk,rfl,hJs⟩:=hrel
  by_cases hlt:k<n
  ·have p0:(0:Int)≤(n:Int) - 1 - k:=by omega
   have hw2:IntKind.i64.wrap ((n:Int) - 1 - k - 1)=(n:Int) - 1 - k - 1:=by rw[IntKind.wrap_i64];omega
   obtain⟨fn,tmps,assign,body,hy,hR⟩:=hY k _ wr (down_get n k hlt) hJs
   gi_wp2
   refine⟨rfl,hR.mono ?_⟩
   rintro e W3 ⟨rfl,hJ3⟩
   gi_wp2
   go_roundw
   case rel=>exact⟨k+1,by omega,by simp;omega,hJ3⟩
   case measure=>simp[cnt1];omega
  ·obtain rfl:k=n:=by omega
   have p4: ¬(0:Int)≤(k:Int) - 1 - k:=by omega
   gi_wp2
   go_end0
   exact⟨⟨_,rfl⟩,hJs⟩
end
section
open Go Go.Ab Go.Ab.Sy
def EB :Cfg:={eq:=fun t=>t==24||t==34,hp:=fun f=>f==220||f==222||f==249||f==250||f==251||hpA.contains f,inl:=fun f=>[220,177,184].contains f,bx:=fun t=>[240,246,270,235,317,326].contains t,yl:=fun _=>false,ws:=70}
def EB0 :Cfg:={EB with bx:=fun t=>[240,246,235,317,326].contains t}
theorem EB_law :ELaw Tryz.prog EB:=⟨EA_law.1,fun _=>rfl⟩
theorem EB0_law :ELaw Tryz.prog EB0:=⟨EA_law.1,fun _=>rfl⟩
def Xn :Orc:=⟨fun _ _=>none,fun _ _ _ _ _=>none⟩
theorem Xn_ok :OrcOk Tryz.prog Xn:=⟨(fun _ _ _ h=>nomatch h),(fun _ _ _ _ _ _ _ h=>nomatch h)⟩
def itD :Its:=fun f caps=>if f=343 then(match caps with|[.dp [.sc (.int .i64 n)] 0]=>if 0≤n∧n≤4611686018427387904 then some ((List.range n.toNat).reverse.map fun(i:Nat)=>Value.int .i64 i) else none|_=>none) else none
theorem itD_law :ItLaw Tryz.prog itD:=by
 intro f caps vs h
 simp only[itD] at h
 split at h
 ·rename_i hf
  subst hf
  split at h
  ·split at h
   ·rename_i n hn
    cases h
    obtain⟨m,rfl⟩:=Int.eq_ofNat_of_zero_le hn.1
    exact⟨down_it m (by omega),Go.Proofs.enters_of Tryz.func343 (by kernel_rfl) rfl⟩
   ·cases h
  ·cases h
 ·cases h
def tc4 (o n:Int):List AV:=[iv o,iv 0,iv 0,iv 0,iv 0,iv 0,iv 0,uv n]
def aTch :List AV:=[.agg [.sl false 8 [tc4 1 104,tc4 9 0,tc4 1 105,tc4 9 0],iv 3,iv 0,iv 0,iv 0],iv 1]
def rTch :List AV:=[.vec 1 [[.sc (.int .u64 0)]],.vec 1 [[.sc (.int .u64 1)]]]
theorem tch_x :evFnM Tryz.prog EB (evCall Tryz.prog EB Xn 40) itD 60 Tryz.f241 aTch=some rTch:=by kernel_rfl
theorem tch_s :SemD Tryz.prog 241 aTch rTch:=fun _ I w us hI hgl ha=>evFnM_ok mixed6 EB_law (evCall_ok mixed6 EB_law Xn_ok 40) itD_law Tryz.func241 tch_x hI hgl ha
def stkA :List AV:=[.agg [iv 0,.sl false 5 [[iv 0,iv 0,iv 0,bv false,.sl false 4 [[iv 1,iv 0,iv 0,uv 104],[iv 13,iv 0,iv 0,uv 0],[iv 1,iv 0,iv 0,uv 105],[iv 13,iv 0,iv 0,uv 0],[iv 11,iv 0,iv 0,uv 0]]]]]]
def plnR :List AV:=[.agg [.vec 1 [[.sl false 1 [[iv 0],[iv 1],[iv 0],[iv 1],[iv 0]]]],.vec 1 [[iv 0]],.vec 1 [[iv 0]],iv 1]]
theorem pln_x :(lim Tryz.prog EB0 Xn).dat 159 stkA=some plnR:=lim_dat.2 ⟨80,by kernel_rfl⟩
theorem pln_s :SemD Tryz.prog 159 stkA plnR:=(lim_ok mixed6 EB0_law Xn_ok).1 _ _ _ pln_x
def XB :Orc:=orX (oneX 108 [tv srcA] [.agg x1.row,iv 0,iv 0]) (orX (oneX 159 stkA plnR) (oneX 241 aTch rTch))
theorem XB_ok :OrcOk Tryz.prog XB:=orX_ok (oneX_ok prog_s) (orX_ok (oneX_ok pln_s) (oneX_ok tch_s))
def img1 :ByteArray:=⟨#[83,69,69,68,10,0,0,0,1,0,0,0,1,0,240,1,104,0,16,1,0,0,16,17,0,0,16,16,0,0,16,24,105,0,16,1,0,0,16,17,0,0,16,16,0,0,16,24,0,0,0,26]⟩
def img2 :ByteArray:=⟨#[83,69,69,68,5,0,0,0,0,0,0,0,104,0,16,1,0,0,16,24,105,0,16,1,0,0,16,24,0,0,0,26]⟩
theorem bld1_x :(lim Tryz.prog EB XB).dat 87 [pzA 1,tv srcA]=some [tv img1,iv 0]:=lim_dat.2 ⟨80,by kernel_rfl⟩
theorem bld1_s :SemD Tryz.prog 87 [pzA 1,tv srcA] [tv img1,iv 0]:=(lim_ok mixed6 EB_law XB_ok).1 _ _ _ bld1_x
theorem bld2_x :(lim Tryz.prog EB XB).dat 87 [pzA 2,tv srcA]=some [tv img2,iv 0]:=lim_dat.2 ⟨80,by kernel_rfl⟩
theorem bld2_s :SemD Tryz.prog 87 [pzA 2,tv srcA] [tv img2,iv 0]:=(lim_ok mixed6 EB_law XB_ok).1 _ _ _ bld2_x
end
end Go.Proofs.YtpedpkegmalgmaaGreatDoor
namespace Go.Ma
section
def U (n:Int):Prop:=0≤n∧n<4294967296
theorem U.mod (n:Int):U (n%4294967296):=⟨Int.emod_nonneg _ (by decide),Int.emod_lt_of_pos _ (by decide)⟩
structure Ins where
 op:Int
 a:Int
 b:Int
 c:Int
def insW (w:Int):Ins:=⟨w/16777216,w/1048576%16,w/65536%16,w%65536⟩
def hasA (op:Int):Bool:=(decide (1≤op)&&decide (op≤17))||(decide (19≤op)&&decide (op≤25))||decide (op=27)
def hasB (op:Int):Bool:=(decide (3≤op)&&decide (op≤17))||decide (op=27)
def kC (op:Int):Nat:=if 4≤op∧op≤15 then 2 else if op=3∨op=22∨op=23∨op=24∨op=26 then 0 else if 1≤op∧op≤27 then 1 else 0
def wi (h:Bool)(x m:Int):Bool:=if h then decide (0≤x)&&decide (x≤m) else decide (x=0)
def rightI (i:Ins):Bool:=(decide (1≤i.op)&&decide (i.op≤27))&&wi (hasA i.op) i.a 15&&wi (hasB i.op) i.b 15&&wi (decide (kC i.op≠0)) i.c (if kC i.op=2 then 15 else 65535)
structure PS where
 pc:Int
 rg:List Int
 mem:List Int
 rd:Nat
 out:List Int
 steps:Nat
 en:Int
 own:Bool
def PS.reg (s:PS)(a:Int):Int:=s.rg.getD a.toNat 0
def PS.setR (s:PS)(a x:Int):PS:={s with rg:=s.rg.set a.toNat x,pc:=s.pc+1}
def PS.goto (s:PS)(p:Int):PS:={s with pc:=p}
def PS.stop (s:PS)(e:Int):PS:={s with en:=e}
def andW (a b:Int):Int:=((BitVec.ofInt 32 a&&&BitVec.ofInt 32 b).toNat:Int)
def orW (a b:Int):Int:=((BitVec.ofInt 32 a|||BitVec.ofInt 32 b).toNat:Int)
def xorW (a b:Int):Int:=((BitVec.ofInt 32 a^^^BitVec.ofInt 32 b).toNat:Int)
def apP (op a b:Int):Option Int:=
 if op=4 then some ((a+b)%4294967296)
 else if op=5 then some ((a - b)%4294967296)
 else if op=6 then some (a*b%4294967296)
 else if op=7 then(if b=0 then none else some (a/b))
 else if op=8 then(if b=0 then none else some (a%b))
 else if op=9 then some (andW a b)
 else if op=10 then some (orW a b)
 else if op=11 then some (xorW a b)
 else if op=12 then some (if 31<b then 0 else a*2^b.toNat%4294967296)
 else if op=13 then some (if 31<b then 0 else a/2^b.toNat)
 else if op=14 then some (if a<b then 1 else 0)
 else some (if a=b then 1 else 0)
abbrev Inp :=Nat→Option Int
def doP (code:List Int)(inp:Inp)(s:PS)(i:Ins):PS:=
 if i.op=1 then s.setR i.a i.c
 else if i.op=2 then s.setR i.a (s.reg i.a%65536+i.c*65536)
 else if i.op=3 then s.setR i.a (s.reg i.b)
 else if i.op=16 then s.mem[((s.reg i.b+i.c)%4294967296).toNat]?.elim (s.stop 8) fun x=>s.setR i.a x
 else if i.op=17 then(if ((s.reg i.b+i.c)%4294967296).toNat<s.mem.length then {s with mem:=s.mem.set ((s.reg i.b+i.c)%4294967296).toNat (s.reg i.a),pc:=s.pc+1,own:=true} else s.stop 8)
 else if i.op=18 then s.goto i.c
 else if i.op=19 then s.goto (if s.reg i.a=0 then i.c else s.pc+1)
 else if i.op=20 then s.goto (if s.reg i.a≠0 then i.c else s.pc+1)
 else if i.op=21 then {s with rg:=s.rg.set i.a.toNat ((s.pc+1)%4294967296),pc:=i.c}
 else if i.op=22 then s.goto (s.reg i.a)
 else if i.op=23 then(inp s.rd).elim (s.setR i.a 256) fun b=>{s with rg:=s.rg.set i.a.toNat b,rd:=s.rd+1,pc:=s.pc+1}
 else if i.op=24 then(if 65536≤s.out.length then s.stop 4 else {s with out:=s.out++[s.reg i.a%256],pc:=s.pc+1})
 else if i.op=25 then(if i.c≤s.reg i.a then s.stop 3 else s.goto (s.pc+1))
 else if i.op=26 then s.stop 1
 else if i.op=27 then code[((s.reg i.b+i.c)%4294967296).toNat]?.elim (s.stop 8) fun x=>s.setR i.a x
 else(apP i.op (s.reg i.b) (s.reg i.c)).elim (s.stop 2) fun x=>s.setR i.a x
def stepP (code:List Int)(inp:Inp)(s:PS):PS:=
 if s.pc<0 then s.stop 7 else
 code[s.pc.toNat]?.elim (s.stop 7) fun w=>if rightI (insW w) then doP code inp {s with steps:=s.steps+1} (insW w) else {s with steps:=s.steps+1,en:=6}
def runP (code:List Int)(inp:Inp):Nat→PS→PS
 |0,s=>s
 |n+1,s=>if s.en=0 then runP code inp n (stepP code inp s) else s
structure Ok (inpN:Nat)(s:PS):Prop where
 pc0:0≤s.pc
 pc1:s.pc≤4294967296
 rl:s.rg.length=16
 ru: ∀x∈s.rg,U x
 mu: ∀x∈s.mem,U x
 rd:s.rd≤inpN
 ou: ∀x∈s.out,0≤x∧x<256
 ol:s.out.length≤65536
 en0:0≤s.en
 en1:s.en≤8
theorem Ok.reg {n:Nat}{s:PS}(h:Ok n s){a:Int}(h0:0≤a)(h1:a≤15):s.rg[a.toNat]?=some (s.reg a)∧U (s.reg a):=by
 have hl:a.toNat<s.rg.length:=by rw[h.rl];omega
 have e:s.reg a=s.rg[a.toNat]:=by simp[PS.reg,List.getD_eq_getElem?_getD,hl]
 rw[e]
 exact⟨List.getElem?_eq_getElem hl,h.ru _ (List.getElem_mem hl)⟩
theorem mem_set {l:List Int}{P:Int→Prop}(h: ∀x∈l,P x){i:Nat}{v:Int}(hv:P v): ∀x∈l.set i v,P x:=by
 intro x hx
 rcases List.mem_or_eq_of_mem_set hx with h1|h1
 ·exact h x h1
 ·rw[h1];exact hv
theorem Ok.setR {n:Nat}{s:PS}(h:Ok n s)(hp:s.pc+1≤4294967296){x:Int}(hx:U x)(a:Int):Ok n (s.setR a x):=
 {pc0:=by show 0≤s.pc+1;have:=h.pc0;omega
  pc1:=hp
  rl:=by show(s.rg.set _ _).length=16;rw[List.length_set];exact h.rl
  ru:=mem_set h.ru hx
  mu:=h.mu,rd:=h.rd,ou:=h.ou,ol:=h.ol,en0:=h.en0,en1:=h.en1}
theorem Ok.goto {n:Nat}{s:PS}(h:Ok n s){p:Int}(h0:0≤p)(h1:p≤4294967296):Ok n (s.goto p):=
 {pc0:=h0,pc1:=h1,rl:=h.rl,ru:=h.ru,mu:=h.mu,rd:=h.rd,ou:=h.ou,ol:=h.ol,en0:=h.en0,en1:=h.en1}
theorem Ok.stop {n:Nat}{s:PS}(h:Ok n s){e:Int}(h0:0≤e)(h1:e≤8):Ok n (s.stop e):=
 {pc0:=h.pc0,pc1:=h.pc1,rl:=h.rl,ru:=h.ru,mu:=h.mu,rd:=h.rd,ou:=h.ou,ol:=h.ol,en0:=h0,en1:=h1}
theorem U_bits (x:BitVec 32):U (x.toNat:Int):=⟨by omega,by have:=x.isLt;omega⟩
theorem ite_ind {α:Type}{p:α→Prop}{c:Prop}[Decidable c]{a b:α}(h1:c→p a)(h2: ¬c→p b):p (if c then a else b):=by
 by_cases h:c
 ·rw[if_pos h];exact h1 h
 ·rw[if_neg h];exact h2 h
theorem elim_ind {α β:Type}{p:α→Prop}{o:Option β}{b:α}{f:β→α}(h1:o=none→p b)(h2: ∀x,o=some x→p (f x)):p (o.elim b f):=by
 cases o with
 |none=>exact h1 rfl
 |some x=>exact h2 x rfl
theorem apP_U {op a b:Int}(ha:U a)(hb:U b): ∀{x:Int},apP op a b=some x→U x:=by
 have hm: ∀n:Int,U (n%4294967296):=U.mod
 have one:U (if a<b then 1 else 0):=by by_cases h:a<b<;>simp[h]<;>exact⟨by decide,by decide⟩
 have one':U (if a=b then 1 else 0):=by by_cases h:a=b<;>simp[h]<;>exact⟨by decide,by decide⟩
 have so: ∀{v:Int},U v→ ∀{x:Int},some v=some x→U x:=fun hv x h=>by cases h;exact hv
 have z:U 0:=⟨by decide,by decide⟩
 have J: ∀{c:Prop} [Decidable c] {a b:Option Int},(c→ ∀{x:Int},a=some x→U x)→(¬c→ ∀{x:Int},b=some x→U x)→ ∀{x:Int},(if c then a else b)=some x→U x:=by
  intro c _ a b h1 h2 x h
  by_cases hc:c
  ·rw[if_pos hc] at h;exact h1 hc h
  ·rw[if_neg hc] at h;exact h2 hc h
 have V: ∀{c:Prop} [Decidable c] {a b:Int},(c→U a)→(¬c→U b)→U (if c then a else b):=fun h1 h2=>ite_ind (p:=U) h1 h2
 have no: ∀{x:Int},(none:Option Int)=some x→U x:=fun h=>by cases h
 intro x
 unfold apP
 refine J (fun _=>so (hm _)) fun _=>J (fun _=>so (hm _)) fun _=>J (fun _=>so (hm _)) fun _=>?_
 refine J (fun _=>J (fun _=>no) fun _=>so ⟨Int.ediv_nonneg ha.1 hb.1,Int.lt_of_le_of_lt (Int.ediv_le_self _ ha.1) ha.2⟩) fun _=>?_
 refine J (fun _=>J (fun _=>no) fun h0=>so ⟨Int.emod_nonneg _ h0,Int.lt_trans (Int.emod_lt_of_pos _ (by have:=hb.1;omega)) hb.2⟩) fun _=>?_
 refine J (fun _=>so (U_bits _)) fun _=>J (fun _=>so (U_bits _)) fun _=>J (fun _=>so (U_bits _)) fun _=>?_
 refine J (fun _=>so (V (fun _=>z) fun _=>hm _)) fun _=>?_
 refine J (fun _=>so (V (fun _=>z) fun _=>⟨Int.ediv_nonneg ha.1 (Int.le_of_lt (Int.pow_pos (by decide))),Int.lt_of_le_of_lt (Int.ediv_le_self _ ha.1) ha.2⟩)) fun _=>?_
 exact J (fun _=>so one) fun _=>so one'
theorem wi_le {h:Bool}{x m:Int}(hw:wi h x m=true)(hm:0≤m):0≤x∧x≤m:=by
 unfold wi at hw
 cases h
 ·simp at hw;omega
 ·simpa using hw
theorem right_bounds {i:Ins}(h:rightI i=true):(1≤i.op∧i.op≤27)∧(0≤i.a∧i.a≤15)∧(0≤i.b∧i.b≤15)∧(0≤i.c∧i.c≤65535)∧(4≤i.op→i.op≤15→i.c≤15):=by
 unfold rightI at h
 simp only[Bool.and_eq_true,decide_eq_true_eq] at h
 obtain⟨⟨⟨⟨h1,h2⟩,h3⟩,h4⟩,h5⟩:=h
 have h6:=wi_le h5 (by split<;>decide)
 refine⟨⟨h1,h2⟩,wi_le h3 (by decide),wi_le h4 (by decide),⟨h6.1,Int.le_trans h6.2 (by split<;>decide)⟩,fun h7 h8=>?_⟩
 have e:kC i.op=2:=by unfold kC;rw[if_pos ⟨h7,h8⟩]
 rw[e,if_pos rfl] at h6
 exact h6.2
theorem Ok.outR {n:Nat}{s:PS}(h:Ok n s)(hp:s.pc+1≤4294967296){x:Int}(hx:0≤x∧x<256)(hl: ¬65536≤s.out.length):Ok n {s with out:=s.out++[x],pc:=s.pc+1}:=
 {pc0:=by show 0≤s.pc+1;have:=h.pc0;omega
  pc1:=hp,rl:=h.rl,ru:=h.ru,mu:=h.mu,rd:=h.rd
  ou:=fun y hy=>by
   rcases List.mem_append.1 hy with hy|hy
   ·exact h.ou y hy
   ·rw[List.mem_singleton.1 hy];exact hx
  ol:=by show(s.out++[x]).length≤65536;simp;omega
  en0:=h.en0,en1:=h.en1}
theorem doP_ok {n:Nat}{code:List Int}{inp:Inp}{s:PS}{i:Ins}(h:Ok n s)(hc: ∀x∈code,U x)(hi: ∀k b,inp k=some b→k<n∧0≤b∧b<256)(hr:rightI i=true)(hp:s.pc+1≤4294967296):Ok n (doP code inp s i):=by
 obtain⟨ho,ha,hb,hcc,hc2⟩:=right_bounds hr
 have ra:=(h.reg ha.1 ha.2).2
 have rb:=(h.reg hb.1 hb.2).2
 have hp0:=h.pc0
 have uc:U i.c:=⟨hcc.1,by omega⟩
 have I: ∀{c:Prop} [Decidable c] {a b:PS},(c→Ok n a)→(¬c→Ok n b)→Ok n (if c then a else b):=fun h1 h2=>ite_ind (p:=Ok n) h1 h2
 have st: ∀e:Int,0≤e→e≤8→Ok n (s.stop e):=fun e h1 h2=>h.stop h1 h2
 unfold doP
 refine I (fun _=>h.setR hp uc _) fun _=>?_
 refine I (fun _=>h.setR hp (by unfold U at*;omega) _) fun _=>?_
 refine I (fun _=>h.setR hp rb _) fun _=>?_
 refine I (fun _=>elim_ind (p:=Ok n) (fun _=>st 8 (by decide) (by decide)) fun x hx=>h.setR hp (h.mu x (List.mem_of_getElem? hx)) _) fun _=>?_
 refine I (fun _=>I (fun _=>?_) fun _=>st 8 (by decide) (by decide)) fun _=>?_
 ·exact {pc0:=(by show 0≤s.pc+1;omega),pc1:=hp,rl:=h.rl,ru:=h.ru,mu:=mem_set h.mu ra,rd:=h.rd,ou:=h.ou,ol:=h.ol,en0:=h.en0,en1:=h.en1}
 refine I (fun _=>h.goto hcc.1 (by omega)) fun _=>?_
 refine I (fun _=>h.goto (by split<;>omega) (by split<;>omega)) fun _=>?_
 refine I (fun _=>h.goto (by split<;>omega) (by split<;>omega)) fun _=>?_
 refine I (fun _=>?_) fun _=>?_
 ·exact {pc0:=hcc.1,pc1:=(by show i.c≤_;omega),rl:=(by show(s.rg.set _ _).length=16;rw[List.length_set];exact h.rl),ru:=mem_set h.ru (U.mod _),mu:=h.mu,rd:=h.rd,ou:=h.ou,ol:=h.ol,en0:=h.en0,en1:=h.en1}
 refine I (fun _=>by unfold U at ra;exact h.goto ra.1 (by omega)) fun _=>?_
 refine I (fun _=>elim_ind (p:=Ok n) (fun _=>h.setR hp ⟨by decide,by decide⟩ _) fun b hb'=>?_) fun _=>?_
 ·obtain⟨h1,h2,h3⟩:=hi _ _ hb'
  exact {pc0:=(by show 0≤s.pc+1;omega),pc1:=hp,rl:=(by show(s.rg.set _ _).length=16;rw[List.length_set];exact h.rl),ru:=mem_set h.ru ⟨h2,by omega⟩,mu:=h.mu,rd:=h1,ou:=h.ou,ol:=h.ol,en0:=h.en0,en1:=h.en1}
 refine I (fun _=>I (fun _=>st 4 (by decide) (by decide)) fun hl=>h.outR hp ⟨by omega,by omega⟩ hl) fun _=>?_
 refine I (fun _=>I (fun _=>st 3 (by decide) (by decide)) fun _=>h.goto (by omega) hp) fun _=>?_
 refine I (fun _=>st 1 (by decide) (by decide)) fun _=>?_
 refine I (fun _=>elim_ind (p:=Ok n) (fun _=>st 8 (by decide) (by decide)) fun x hx=>h.setR hp (hc x (List.mem_of_getElem? hx)) _) fun _=>?_
 refine elim_ind (p:=Ok n) (fun _=>st 2 (by decide) (by decide)) fun x hx=>?_
 have h4:4≤i.op∧i.op≤15:=by omega
 exact h.setR hp (apP_U rb (h.reg hcc.1 (hc2 h4.1 h4.2)).2 hx) _
theorem stepP_ok {n:Nat}{code:List Int}{inp:Inp}{s:PS}(h:Ok n s)(hl:code.length≤4294967295)(hc: ∀x∈code,U x)(hi: ∀k b,inp k=some b→k<n∧0≤b∧b<256):Ok n (stepP code inp s):=by
 have h0:=h.pc0
 have ok1: ∀e:Int,0≤e→e≤8→Ok n {s with steps:=s.steps+1,en:=e}:=fun e h1 h2=>{pc0:=h.pc0,pc1:=h.pc1,rl:=h.rl,ru:=h.ru,mu:=h.mu,rd:=h.rd,ou:=h.ou,ol:=h.ol,en0:=h1,en1:=h2}
 unfold stepP
 refine ite_ind (p:=Ok n) (fun _=>h.stop (by decide) (by decide)) fun _=>elim_ind (p:=Ok n) (fun _=>h.stop (by decide) (by decide)) fun w hw=>?_
 have hlt:=(List.getElem?_eq_some_iff.1 hw).1
 refine ite_ind (p:=Ok n) (fun hr=>?_) fun _=>ok1 6 (by decide) (by decide)
 exact doP_ok (s:={s with steps:=s.steps+1}) (ok1 s.en h.en0 h.en1) hc hi hr (by show s.pc+1≤_;omega)
theorem runP_ok {n:Nat}{code:List Int}{inp:Inp}(hl:code.length≤4294967295)(hc: ∀x∈code,U x)(hi: ∀k b,inp k=some b→k<n∧0≤b∧b<256): ∀(k:Nat) {s:PS},Ok n s→Ok n (runP code inp k s)
 |0,s,h=>h
 |k+1,s,h=>by
  unfold runP
  split
  ·exact runP_ok hl hc hi k (stepP_ok h hl hc hi)
  ·exact h
theorem doP_steps (code:List Int)(inp:Inp)(s:PS)(i:Ins):(doP code inp s i).steps=s.steps:=by
 have I: ∀{c:Prop} [Decidable c] {a b:PS},a.steps=s.steps→b.steps=s.steps→(if c then a else b).steps=s.steps:=fun h1 h2=>ite_ind (p:=fun t:PS=>t.steps=s.steps) (fun _=>h1) fun _=>h2
 have E: ∀{o:Option Int} {b:PS} {f:Int→PS},b.steps=s.steps→(∀x,(f x).steps=s.steps)→(o.elim b f).steps=s.steps:=fun h1 h2=>elim_ind (p:=fun t:PS=>t.steps=s.steps) (fun _=>h1) fun x _=>h2 x
 unfold doP
 exact I rfl (I rfl (I rfl (I (E rfl fun _=>rfl) (I (I rfl rfl) (I rfl (I rfl (I rfl (I rfl (I rfl (I (E rfl fun _=>rfl) (I (I rfl rfl) (I (I rfl rfl) (I rfl (I (E rfl fun _=>rfl) (E rfl fun _=>rfl)))))))))))))))
theorem stepP_steps (code:List Int)(inp:Inp)(s:PS):(stepP code inp s).steps≤s.steps+1:=by
 unfold stepP
 refine ite_ind (p:=fun t:PS=>t.steps≤s.steps+1) (fun _=>Nat.le_succ _) fun _=>elim_ind (p:=fun t:PS=>t.steps≤s.steps+1) (fun _=>Nat.le_succ _) fun w _=>?_
 refine ite_ind (p:=fun t:PS=>t.steps≤s.steps+1) (fun _=>?_) fun _=>Nat.le_refl _
 rw[doP_steps]
 exact Nat.le_refl _
end
section
open Go
theorem wrap_U {n:Int}(h:U n):IntKind.u32.wrap n=n:=by rw[IntKind.wrap_u32];unfold U at h;omega
theorem ofInt_toNat {n:Int}(h:U n):(BitVec.ofInt 32 n).toNat=n.toNat:=by
 rw[BitVec.toNat_ofInt]
 unfold U at h
 omega
theorem andW_mask {n:Int}(h:U n)(k:Nat)(hk:k≤32):andW n (2^k - 1)=n%2^k:=by
 have hu:U (2^k - 1:Int):=by
  have h1:(2:Nat)^k≤2^32:=Nat.pow_le_pow_right (by decide) hk
  have h2:0<(2:Nat)^k:=Nat.pow_pos (by decide)
  have h3:((2:Nat)^k:Int)=(2:Int)^k:=by norm_cast
  unfold U
  rw[←h3]
  constructor<;>omega
 unfold andW
 rw[BitVec.toNat_and,ofInt_toNat h,ofInt_toNat hu]
 have h2:0<(2:Nat)^k:=Nat.pow_pos (by decide)
 have h3:((2:Nat)^k:Int)=(2:Int)^k:=by norm_cast
 have e:(2^k - 1:Int).toNat=2^k - 1:=by rw[←h3];omega
 rw[e,Nat.and_two_pow_sub_one_eq_mod]
 have hn:(n.toNat:Int)=n:=Int.toNat_of_nonneg h.1
 rw[Int.natCast_emod,hn]
 simp
theorem andW_15 {n:Int}(h:U n):andW n 15=n%16:=andW_mask h 4 (by decide)
theorem andW_65535 {n:Int}(h:U n):andW n 65535=n%65536:=andW_mask h 16 (by decide)
theorem orW_lui {x c:Int}(hx:0≤x∧x<65536)(hc:0≤c∧c<65536):orW x (c*65536)=x+c*65536:=by
 have hu1:U x:=⟨hx.1,by omega⟩
 have hu2:U (c*65536):=⟨by omega,by omega⟩
 unfold orW
 rw[BitVec.toNat_or,ofInt_toNat hu1,ofInt_toNat hu2]
 have e:(c*65536).toNat=2^16*c.toNat:=by omega
 rw[e,Nat.or_comm,←Nat.two_pow_add_eq_or_of_lt (by omega:x.toNat<2^16)]
 omega
/-! ### bit by bit -/
/-! ### shifted,one place at a time -/
end
end Go.Ma
namespace Go.Proofs.YtpedpkegmalgmaaGreatDoor.M
section
open Go Go.Ab Go.Ma
abbrev iv (n:Int):AV:= .sc (.int .i64 n)
abbrev bv (b:Bool):AV:= .sc (.bool b)
abbrev uv (n:Int):AV:= .sc (.int .u32 n)
abbrev rowW (l:List Int):List (List AV):=l.map fun x=>[uv x]
abbrev rowB (l:List Int):List (List AV):=l.map fun x=>[.sc (.int .u8 x)]
def toBytes (l:List Int):List UInt8:=l.map fun x=>UInt8.ofNat x.toNat
theorem bytes_rowB : ∀l:List Int,bytesOfRows (rowB l)=some (toBytes l)
 |[]=>rfl
 |x::l=>by
  show(bytesOfRows (rowB l)).map (UInt8.ofNat x.toNat:: ·)=_
  rw[bytes_rowB l];rfl
def E00 :Cfg:={eq:=fun _=>false,hp:=fun f=>f==154||f==155||f==156||f==192||f==193||f==194||f==248||f==315||f==316||f==317,yl:=fun _=>false}
@[simp] theorem E00_hp (f:Nat):E00.hp f=(f==154||f==155||f==156||f==192||f==193||f==194||f==248||f==315||f==316||f==317):=rfl
@[simp] theorem E00_eq (f:Nat):E00.eq f=false:=rfl
@[simp] theorem E00_yl (f:Nat):E00.yl f=false:=rfl
def E0y (l:Nat):Cfg:={eq:=E00.eq,hp:=E00.hp,yl:=fun l'=>l'==l}
@[simp] theorem E0y_hp (l f:Nat):(E0y l).hp f=(f==154||f==155||f==156||f==192||f==193||f==194||f==248||f==315||f==316||f==317):=rfl
@[simp] theorem E0y_eq (l f:Nat):(E0y l).eq f=false:=rfl
@[simp] theorem E0y_yl (l l':Nat):(E0y l).yl l'=(l'==l):=rfl
@[simp] theorem E00_off :(E00).off=0:=rfl
@[simp] theorem E00_ws :(E00).ws=0:=rfl
@[simp] theorem E00_cl :(E00).cl=false:=rfl
@[simp] theorem E00_frz (f:Nat):(E00).frz f=false:=rfl
@[simp] theorem E00_inl (f:Nat):(E00).inl f=false:=rfl
@[simp] theorem E00_bx (t:Nat):(E00).bx t=false:=rfl
@[simp] theorem E0y_off (l:Nat):(E0y l).off=0:=rfl
@[simp] theorem E0y_ws (l:Nat):(E0y l).ws=0:=rfl
@[simp] theorem E0y_cl (l:Nat):(E0y l).cl=false:=rfl
@[simp] theorem E0y_frz (l:Nat)(f:Nat):(E0y l).frz f=false:=rfl
@[simp] theorem E0y_inl (l:Nat)(f:Nat):(E0y l).inl f=false:=rfl
@[simp] theorem E0y_bx (l:Nat)(t:Nat):(E0y l).bx t=false:=rfl
theorem hpcZ {P:Program}{E:Cfg}{X:Orc}{f k d:Nat}{fn:Func}{c:Code}{args:List AV}{hp:Hp}{rvs:List ResultVar}{z0:AV}{A:Hp→Prop}(hf:P.funcs[f]?=some fn)(hx:X.hpc k d f args hp=none)(hb:fn.body=some c)(hok:bodyOk fn=true)(hl:args.length=fn.params.size+fn.nfree)
  (hrv:fn.results.toList=rvs) (h:W P E (k+1) (lim P E X) c ⟨frame0 args,hp⟩ fun e st=>e.fine=true∧ ∃v hp',(lowerRes P st.fr k d rvs).run st.hp=some (v,hp')∧(v=z0∧A hp')) (hi:E.inl f=false:=by first|rfl|simp) (hz:E.frz f=false:=by first|rfl|simp): ∃hp',(lim P E X).hpc k d f args hp=some (z0,hp')∧A hp':=by
 obtain⟨_,hp',h1,rfl,h2⟩:=lim_hpcW (R:=fun v hp'=>v=z0∧A hp') hf hx hb hok hl hrv h hi hz
 exact⟨hp',h1,h2⟩
theorem Zya {p:Prop}(h:p:=by intro y h0;intros;have e1: ∀k i,y≠⟨k+1,i,0⟩:=fun k i e=>(by subst e;simp at h0);have e2: ∀i,y≠⟨1,i,0⟩:=fun i=>e1 0 i;have e3: ∀i,y≠⟨2,i,0⟩:=fun i=>e1 1 i;have e4: ∀i,y≠⟨3,i,0⟩:=fun i=>e1 2 i;have e5: ∀i,y≠⟨4,i,0⟩:=fun i=>e1 3 i;simp[*]):p:=h
theorem Zyb {p:Prop}(h:p:=by intro y h0 h1;have e1: ∀k i,y≠⟨k+1,i,0⟩:=fun k i e=>(by subst e;simp at h0);have e2: ∀i,y≠⟨1,i,0⟩:=fun i=>e1 0 i;have e3: ∀i,y≠⟨2,i,0⟩:=fun i=>e1 1 i;have e4: ∀i,y≠⟨3,i,0⟩:=fun i=>e1 2 i;have e5: ∀i,y≠⟨4,i,0⟩:=fun i=>e1 3 i;simp[*,f3 _ _ _ y h0 h1]):p:=h
theorem Zyd {p:Prop}(h:p:=by intro y h0 h1 h2;have e1: ∀k i,y≠⟨k+1,i,0⟩:=fun k i e=>(by subst e;simp at h0);have e2: ∀i,y≠⟨1,i,0⟩:=fun i=>e1 0 i;have e3: ∀i,y≠⟨2,i,0⟩:=fun i=>e1 1 i;have e4: ∀i,y≠⟨3,i,0⟩:=fun i=>e1 2 i;have e5: ∀i,y≠⟨4,i,0⟩:=fun i=>e1 3 i;simp[*,f3 _ _ _ y h0 h1 h2]):p:=h
theorem regA {k:Nat}(h:k<16):3+k≤25∧3+k<26:=⟨by omega,by omega⟩
def X00 :Orc:=⟨fun _ _=>none,fun _ _ _ _ _=>none⟩
@[simp] theorem wrap_1 :IntKind.i64.wrap 1=1:=by decide+kernel
@[simp] theorem wrap_2 :IntKind.i64.wrap 2=2:=by decide+kernel
@[simp] theorem wrap_0 :IntKind.i64.wrap 0=0:=by decide+kernel
theorem wrapN {k:Nat}(h:k<9223372036854775807):IntKind.i64.wrap ((k:Int)+1)=(k:Int)+1:=wrap64 (by omega) (by omega)
theorem and_form (x y:Int):andW x y=(((x%4294967296).toNat&&&(y%4294967296).toNat:Nat):Int):=by unfold andW;simp[BitVec.toNat_ofInt]
theorem or_form (x y:Int):orW x y=(((x%4294967296).toNat|||(y%4294967296).toNat:Nat):Int):=by unfold orW;simp[BitVec.toNat_ofInt]
theorem take1 {α:Type}(l:List α)(k:Nat):(l.drop k).take 1=(l[k]?).toList:=by
 rw[List.take_one,List.head?_drop]
def bxP (code:List Int)(inp:ByteArray)(pc:Int)(rg:List Int)(M:AV)(rd steps en:Int)(o:Bool)(go no:Nat):List AV:=
 .sl false 1 (rowW code):: .sc (.string inp)::iv pc::(rg.map uv++[M,iv rd,.sc (.string ⟨#[]⟩),iv steps,iv en,bv o,.own ⟨0,13,26⟩ go no])
section
variable {code:List Int}{inp:ByteArray}{pc:Int}{rg:List Int}{M:AV}{rd steps en:Int}{o:Bool}{go no:Nat}
theorem reg16 (h:rg.length=16): ∃x0 x1 x2 x3 x4 x5 x6 x7 x8 x9 x10 x11 x12 x13 x14 x15,rg=[x0,x1,x2,x3,x4,x5,x6,x7,x8,x9,x10,x11,x12,x13,x14,x15]:=by
 match rg,h with
 |[x0,x1,x2,x3,x4,x5,x6,x7,x8,x9,x10,x11,x12,x13,x14,x15],_=>exact⟨_,_,_,_,_,_,_,_,_,_,_,_,_,_,_,_,rfl⟩
theorem bx_len (h:rg.length=16):(bxP code inp pc rg M rd steps en o go no).length=26:=by simp[bxP,h]
theorem bx_2 :(bxP code inp pc rg M rd steps en o go no)[2]?=some (iv pc):=rfl
theorem bx_19 (h:rg.length=16):(bxP code inp pc rg M rd steps en o go no)[19]?=some M:=by obtain⟨_,_,_,_,_,_,_,_,_,_,_,_,_,_,_,_,rfl⟩:=reg16 h;rfl
theorem bx_20 (h:rg.length=16):(bxP code inp pc rg M rd steps en o go no)[20]?=some (iv rd):=by obtain⟨_,_,_,_,_,_,_,_,_,_,_,_,_,_,_,_,rfl⟩:=reg16 h;rfl
theorem bx_21 (h:rg.length=16):(bxP code inp pc rg M rd steps en o go no)[21]?=some (.sc (.string ⟨#[]⟩)):=by obtain⟨_,_,_,_,_,_,_,_,_,_,_,_,_,_,_,_,rfl⟩:=reg16 h;rfl
theorem bx_22 (h:rg.length=16):(bxP code inp pc rg M rd steps en o go no)[22]?=some (iv steps):=by obtain⟨_,_,_,_,_,_,_,_,_,_,_,_,_,_,_,_,rfl⟩:=reg16 h;rfl
theorem bx_23 (h:rg.length=16):(bxP code inp pc rg M rd steps en o go no)[23]?=some (iv en):=by obtain⟨_,_,_,_,_,_,_,_,_,_,_,_,_,_,_,_,rfl⟩:=reg16 h;rfl
theorem bx_24 (h:rg.length=16):(bxP code inp pc rg M rd steps en o go no)[24]?=some (bv o):=by obtain⟨_,_,_,_,_,_,_,_,_,_,_,_,_,_,_,_,rfl⟩:=reg16 h;rfl
theorem bx_25 (h:rg.length=16):(bxP code inp pc rg M rd steps en o go no)[25]?=some (.own ⟨0,13,26⟩ go no):=by obtain⟨_,_,_,_,_,_,_,_,_,_,_,_,_,_,_,_,rfl⟩:=reg16 h;rfl
theorem bx_reg {a:Nat}(h:rg.length=16)(ha:a<16):(bxP code inp pc rg M rd steps en o go no)[3+a]?=(rg[a]?).map uv:=by
 unfold bxP
 rw[show 3+a=a+1+1+1 from by omega,List.getElem?_cons_succ,List.getElem?_cons_succ,List.getElem?_cons_succ,List.getElem?_append_left (by simpa[h] using ha),List.getElem?_map]
theorem bs_2 (x:Int):(bxP code inp pc rg M rd steps en o go no).set 2 (iv x)=bxP code inp x rg M rd steps en o go no:=rfl
theorem bs_19 (h:rg.length=16)(x:AV):(bxP code inp pc rg M rd steps en o go no).set 19 x=bxP code inp pc rg x rd steps en o go no:=by obtain⟨_,_,_,_,_,_,_,_,_,_,_,_,_,_,_,_,rfl⟩:=reg16 h;rfl
theorem bs_20 (h:rg.length=16)(x:Int):(bxP code inp pc rg M rd steps en o go no).set 20 (iv x)=bxP code inp pc rg M x steps en o go no:=by obtain⟨_,_,_,_,_,_,_,_,_,_,_,_,_,_,_,_,rfl⟩:=reg16 h;rfl
theorem bs_22 (h:rg.length=16)(x:Int):(bxP code inp pc rg M rd steps en o go no).set 22 (iv x)=bxP code inp pc rg M rd x en o go no:=by obtain⟨_,_,_,_,_,_,_,_,_,_,_,_,_,_,_,_,rfl⟩:=reg16 h;rfl
theorem bs_23 (h:rg.length=16)(x:Int):(bxP code inp pc rg M rd steps en o go no).set 23 (iv x)=bxP code inp pc rg M rd steps x o go no:=by obtain⟨_,_,_,_,_,_,_,_,_,_,_,_,_,_,_,_,rfl⟩:=reg16 h;rfl
theorem bs_24 (h:rg.length=16)(x:Bool):(bxP code inp pc rg M rd steps en o go no).set 24 (bv x)=bxP code inp pc rg M rd steps en x go no:=by obtain⟨_,_,_,_,_,_,_,_,_,_,_,_,_,_,_,_,rfl⟩:=reg16 h;rfl
theorem bs_25 (h:rg.length=16)(g n:Nat):(bxP code inp pc rg M rd steps en o go no).set 25 (.own ⟨0,13,26⟩ g n)=bxP code inp pc rg M rd steps en o g n:=by obtain⟨_,_,_,_,_,_,_,_,_,_,_,_,_,_,_,_,rfl⟩:=reg16 h;rfl
theorem bs_reg {a:Nat}(h:rg.length=16)(ha:a<16)(x:Int):(bxP code inp pc rg M rd steps en o go no).set (3+a) (uv x)=bxP code inp pc (rg.set a x) M rd steps en o go no:=by
 unfold bxP
 rw[show 3+a=a+1+1+1 from by omega,List.set_cons_succ,List.set_cons_succ,List.set_cons_succ,List.set_append_left _ _ (by simpa[h] using ha),List.map_set]
end
def memA (o:Bool)(gm:Nat)(mem:List Int):AV:=if o then .own ⟨0,13,20⟩ gm mem.length else .sl false 1 (rowW mem)
structure Mst (code:List Int)(inp:ByteArray)(s:PS)(go gm:Nat)(hp:Hp):Prop where
 bx:hp ⟨0,13,0⟩= .box 1 (bxP code inp s.pc s.rg (memA s.own gm s.mem) s.rd s.steps s.en s.own go s.out.length) false
 out:hp ⟨0,13,26⟩= .arr go 1 5 (rowB s.out) false
 mem:s.own=true→hp ⟨0,13,20⟩= .arr gm 1 22 (rowW s.mem) false
def inpF (s:ByteArray):Inp:=fun k=>(s.data[k]?).map fun b=>(b.toNat:Int)
end
section
open Go Go.Ab Go.Ma
section
variable {P:Program}{E:Cfg}{k:Nat}{call:Orc}{all:Array Oper}{os:List Oper}{fr:Nat→AV}{hp:Hp}{Q:AS→Prop}{d d' j:Nat}{op:Op}{ty:TypeId}{pos:String}{aft:Array Edge}{b:Bool}{fs:List Foot}
end
theorem beq_dec (v w:Int):(v==w)=decide (v=w):=by by_cases h:v=w<;>simp[h]
theorem bne_dec (v w:Int):(v !=w)=decide (v≠w):=by by_cases h:v=w<;>simp[h]
def shOk (n:Nat):Option (List AV)→Bool
 |some [.agg [.sc (.string s),.sc (.bool a),.sc (.bool b),.sc (.int .i64 c)]]=>(decide (s≠⟨#[]⟩)==(decide (1≤n)&&decide (n≤27)))&&(a==hasA n)&&(b==hasB n)&&decide (c=(kC n:Int))
 |_=>false
theorem shape_all :(List.range 256).all (fun n=>shOk n ((evCall Tryz.prog E00 X00 300).dat 275 [iv n]))=true:=by kernel_rfl
theorem m176 (n:Nat)(h:n<256): ∃s,(lim Tryz.prog E00 X00).dat 275 [iv n]=some [.agg [.sc (.string s),bv (hasA n),bv (hasB n),iv (kC n)]]∧decide (s=⟨#[]⟩)= !(decide (1≤n)&&decide (n≤27)):=by
 have h1:=List.all_eq_true.1 shape_all n (List.mem_range.2 h)
 generalize hr:(evCall Tryz.prog E00 X00 300).dat 275 [iv n]=r at h1
 unfold shOk at h1
 split at h1
 ·rename_i s a b c
  simp only[Bool.and_eq_true,beq_iff_eq,decide_eq_true_eq] at h1
  obtain⟨⟨⟨h2,h3⟩,h4⟩,h5⟩:=h1
  subst h3 h4 h5
  refine⟨s,lim_dat.2 ⟨300,hr⟩,?_⟩
  rw[←h2]
  by_cases e:s=⟨#[]⟩<;>simp[e]
 ·cases h1
theorem m177 (v m:Int)(n:Bool):(lim Tryz.prog E00 X00).dat 276 [iv v,iv m,bv n]=some [bv (wi n v m)]:=by
 refine fnW Tryz.func276 rfl rfl bodyOk_276 rfl rtys_276 rfl ?_
 unfold wi
 cases n
 all_goals
   repeat' (first|(refine ZN ?_)|(refine Z2 ?_ ?_)|(intro h h';try simp[*,-h] at h'))
 all_goals (try simp[*,beq_dec])
theorem m175 (n:Nat)(h:n<256):(lim Tryz.prog E00 X00).dat 274 [iv n]=some [bv (decide (1≤n)&&decide (n≤27))]:=by
 refine fnW Tryz.func274 rfl rfl bodyOk_274 rfl rtys_274 rfl ?_
 obtain⟨s,hs,hq⟩:=m176 n h
 generalize (decide (1≤n)&&decide (n≤27))=kn at*
 repeat' (first|(refine ZN ?_)|(refine Z2 ?_ ?_)|(intro h h';try simp[*,-h] at h'))
 all_goals simp[hq]
theorem rightI_eq (n a b c:Nat):rightI ⟨n,a,b,c⟩=((decide (1≤n)&&decide (n≤27))&&wi (hasA n) a 15&&wi (hasB n) b 15&&wi (decide ((kC n:Int)≠0)) c (if (kC n:Int)=2 then 15 else 65535)):=by
 have e1:decide (1≤(n:Int))=decide (1≤n):=decide_eq_decide.2 (by omega)
 have e2:decide ((n:Int)≤27)=decide (n≤27):=decide_eq_decide.2 (by omega)
 have e3:decide (kC (n:Int)≠0)=decide ((kC n:Int)≠0):=decide_eq_decide.2 (by omega)
 have e4:(if kC (n:Int)=2 then(15:Int) else 65535)=if (kC n:Int)=2 then 15 else 65535:=by
  by_cases h:kC (n:Int)=2
  ·rw[if_pos h,if_pos (by omega)]
  ·rw[if_neg h,if_neg (by omega)]
 unfold rightI
 simp only[e1,e2,e3,e4]
theorem m132 (n a b c:Nat)(h:n<256):(lim Tryz.prog E00 X00).dat 201 [.agg [iv n,iv a,iv b,iv c]]=some [bv (rightI ⟨n,a,b,c⟩)]:=by
 refine fnW Tryz.func201 rfl rfl bodyOk_201 rfl rtys_201 rfl ?_
 obtain⟨s,hs,hq⟩:=m176 n h
 have h175:=m175 n h
 have ha:=m177 a 15 (hasA n)
 have hb:=m177 b 15 (hasB n)
 have hc1:=m177 c 65535 (decide ((kC n:Int)≠0))
 have hc2:=m177 c 15 (decide ((kC n:Int)≠0))
 rw[rightI_eq]
 have hkb:=bne_dec (kC n:Int) 0
 generalize (decide (1≤n)&&decide (n≤27))=kn at*
 generalize hasA n=xa at*
 generalize hasB n=xb at*
 generalize (kC n:Int)=kc at*
 by_cases h2:kc=2
 all_goals
  generalize decide (kc≠0)=k0 at*
  simp only[h2,if_true,if_false]
  generalize wi xa a 15=wa at*
  generalize wi xb b 15=wb at*
  generalize wi k0 c 15=wc1 at*
  generalize wi k0 c 65535=wc2 at*
  try (subst h2;obtain rfl:k0=true:=by simpa using hkb.symm)
  repeat' (first|(refine ZN ?_)|(refine Z2 ?_ ?_)|(intro h h';try simp[*,-h] at h'))
 all_goals simp[*]
def decP (w:Int):List AV:=if rightI (insW w) then[iv (insW w).op,iv (insW w).a,iv (insW w).b,iv (insW w).c] else[iv 0,iv 0,iv 0,iv 0]
theorem U_and {x:Int}(h:Ma.U x):IntKind.u32.wrap (andW x 15)=x%16∧IntKind.u32.wrap (andW x 65535)=x%65536:=by
 rw[andW_15 h,andW_65535 h]
 unfold Ma.U at h
 exact⟨by rw[IntKind.wrap_u32];omega,by rw[IntKind.wrap_u32];omega⟩
end
section
open Go Go.Ab Go.Ma
theorem m362 (w:Int)(hU:Ma.U w):(lim Tryz.prog E00 X00).dat 247 [uv w]=some [.agg (decP w),iv (if rightI (insW w) then 0 else 7)]:=by
 refine fnW Tryz.func247 rfl rfl bodyOk_247 rfl rtys_247 rfl ?_
 obtain⟨n,hn⟩: ∃n:Nat,w/16777216=n∧n<256:=⟨(w/16777216).toNat,by unfold Ma.U at hU;omega,by unfold Ma.U at hU;omega⟩
 obtain⟨a,ha⟩: ∃a:Nat,w/1048576%16=a:=⟨(w/1048576%16).toNat,by omega⟩
 obtain⟨b,hb⟩: ∃b:Nat,w/65536%16=b:=⟨(w/65536%16).toNat,by omega⟩
 obtain⟨c,hc⟩: ∃c:Nat,w%65536=c:=⟨(w%65536).toNat,by omega⟩
 have hins:insW w=⟨n,a,b,c⟩:=by unfold insW;rw[hn.1,ha,hb,hc]
 have h132:=m132 n a b c hn.2
 have d1:w.fdiv (2^min 24 IntKind.u32.bits)=n:=by rw[show(2:Int)^min 24 IntKind.u32.bits=16777216 from rfl,Int.fdiv_eq_ediv_of_nonneg _ (by decide)];exact hn.1
 have d2:w.fdiv (2^min 20 IntKind.u32.bits)=w/1048576:=by rw[show(2:Int)^min 20 IntKind.u32.bits=1048576 from rfl];exact Int.fdiv_eq_ediv_of_nonneg _ (by decide)
 have d3:w.fdiv (2^min 16 IntKind.u32.bits)=w/65536:=by rw[show(2:Int)^min 16 IntKind.u32.bits=65536 from rfl];exact Int.fdiv_eq_ediv_of_nonneg _ (by decide)
 have u2:Ma.U (w/1048576):=by unfold Ma.U at*;omega
 have u3:Ma.U (w/65536):=by unfold Ma.U at*;omega
 have w2:IntKind.u32.wrap (((w/1048576%2^IntKind.u32.bits).toNat&&&15%2^IntKind.u32.bits:Nat):Int)=a:=by have h:=(U_and u2).1;rw[and_form,ha] at h;exact h
 have w3:IntKind.u32.wrap (((w/65536%2^IntKind.u32.bits).toNat&&&15%2^IntKind.u32.bits:Nat):Int)=b:=by have h:=(U_and u3).1;rw[and_form,hb] at h;exact h
 have w4:IntKind.u32.wrap (((w%2^IntKind.u32.bits).toNat&&&65535%2^IntKind.u32.bits:Nat):Int)=c:=by have h:=(U_and hU).2;rw[and_form,hc] at h;exact h
 have i1:IntKind.i64.wrap (n:Int)=n:=wrap64 (by omega) (by omega)
 have i2:IntKind.i64.wrap (a:Int)=a:=wrap64 (by omega) (by omega)
 have i3:IntKind.i64.wrap (b:Int)=b:=wrap64 (by omega) (by omega)
 have i4:IntKind.i64.wrap (c:Int)=c:=wrap64 (by omega) (by omega)
 unfold decP
 rw[hins]
 simp only
 clear hins hU
 generalize rightI ⟨n,a,b,c⟩=r at*
 cases r
 all_goals
  repeat' (first|(refine ZN ?_)|(refine Z2 ?_ ?_)|(intro h h';try simp[*,-h] at h'))
 all_goals rfl
theorem m402_4 (x y:Int):(lim Tryz.prog E00 X00).dat 318 [iv 4,uv x,uv y]=some [uv (IntKind.u32.wrap (x+y)),iv 0]:=lim_dat.2 ⟨100,by kernel_rfl⟩
theorem m402_5 (x y:Int):(lim Tryz.prog E00 X00).dat 318 [iv 5,uv x,uv y]=some [uv (IntKind.u32.wrap (x - y)),iv 0]:=lim_dat.2 ⟨100,by kernel_rfl⟩
theorem m402_6 (x y:Int):(lim Tryz.prog E00 X00).dat 318 [iv 6,uv x,uv y]=some [uv (IntKind.u32.wrap (x*y)),iv 0]:=lim_dat.2 ⟨100,by kernel_rfl⟩
theorem m402_9 (x y:Int):(lim Tryz.prog E00 X00).dat 318 [iv 9,uv x,uv y]=some [uv (IntKind.u32.wrap (andW x y)),iv 0]:=lim_dat.2 ⟨100,by kernel_rfl⟩
theorem m402_10 (x y:Int):(lim Tryz.prog E00 X00).dat 318 [iv 10,uv x,uv y]=some [uv (IntKind.u32.wrap (orW x y)),iv 0]:=lim_dat.2 ⟨100,by kernel_rfl⟩
theorem m402_11 (x y:Int):(lim Tryz.prog E00 X00).dat 318 [iv 11,uv x,uv y]=some [uv (IntKind.u32.wrap (xorW x y)),iv 0]:=lim_dat.2 ⟨100,by kernel_rfl⟩
theorem m414_7 (x y:Int):(lim Tryz.prog E00 X00).dat 345 [iv 7,uv x,uv y]=some [uv (if y=0 then 0 else IntKind.u32.wrap (x.tdiv y)),iv (if y=0 then 14 else 0)]:=by
 refine fnW Tryz.func345 rfl rfl bodyOk_345 rfl rtys_345 rfl ?_
 by_cases h:y=0
 all_goals have hb:=beq_dec y 0
 all_goals simp only[h,if_true,if_false,decide_true,decide_false] at hb⊢
 all_goals
  repeat' (first|(refine ZN ?_)|(refine Z2 ?_ ?_)|(intro h h';try simp[*,-h] at h'))
 all_goals simp[*]
theorem m414_8 (x y:Int):(lim Tryz.prog E00 X00).dat 345 [iv 8,uv x,uv y]=some [uv (if y=0 then 0 else x.tmod y),iv (if y=0 then 14 else 0)]:=by
 refine fnW Tryz.func345 rfl rfl bodyOk_345 rfl rtys_345 rfl ?_
 by_cases h:y=0
 all_goals have hb:=beq_dec y 0
 all_goals simp only[h,if_true,if_false,decide_true,decide_false] at hb⊢
 all_goals
  repeat' (first|(refine ZN ?_)|(refine Z2 ?_ ?_)|(intro h h';try simp[*,-h] at h'))
 all_goals simp[*]
theorem m415_12 (x y:Int)(hy:Ma.U y):(lim Tryz.prog E00 X00).dat 346 [iv 12,uv x,uv y]=some [uv (if 31<y then 0 else IntKind.u32.wrap (x*2^(min y.toNat 32)))]:=by
 refine fnW Tryz.func346 rfl rfl bodyOk_346 rfl rtys_346 rfl ?_
 have hn: ¬y<0:=by have:=hy.1;omega
 by_cases h:31<y
 all_goals simp only[h,if_true,if_false]
 all_goals
  repeat' (first|(refine ZN ?_)|(refine Z2 ?_ ?_)|(intro h h';try simp[*,-h] at h'))
 all_goals rfl
theorem m415_13 (x y:Int)(hy:Ma.U y):(lim Tryz.prog E00 X00).dat 346 [iv 13,uv x,uv y]=some [uv (if 31<y then 0 else x.fdiv (2^(min y.toNat 32)))]:=by
 refine fnW Tryz.func346 rfl rfl bodyOk_346 rfl rtys_346 rfl ?_
 have hn: ¬y<0:=by have:=hy.1;omega
 by_cases h:31<y
 all_goals simp only[h,if_true,if_false]
 all_goals
  repeat' (first|(refine ZN ?_)|(refine Z2 ?_ ?_)|(intro h h';try simp[*,-h] at h'))
 all_goals rfl
theorem m416_14 (x y:Int):(lim Tryz.prog E00 X00).dat 347 [iv 14,uv x,uv y]=some [uv (if x<y then 1 else 0)]:=by
 refine fnW Tryz.func347 rfl rfl bodyOk_347 rfl rtys_347 rfl ?_
 have hb:=beq_dec x y
 by_cases h:x<y
 all_goals simp only[h,if_true,if_false,decide_true,decide_false] at hb⊢
 all_goals
  repeat' (first|(refine ZN ?_)|(refine Z2 ?_ ?_)|(intro h h';try simp[*,-h] at h'))
 all_goals rfl
theorem m416_15 (x y:Int):(lim Tryz.prog E00 X00).dat 347 [iv 15,uv x,uv y]=some [uv (if x=y then 1 else 0)]:=by
 refine fnW Tryz.func347 rfl rfl bodyOk_347 rfl rtys_347 rfl ?_
 have hb:=beq_dec x y
 by_cases h:x=y
 all_goals simp only[h,if_true,if_false,decide_true,decide_false] at hb⊢
 all_goals
  repeat' (first|(refine ZN ?_)|(refine Z2 ?_ ?_)|(intro h h';try simp[*,-h] at h'))
 all_goals rfl
theorem m402_7 (x y:Int):(lim Tryz.prog E00 X00).dat 318 [iv 7,uv x,uv y]=some [uv (if y=0 then 0 else IntKind.u32.wrap (x.tdiv y)),iv (if y=0 then 14 else 0)]:=by
 refine fnW Tryz.func318 rfl rfl bodyOk_318 rfl rtys_318 rfl ?_
 have h414:=m414_7 x y
 generalize (if y=0 then 0 else IntKind.u32.wrap (x.tdiv y))=v1 at*
 generalize (if y=0 then(14:Int) else 0)=v2 at*
 repeat' (first|(refine ZN ?_)|(refine Z2 ?_ ?_)|(intro h h';try simp[*,-h] at h'))
 all_goals rfl
theorem m402_8 (x y:Int):(lim Tryz.prog E00 X00).dat 318 [iv 8,uv x,uv y]=some [uv (if y=0 then 0 else x.tmod y),iv (if y=0 then 14 else 0)]:=by
 refine fnW Tryz.func318 rfl rfl bodyOk_318 rfl rtys_318 rfl ?_
 have h414:=m414_8 x y
 generalize (if y=0 then 0 else x.tmod y)=v1 at*
 generalize (if y=0 then(14:Int) else 0)=v2 at*
 repeat' (first|(refine ZN ?_)|(refine Z2 ?_ ?_)|(intro h h';try simp[*,-h] at h'))
 all_goals rfl
theorem m402_12 (x y:Int)(hy:Ma.U y):(lim Tryz.prog E00 X00).dat 318 [iv 12,uv x,uv y]=some [uv (if 31<y then 0 else IntKind.u32.wrap (x*2^(min y.toNat 32))),iv 0]:=by
 refine fnW Tryz.func318 rfl rfl bodyOk_318 rfl rtys_318 rfl ?_
 have h41:=m415_12 x y hy
 generalize (if 31<y then 0 else IntKind.u32.wrap (x*2^(min y.toNat 32)))=v1 at*
 repeat' (first|(refine ZN ?_)|(refine Z2 ?_ ?_)|(intro h h';try simp[*,-h] at h'))
 all_goals rfl
theorem m402_13 (x y:Int)(hy:Ma.U y):(lim Tryz.prog E00 X00).dat 318 [iv 13,uv x,uv y]=some [uv (if 31<y then 0 else x.fdiv (2^(min y.toNat 32))),iv 0]:=by
 refine fnW Tryz.func318 rfl rfl bodyOk_318 rfl rtys_318 rfl ?_
 have h41:=m415_13 x y hy
 generalize (if 31<y then 0 else x.fdiv (2^(min y.toNat 32)))=v1 at*
 repeat' (first|(refine ZN ?_)|(refine Z2 ?_ ?_)|(intro h h';try simp[*,-h] at h'))
 all_goals rfl
theorem m402_14 (x y:Int):(lim Tryz.prog E00 X00).dat 318 [iv 14,uv x,uv y]=some [uv (if x<y then 1 else 0),iv 0]:=by
 refine fnW Tryz.func318 rfl rfl bodyOk_318 rfl rtys_318 rfl ?_
 have h41:=m416_14 x y
 generalize (if x<y then 1 else 0)=v1 at*
 repeat' (first|(refine ZN ?_)|(refine Z2 ?_ ?_)|(intro h h';try simp[*,-h] at h'))
 all_goals rfl
theorem m402_15 (x y:Int):(lim Tryz.prog E00 X00).dat 318 [iv 15,uv x,uv y]=some [uv (if x=y then 1 else 0),iv 0]:=by
 refine fnW Tryz.func318 rfl rfl bodyOk_318 rfl rtys_318 rfl ?_
 have h41:=m416_15 x y
 generalize (if x=y then 1 else 0)=v1 at*
 repeat' (first|(refine ZN ?_)|(refine Z2 ?_ ?_)|(intro h h';try simp[*,-h] at h'))
 all_goals rfl
theorem m402 (op:Nat)(x y:Int)(h4:4≤op)(h15:op≤15)(hx:Ma.U x)(hy:Ma.U y):(lim Tryz.prog E00 X00).dat 318 [iv op,uv x,uv y]=some [uv ((apP op x y).getD 0),iv (if (apP op x y).isSome then 0 else 14)]:=by
 have x0:=hx.1
 have y0:=hy.1
 have ub: ∀b:BitVec 32,IntKind.u32.wrap (b.toNat:Int)=b.toNat:=fun b=>wrap_U (U_bits b)
 obtain rfl|rfl|rfl|rfl|rfl|rfl|rfl|rfl|rfl|rfl|rfl|rfl:op=4∨op=5∨op=6∨op=7∨op=8∨op=9∨op=10∨op=11∨op=12∨op=13∨op=14∨op=15:=by omega
 ·refine(m402_4 x y).trans ?_;rw[IntKind.wrap_u32];simp[apP]
 ·refine(m402_5 x y).trans ?_;rw[IntKind.wrap_u32];simp[apP]
 ·refine(m402_6 x y).trans ?_;rw[IntKind.wrap_u32];simp[apP]
 ·refine(m402_7 x y).trans ?_
  by_cases h:y=0
  ·simp[apP,h]
  ·have h1:=apP_U (op:=7) hx hy (x:=x/y) (by simp[apP,h])
   rw[Int.tdiv_eq_ediv_of_nonneg x0,wrap_U h1]
   simp[apP,h]
 ·refine(m402_8 x y).trans ?_
  by_cases h:y=0
  ·simp[apP,h]
  ·rw[Int.tmod_eq_emod_of_nonneg x0]
   simp[apP,h]
 ·refine(m402_9 x y).trans ?_;unfold andW;rw[ub];simp[apP,andW]
 ·refine(m402_10 x y).trans ?_;unfold orW;rw[ub];simp[apP,orW]
 ·refine(m402_11 x y).trans ?_;unfold xorW;rw[ub];simp[apP,xorW]
 ·refine(m402_12 x y hy).trans ?_
  by_cases h:31<y
  ·simp[apP,h]
  ·rw[Nat.min_eq_left (by omega),IntKind.wrap_u32];simp[apP,h]
 ·refine(m402_13 x y hy).trans ?_
  by_cases h:31<y
  ·simp[apP,h]
  ·rw[Nat.min_eq_left (by omega),Int.fdiv_eq_ediv_of_nonneg _ (Int.le_of_lt (Int.pow_pos (by decide)))];simp[apP,h]
 ·refine(m402_14 x y).trans ?_;simp[apP]
 ·refine(m402_15 x y).trans ?_;simp[apP]
end
section
open Go Go.Ab Go.Ma
variable {code:List Int}{inp:ByteArray}{pc:Int}{rg:List Int}{M:AV}{rd steps en:Int}{o:Bool}{go no:Nat}
theorem bx_regg {a:Nat}(h:rg.length=16)(ha:a<16)(hl:3+a<(bxP code inp pc rg M rd steps en o go no).length):(bxP code inp pc rg M rd steps en o go no)[3+a]=uv ((rg[a]?).getD 0):=by
 have h1:=bx_reg (code:=code) (inp:=inp) (pc:=pc) (M:=M) (rd:=rd) (steps:=steps) (en:=en) (o:=o) (go:=go) (no:=no) h ha
 rw[List.getElem?_eq_getElem hl] at h1
 rw[List.getElem?_eq_getElem (by omega)] at h1⊢
 simpa using h1
theorem bg_2 (h:rg.length=16)(hl:2<(bxP code inp pc rg M rd steps en o go no).length):(bxP code inp pc rg M rd steps en o go no)[2]=iv pc:=by
 have h1:(bxP code inp pc rg M rd steps en o go no)[2]?=some (iv pc):=bx_2
 rw[List.getElem?_eq_getElem hl] at h1
 exact Option.some.inj h1
theorem bg_19 (h:rg.length=16)(hl:19<(bxP code inp pc rg M rd steps en o go no).length):(bxP code inp pc rg M rd steps en o go no)[19]=M:=by
 have h1:(bxP code inp pc rg M rd steps en o go no)[19]?=some (M):=bx_19 h
 rw[List.getElem?_eq_getElem hl] at h1
 exact Option.some.inj h1
theorem bg_20 (h:rg.length=16)(hl:20<(bxP code inp pc rg M rd steps en o go no).length):(bxP code inp pc rg M rd steps en o go no)[20]=iv rd:=by
 have h1:(bxP code inp pc rg M rd steps en o go no)[20]?=some (iv rd):=bx_20 h
 rw[List.getElem?_eq_getElem hl] at h1
 exact Option.some.inj h1
theorem bg_21 (h:rg.length=16)(hl:21<(bxP code inp pc rg M rd steps en o go no).length):(bxP code inp pc rg M rd steps en o go no)[21]= .sc (.string ⟨#[]⟩):=by
 have h1:(bxP code inp pc rg M rd steps en o go no)[21]?=some (.sc (.string ⟨#[]⟩)):=bx_21 h
 rw[List.getElem?_eq_getElem hl] at h1
 exact Option.some.inj h1
theorem bg_22 (h:rg.length=16)(hl:22<(bxP code inp pc rg M rd steps en o go no).length):(bxP code inp pc rg M rd steps en o go no)[22]=iv steps:=by
 have h1:(bxP code inp pc rg M rd steps en o go no)[22]?=some (iv steps):=bx_22 h
 rw[List.getElem?_eq_getElem hl] at h1
 exact Option.some.inj h1
theorem bg_23 (h:rg.length=16)(hl:23<(bxP code inp pc rg M rd steps en o go no).length):(bxP code inp pc rg M rd steps en o go no)[23]=iv en:=by
 have h1:(bxP code inp pc rg M rd steps en o go no)[23]?=some (iv en):=bx_23 h
 rw[List.getElem?_eq_getElem hl] at h1
 exact Option.some.inj h1
theorem bg_24 (h:rg.length=16)(hl:24<(bxP code inp pc rg M rd steps en o go no).length):(bxP code inp pc rg M rd steps en o go no)[24]=bv o:=by
 have h1:(bxP code inp pc rg M rd steps en o go no)[24]?=some (bv o):=bx_24 h
 rw[List.getElem?_eq_getElem hl] at h1
 exact Option.some.inj h1
theorem bg_25 (h:rg.length=16)(hl:25<(bxP code inp pc rg M rd steps en o go no).length):(bxP code inp pc rg M rd steps en o go no)[25]= .own ⟨0,13,26⟩ go no:=by
 have h1:(bxP code inp pc rg M rd steps en o go no)[25]?=some (.own ⟨0,13,26⟩ go no):=bx_25 h
 rw[List.getElem?_eq_getElem hl] at h1
 exact Option.some.inj h1
attribute [-simp] Prog.bind getCs putCs
attribute [local simp ↓] run_bind
attribute [local simp ↓] runF_bind
attribute [local simp] run_getCsN runF_getCsN facetsC putCs_one run_putCsN
attribute [local simp] take1 bx_len bx_2 bx_19 bx_20 bx_21 bx_22 bx_23 bx_24 bx_25 bx_reg bs_2 bs_19 bs_20 bs_22 bs_23 bs_24 bs_25 bs_reg bx_regg bg_2 bg_19 bg_20 bg_21 bg_22 bg_23 bg_24 bg_25
theorem getV {l:List Int}{n:Nat}{x:Int}(h:l[n]?=some x): ∀h',l[n]'h'=x:=fun h'=>by
 rw[List.getElem?_eq_getElem h'] at h
 exact Option.some.inj h
theorem skol {C:Hp→Prop}{P:Nat→Hp→Hp→Prop}(h: ∀d hp,C hp→ ∃hp',P d hp hp'): ∃F:Nat→Hp→Hp,∀d hp,C hp→P d hp (F d hp):=by
 classical
 refine⟨fun d hp=>if c:C hp then Classical.choose (h d hp c) else hp,fun d hp c=>?_⟩
 simp only[dif_pos c]
 exact Classical.choose_spec (h d hp c)
theorem m399_18 (na nb nc:Nat)(hpc0:0≤pc)(hpc1:pc≤4294967296)(hrl:rg.length=16)(d:Nat)(hp1:Hp)(hx:hp1 ⟨0,13,0⟩= .box 1 (bxP code inp pc rg M rd steps en o go no) false):
  ∃hp',(lim Tryz.prog E00 X00).hpc 3 d 315 [.ptr ⟨0,13,0⟩ 1 0,.agg [iv 18,iv na,iv nb,iv nc]] hp1=some (.tup [],hp')∧hp' ⟨0,13,0⟩= .box 1 (bxP code inp (nc:Int) rg M rd steps en o go no) false∧ ∀y:Nm,y.d=0→y≠⟨0,13,0⟩→hp' y=hp1 y:=by
 refine hpcZ Tryz.func315 rfl rfl bodyOk_315 rfl rfl ?_
 have hw:IntKind.i64.wrap (pc+1)=pc+1:=wrap64 (by omega) (by omega)
 repeat' (first|(refine ZN ?_)|(refine Z2 ?_ ?_)|(intro h h';try simp[*,-h] at h'))
 all_goals exact⟨by simp,_,_,rfl,rfl,by simp[*],Zya⟩
theorem m399_19 (na nb nc:Nat)(xa:Int)(hpc0:0≤pc)(hpc1:pc≤4294967296)(hrl:rg.length=16)(d:Nat)(hp1:Hp)(hx:hp1 ⟨0,13,0⟩= .box 1 (bxP code inp pc rg M rd steps en o go no) false)(ha:na<16)(hga:rg[na]?=some xa):
  ∃hp',(lim Tryz.prog E00 X00).hpc 3 d 315 [.ptr ⟨0,13,0⟩ 1 0,.agg [iv 19,iv na,iv nb,iv nc]] hp1=some (.tup [],hp')∧hp' ⟨0,13,0⟩= .box 1 (bxP code inp (if xa=0 then(nc:Int) else pc+1) rg M rd steps en o go no) false∧ ∀y:Nm,y.d=0→y≠⟨0,13,0⟩→hp' y=hp1 y:=by
 refine hpcZ Tryz.func315 rfl rfl bodyOk_315 rfl rfl ?_
 have hA:=regA ha
 have hga':=getV hga
 have hw:IntKind.i64.wrap (pc+1)=pc+1:=wrap64 (by omega) (by omega)
 have hb:=beq_dec xa 0
 by_cases h0:xa=0
 all_goals simp only[h0,if_true,if_false,decide_true,decide_false] at hb⊢
 all_goals (try subst h0)
 all_goals
 repeat' (first|(refine ZN ?_)|(refine Z2 ?_ ?_)|(intro h h';try simp[*,-h] at h'))
 all_goals exact⟨by simp,_,_,rfl,rfl,by simp[*],Zya⟩
theorem m399_20 (na nb nc:Nat)(xa:Int)(hpc0:0≤pc)(hpc1:pc≤4294967296)(hrl:rg.length=16)(d:Nat)(hp1:Hp)(hx:hp1 ⟨0,13,0⟩= .box 1 (bxP code inp pc rg M rd steps en o go no) false)(ha:na<16)(hga:rg[na]?=some xa):
  ∃hp',(lim Tryz.prog E00 X00).hpc 3 d 315 [.ptr ⟨0,13,0⟩ 1 0,.agg [iv 20,iv na,iv nb,iv nc]] hp1=some (.tup [],hp')∧hp' ⟨0,13,0⟩= .box 1 (bxP code inp (if xa≠0 then(nc:Int) else pc+1) rg M rd steps en o go no) false∧ ∀y:Nm,y.d=0→y≠⟨0,13,0⟩→hp' y=hp1 y:=by
 refine hpcZ Tryz.func315 rfl rfl bodyOk_315 rfl rfl ?_
 have hA:=regA ha
 have hga':=getV hga
 have hw:IntKind.i64.wrap (pc+1)=pc+1:=wrap64 (by omega) (by omega)
 have hb:=bne_dec xa 0
 by_cases h0:xa=0
 all_goals simp only[ne_eq,h0,not_true,not_false_iff,if_true,if_false,decide_true,decide_false] at hb⊢
 all_goals (try subst h0)
 all_goals
 repeat' (first|(refine ZN ?_)|(refine Z2 ?_ ?_)|(intro h h';try simp[*,-h] at h'))
 all_goals exact⟨by simp,_,_,rfl,rfl,by simp[*],Zya⟩
theorem m399_21 (na nb nc:Nat)(hpc0:0≤pc)(hpc1:pc≤4294967296)(hrl:rg.length=16)(d:Nat)(hp1:Hp)(hx:hp1 ⟨0,13,0⟩= .box 1 (bxP code inp pc rg M rd steps en o go no) false)(ha:na<16):
  ∃hp',(lim Tryz.prog E00 X00).hpc 3 d 315 [.ptr ⟨0,13,0⟩ 1 0,.agg [iv 21,iv na,iv nb,iv nc]] hp1=some (.tup [],hp')∧hp' ⟨0,13,0⟩= .box 1 (bxP code inp (nc:Int) (rg.set na ((pc+1)%4294967296)) M rd steps en o go no) false∧ ∀y:Nm,y.d=0→y≠⟨0,13,0⟩→hp' y=hp1 y:=by
 refine hpcZ Tryz.func315 rfl rfl bodyOk_315 rfl rfl ?_
 have hA:=regA ha
 have hw:IntKind.i64.wrap (pc+1)=pc+1:=wrap64 (by omega) (by omega)
 have hw2:IntKind.u32.wrap (pc+1)=(pc+1)%4294967296:=IntKind.wrap_u32 _
 repeat' (first|(refine ZN ?_)|(refine Z2 ?_ ?_)|(intro h h';try simp[*,-h] at h'))
 all_goals exact⟨by simp,_,_,rfl,rfl,by simp[*],Zya⟩
theorem m399_22 (na nb nc:Nat)(xa:Int)(hxa:Ma.U xa)(hpc0:0≤pc)(hpc1:pc≤4294967296)(hrl:rg.length=16)(d:Nat)(hp1:Hp)(hx:hp1 ⟨0,13,0⟩= .box 1 (bxP code inp pc rg M rd steps en o go no) false)(ha:na<16)(hga:rg[na]?=some xa):
  ∃hp',(lim Tryz.prog E00 X00).hpc 3 d 315 [.ptr ⟨0,13,0⟩ 1 0,.agg [iv 22,iv na,iv nb,iv nc]] hp1=some (.tup [],hp')∧hp' ⟨0,13,0⟩= .box 1 (bxP code inp xa rg M rd steps en o go no) false∧ ∀y:Nm,y.d=0→y≠⟨0,13,0⟩→hp' y=hp1 y:=by
 refine hpcZ Tryz.func315 rfl rfl bodyOk_315 rfl rfl ?_
 have hA:=regA ha
 have hga':=getV hga
 have hw:IntKind.i64.wrap (pc+1)=pc+1:=wrap64 (by omega) (by omega)
 have hw2:IntKind.i64.wrap xa=xa:=by unfold Ma.U at hxa;exact wrap64 (by omega) (by omega)
 clear hxa
 repeat' (first|(refine ZN ?_)|(refine Z2 ?_ ?_)|(intro h h';try simp[*,-h] at h'))
 all_goals exact⟨by simp,_,_,rfl,rfl,by simp[*],Zya⟩
end
section
open Go Go.Ab Go.Ma
attribute [-simp] Prog.bind getCs putCs
attribute [local simp ↓] run_bind
attribute [local simp ↓] runF_bind
attribute [local simp] run_getCsN runF_getCsN facetsC putCs_one run_putCsN
attribute [local simp] take1 bx_len bx_2 bx_19 bx_20 bx_21 bx_22 bx_23 bx_24 bx_25 bx_reg bs_2 bs_19 bs_20 bs_22 bs_23 bs_24 bs_25 bs_reg bx_regg bg_2 bg_19 bg_20 bg_21 bg_22 bg_23 bg_24 bg_25
variable {code:List Int}{inp:ByteArray}{pc:Int}{rg:List Int}{M:AV}{rd steps en:Int}{o:Bool}{go no:Nat}
theorem rowW_set (l:List Int)(i:Nat)(x:Int):(rowW l).set i [uv x]=rowW (l.set i x):=by simp[List.map_set]
theorem rowW_len (l:List Int):(rowW l).length=l.length:=List.length_map ..
theorem m413 (x0:Int)(l:List Int)(hl:l.length+1≤1048576):(lim Tryz.prog E00 X00).dat 344 [.sl false 1 ([uv x0]::rowW l)]=some [.vec 1 ([uv x0]::rowW l)]:=by
 refine fnW Tryz.func344 rfl rfl bodyOk_344 rfl rtys_344 rfl ?_
 have n1:(l.length+1)*4≤140737488355328:=by omega
 have n2:l.length≤9223372036854775806:=by omega
 have n3:l.length+1≤9223372036854775807:=by omega
 repeat' (first|(refine ZN ?_)|(refine Z2 ?_ ?_)|(intro h h';try simp[*,-h] at h'))
 all_goals rfl
theorem m413' (l:List Int)(h0:0<l.length)(hl:l.length≤1048576):(lim Tryz.prog E00 X00).dat 344 [.sl false 1 (rowW l)]=some [.vec 1 (rowW l)]:=by
 match l,h0 with
 |x::l,_=>exact m413 x l (by simpa using hl)
theorem m400_27i (na nb nc at_:Nat)(xb:Int)(hnc:nc≤65535)(hat:(xb+nc)%4294967296=at_)(x:Int)(hcx:code[at_]?=some x)(hrl:rg.length=16)(d:Nat)(hp1:Hp)(hx:hp1 ⟨0,13,0⟩= .box 1 (bxP code inp pc rg M rd steps en o go no) false)(ha:na<16)(hb16:nb<16)(hgb:rg[nb]?=some xb):
  ∃hp',(lim Tryz.prog E00 X00).hpc 3 d 316 [.ptr ⟨0,13,0⟩ 1 0,.agg [iv 27,iv na,iv nb,iv nc]] hp1=some (bv true,hp')∧hp' ⟨0,13,0⟩= .box 1 (bxP code inp pc (rg.set na x) M rd steps en o go no) false∧ ∀y:Nm,y.d=0→y≠⟨0,13,0⟩→hp' y=hp1 y:=by
 refine hpcZ Tryz.func316 rfl rfl bodyOk_316 rfl rfl ?_
 have hA:=regA ha
 have hB:=regA hb16
 have hgb':=getV hgb
 have w0:IntKind.u32.wrap (nc:Int)=nc:=by rw[IntKind.wrap_u32];omega
 have w1:IntKind.u32.wrap (xb+nc)=(at_:Int):=by rw[IntKind.wrap_u32];exact hat
 have w2:IntKind.i64.wrap (at_:Int)=at_:=wrap64 (by omega) (by omega)
 clear hat
 have q1: ¬(code.length:Int)≤at_:=by have:=(List.getElem?_eq_some_iff.1 hcx).1;omega
 have q2:at_<code.length:=(List.getElem?_eq_some_iff.1 hcx).1
 have q3:=getV hcx
 repeat' (first|(refine ZN ?_)|(refine Z2 ?_ ?_)|(intro h h';try simp[*,-h] at h'))
 all_goals exact⟨by simp,_,_,rfl,rfl,by simp[*],Zya⟩
theorem m400_27o (na nb nc at_:Nat)(xb:Int)(hnc:nc≤65535)(hat:(xb+nc)%4294967296=at_)(hcx:code.length≤at_)(hrl:rg.length=16)(d:Nat)(hp1:Hp)(hx:hp1 ⟨0,13,0⟩= .box 1 (bxP code inp pc rg M rd steps en o go no) false)(ha:na<16)(hb16:nb<16)(hgb:rg[nb]?=some xb):
  ∃hp',(lim Tryz.prog E00 X00).hpc 3 d 316 [.ptr ⟨0,13,0⟩ 1 0,.agg [iv 27,iv na,iv nb,iv nc]] hp1=some (bv false,hp')∧hp' ⟨0,13,0⟩= .box 1 (bxP code inp pc rg M rd steps en o go no) false∧ ∀y:Nm,y.d=0→y≠⟨0,13,0⟩→hp' y=hp1 y:=by
 refine hpcZ Tryz.func316 rfl rfl bodyOk_316 rfl rfl ?_
 have hA:=regA ha
 have hB:=regA hb16
 have hgb':=getV hgb
 have w0:IntKind.u32.wrap (nc:Int)=nc:=by rw[IntKind.wrap_u32];omega
 have w1:IntKind.u32.wrap (xb+nc)=(at_:Int):=by rw[IntKind.wrap_u32];exact hat
 have w2:IntKind.i64.wrap (at_:Int)=at_:=wrap64 (by omega) (by omega)
 clear hat
 have q1:(code.length:Int)≤at_:=by omega
 repeat' (first|(refine ZN ?_)|(refine Z2 ?_ ?_)|(intro h h';try simp[*,-h] at h'))
 all_goals exact⟨by simp,_,_,rfl,rfl,by simp[*],Zya⟩
theorem m400_16is (na nb nc at_:Nat)(xb:Int)(hnc:nc≤65535)(hat:(xb+nc)%4294967296=at_)(mem:List Int)(gm:Nat)(hM:M= .sl false 1 (rowW mem))(x:Int)(hcx:mem[at_]?=some x)(hrl:rg.length=16)(d:Nat)(hp1:Hp)(hx:hp1 ⟨0,13,0⟩= .box 1 (bxP code inp pc rg M rd steps en o go no) false)(ha:na<16)(hb16:nb<16)(hgb:rg[nb]?=some xb):
  ∃hp',(lim Tryz.prog E00 X00).hpc 3 d 316 [.ptr ⟨0,13,0⟩ 1 0,.agg [iv 16,iv na,iv nb,iv nc]] hp1=some (bv true,hp')∧hp' ⟨0,13,0⟩= .box 1 (bxP code inp pc (rg.set na x) M rd steps en o go no) false∧ ∀y:Nm,y.d=0→y≠⟨0,13,0⟩→hp' y=hp1 y:=by
 refine hpcZ Tryz.func316 rfl rfl bodyOk_316 rfl rfl ?_
 have hA:=regA ha
 have hB:=regA hb16
 have hgb':=getV hgb
 subst hM
 have hml:=rowW_len mem
 have w0:IntKind.u32.wrap (nc:Int)=nc:=by rw[IntKind.wrap_u32];omega
 have w1:IntKind.u32.wrap (xb+nc)=(at_:Int):=by rw[IntKind.wrap_u32];exact hat
 have w2:IntKind.i64.wrap (at_:Int)=at_:=wrap64 (by omega) (by omega)
 clear hat
 have q1: ¬(mem.length:Int)≤at_:=by have:=(List.getElem?_eq_some_iff.1 hcx).1;omega
 have q2:at_<mem.length:=(List.getElem?_eq_some_iff.1 hcx).1
 have q3:=getV hcx
 repeat' (first|(refine ZN ?_)|(refine Z2 ?_ ?_)|(intro h h';try simp[*,-h] at h'))
 all_goals exact⟨by simp,_,_,rfl,rfl,by simp[*],Zya⟩
theorem m400_16os (na nb nc at_:Nat)(xb:Int)(hnc:nc≤65535)(hat:(xb+nc)%4294967296=at_)(mem:List Int)(gm:Nat)(hM:M= .sl false 1 (rowW mem))(hcx:mem.length≤at_)(hrl:rg.length=16)(d:Nat)(hp1:Hp)(hx:hp1 ⟨0,13,0⟩= .box 1 (bxP code inp pc rg M rd steps en o go no) false)(ha:na<16)(hb16:nb<16)(hgb:rg[nb]?=some xb):
  ∃hp',(lim Tryz.prog E00 X00).hpc 3 d 316 [.ptr ⟨0,13,0⟩ 1 0,.agg [iv 16,iv na,iv nb,iv nc]] hp1=some (bv false,hp')∧hp' ⟨0,13,0⟩= .box 1 (bxP code inp pc rg M rd steps en o go no) false∧ ∀y:Nm,y.d=0→y≠⟨0,13,0⟩→hp' y=hp1 y:=by
 refine hpcZ Tryz.func316 rfl rfl bodyOk_316 rfl rfl ?_
 have hA:=regA ha
 have hB:=regA hb16
 have hgb':=getV hgb
 subst hM
 have hml:=rowW_len mem
 have w0:IntKind.u32.wrap (nc:Int)=nc:=by rw[IntKind.wrap_u32];omega
 have w1:IntKind.u32.wrap (xb+nc)=(at_:Int):=by rw[IntKind.wrap_u32];exact hat
 have w2:IntKind.i64.wrap (at_:Int)=at_:=wrap64 (by omega) (by omega)
 clear hat
 have q1:(mem.length:Int)≤at_:=by omega
 repeat' (first|(refine ZN ?_)|(refine Z2 ?_ ?_)|(intro h h';try simp[*,-h] at h'))
 all_goals exact⟨by simp,_,_,rfl,rfl,by simp[*],Zya⟩
theorem m400_17os (na nb nc at_:Nat)(xb:Int)(hnc:nc≤65535)(hat:(xb+nc)%4294967296=at_)(mem:List Int)(gm:Nat)(hM:M= .sl false 1 (rowW mem))(hcx:mem.length≤at_)(hrl:rg.length=16)(d:Nat)(hp1:Hp)(hx:hp1 ⟨0,13,0⟩= .box 1 (bxP code inp pc rg M rd steps en o go no) false)(ha:na<16)(hb16:nb<16)(hgb:rg[nb]?=some xb):
  ∃hp',(lim Tryz.prog E00 X00).hpc 3 d 316 [.ptr ⟨0,13,0⟩ 1 0,.agg [iv 17,iv na,iv nb,iv nc]] hp1=some (bv false,hp')∧hp' ⟨0,13,0⟩= .box 1 (bxP code inp pc rg M rd steps en o go no) false∧ ∀y:Nm,y.d=0→y≠⟨0,13,0⟩→hp' y=hp1 y:=by
 refine hpcZ Tryz.func316 rfl rfl bodyOk_316 rfl rfl ?_
 have hA:=regA ha
 have hB:=regA hb16
 have hgb':=getV hgb
 subst hM
 have hml:=rowW_len mem
 have w0:IntKind.u32.wrap (nc:Int)=nc:=by rw[IntKind.wrap_u32];omega
 have w1:IntKind.u32.wrap (xb+nc)=(at_:Int):=by rw[IntKind.wrap_u32];exact hat
 have w2:IntKind.i64.wrap (at_:Int)=at_:=wrap64 (by omega) (by omega)
 clear hat
 have q1:(mem.length:Int)≤at_:=by omega
 repeat' (first|(refine ZN ?_)|(refine Z2 ?_ ?_)|(intro h h';try simp[*,-h] at h'))
 all_goals exact⟨by simp,_,_,rfl,rfl,by simp[*],Zya⟩
theorem m400_16iw (na nb nc at_:Nat)(xb:Int)(hnc:nc≤65535)(hat:(xb+nc)%4294967296=at_)(mem:List Int)(gm:Nat)(hM:M= .own ⟨0,13,20⟩ gm mem.length)(x:Int)(hcx:mem[at_]?=some x)(hrl:rg.length=16)(d:Nat)(hp1:Hp)(hx:hp1 ⟨0,13,0⟩= .box 1 (bxP code inp pc rg M rd steps en o go no) false)(ha:na<16)(hb16:nb<16)(hgb:rg[nb]?=some xb)(hm:hp1 ⟨0,13,20⟩= .arr gm 1 22 (rowW mem) false):
  ∃hp',(lim Tryz.prog E00 X00).hpc 3 d 316 [.ptr ⟨0,13,0⟩ 1 0,.agg [iv 16,iv na,iv nb,iv nc]] hp1=some (bv true,hp')∧hp' ⟨0,13,0⟩= .box 1 (bxP code inp pc (rg.set na x) M rd steps en o go no) false∧ ∀y:Nm,y.d=0→y≠⟨0,13,0⟩→hp' y=hp1 y:=by
 refine hpcZ Tryz.func316 rfl rfl bodyOk_316 rfl rfl ?_
 have hA:=regA ha
 have hB:=regA hb16
 have hgb':=getV hgb
 subst hM
 have hml:=rowW_len mem
 have htk:(rowW mem).take mem.length=rowW mem:=List.take_of_length_le (by simp)
 have w0:IntKind.u32.wrap (nc:Int)=nc:=by rw[IntKind.wrap_u32];omega
 have w1:IntKind.u32.wrap (xb+nc)=(at_:Int):=by rw[IntKind.wrap_u32];exact hat
 have w2:IntKind.i64.wrap (at_:Int)=at_:=wrap64 (by omega) (by omega)
 clear hat
 have q1: ¬(mem.length:Int)≤at_:=by have:=(List.getElem?_eq_some_iff.1 hcx).1;omega
 have q2:at_<mem.length:=(List.getElem?_eq_some_iff.1 hcx).1
 have q3:=getV hcx
 repeat' (first|(refine ZN ?_)|(refine Z2 ?_ ?_)|(intro h h';try simp[*,-h] at h'))
 all_goals exact⟨by simp,_,_,rfl,rfl,by simp[*],Zya⟩
theorem m400_16ow (na nb nc at_:Nat)(xb:Int)(hnc:nc≤65535)(hat:(xb+nc)%4294967296=at_)(mem:List Int)(gm:Nat)(hM:M= .own ⟨0,13,20⟩ gm mem.length)(hcx:mem.length≤at_)(hrl:rg.length=16)(d:Nat)(hp1:Hp)(hx:hp1 ⟨0,13,0⟩= .box 1 (bxP code inp pc rg M rd steps en o go no) false)(ha:na<16)(hb16:nb<16)(hgb:rg[nb]?=some xb)(hm:hp1 ⟨0,13,20⟩= .arr gm 1 22 (rowW mem) false):
  ∃hp',(lim Tryz.prog E00 X00).hpc 3 d 316 [.ptr ⟨0,13,0⟩ 1 0,.agg [iv 16,iv na,iv nb,iv nc]] hp1=some (bv false,hp')∧hp' ⟨0,13,0⟩= .box 1 (bxP code inp pc rg M rd steps en o go no) false∧ ∀y:Nm,y.d=0→y≠⟨0,13,0⟩→hp' y=hp1 y:=by
 refine hpcZ Tryz.func316 rfl rfl bodyOk_316 rfl rfl ?_
 have hA:=regA ha
 have hB:=regA hb16
 have hgb':=getV hgb
 subst hM
 have hml:=rowW_len mem
 have htk:(rowW mem).take mem.length=rowW mem:=List.take_of_length_le (by simp)
 have w0:IntKind.u32.wrap (nc:Int)=nc:=by rw[IntKind.wrap_u32];omega
 have w1:IntKind.u32.wrap (xb+nc)=(at_:Int):=by rw[IntKind.wrap_u32];exact hat
 have w2:IntKind.i64.wrap (at_:Int)=at_:=wrap64 (by omega) (by omega)
 clear hat
 have q1:(mem.length:Int)≤at_:=by omega
 repeat' (first|(refine ZN ?_)|(refine Z2 ?_ ?_)|(intro h h';try simp[*,-h] at h'))
 all_goals exact⟨by simp,_,_,rfl,rfl,by simp[*],Zya⟩
theorem m400_17ow (na nb nc at_:Nat)(xb:Int)(hnc:nc≤65535)(hat:(xb+nc)%4294967296=at_)(mem:List Int)(gm:Nat)(hM:M= .own ⟨0,13,20⟩ gm mem.length)(hcx:mem.length≤at_)(hrl:rg.length=16)(d:Nat)(hp1:Hp)(hx:hp1 ⟨0,13,0⟩= .box 1 (bxP code inp pc rg M rd steps en o go no) false)(ha:na<16)(hb16:nb<16)(hgb:rg[nb]?=some xb)(hm:hp1 ⟨0,13,20⟩= .arr gm 1 22 (rowW mem) false):
  ∃hp',(lim Tryz.prog E00 X00).hpc 3 d 316 [.ptr ⟨0,13,0⟩ 1 0,.agg [iv 17,iv na,iv nb,iv nc]] hp1=some (bv false,hp')∧hp' ⟨0,13,0⟩= .box 1 (bxP code inp pc rg M rd steps en o go no) false∧ ∀y:Nm,y.d=0→y≠⟨0,13,0⟩→hp' y=hp1 y:=by
 refine hpcZ Tryz.func316 rfl rfl bodyOk_316 rfl rfl ?_
 have hA:=regA ha
 have hB:=regA hb16
 have hgb':=getV hgb
 subst hM
 have hml:=rowW_len mem
 have htk:(rowW mem).take mem.length=rowW mem:=List.take_of_length_le (by simp)
 have w0:IntKind.u32.wrap (nc:Int)=nc:=by rw[IntKind.wrap_u32];omega
 have w1:IntKind.u32.wrap (xb+nc)=(at_:Int):=by rw[IntKind.wrap_u32];exact hat
 have w2:IntKind.i64.wrap (at_:Int)=at_:=wrap64 (by omega) (by omega)
 clear hat
 have q1:(mem.length:Int)≤at_:=by omega
 repeat' (first|(refine ZN ?_)|(refine Z2 ?_ ?_)|(intro h h';try simp[*,-h] at h'))
 all_goals exact⟨by simp,_,_,rfl,rfl,by simp[*],Zya⟩
end
section
open Go Go.Ab Go.Ma
attribute [-simp] Prog.bind getCs putCs
attribute [local simp ↓] run_bind
attribute [local simp ↓] runF_bind
attribute [local simp] run_getCsN runF_getCsN facetsC putCs_one run_putCsN
attribute [local simp] take1 bx_len bx_2 bx_19 bx_20 bx_21 bx_22 bx_23 bx_24 bx_25 bx_reg bs_2 bs_19 bs_20 bs_22 bs_23 bs_24 bs_25 bs_reg bx_regg bg_2 bg_19 bg_20 bg_21 bg_22 bg_23 bg_24 bg_25
variable {code:List Int}{inp:ByteArray}{pc:Int}{rg:List Int}{M:AV}{rd steps en:Int}{o:Bool}{go no:Nat}
theorem m400_17is (na nb nc at_:Nat)(xa xb:Int)(hnc:nc≤65535)(hat:(xb+nc)%4294967296=at_)(mem:List Int)(gm:Nat)(hM:M= .sl false 1 (rowW mem))(ho:o=false)(hml0:mem.length≤1048576)(hcx:at_<mem.length)(hrl:rg.length=16)(d:Nat)(hp1:Hp)(hx:hp1 ⟨0,13,0⟩= .box 1 (bxP code inp pc rg M rd steps en o go no) false)(ha:na<16)(hb16:nb<16)(hga:rg[na]?=some xa)(hgb:rg[nb]?=some xb):
  ∃hp',(lim Tryz.prog E00 X00).hpc 3 d 316 [.ptr ⟨0,13,0⟩ 1 0,.agg [iv 17,iv na,iv nb,iv nc]] hp1=some (bv true,hp')∧hp' ⟨0,13,0⟩= .box 1 (bxP code inp pc rg (.own ⟨0,13,20⟩ ((hp1 ⟨0,13,20⟩).gen+1) mem.length) rd steps en true go no) false∧hp' ⟨0,13,20⟩= .arr ((hp1 ⟨0,13,20⟩).gen+1) 1 22 (rowW (mem.set at_ xa)) false∧ ∀y:Nm,y.d=0→y≠⟨0,13,0⟩→y≠⟨0,13,20⟩→hp' y=hp1 y:=by
 refine hpcZ Tryz.func316 rfl rfl bodyOk_316 rfl rfl ?_
 have hA:=regA ha
 have hB:=regA hb16
 have hga':=getV hga
 have hgb':=getV hgb
 subst hM ho
 have hml:=rowW_len mem
 have htk:(rowW mem).take mem.length=rowW mem:=List.take_of_length_le (by simp)
 have h413:=m413' mem (by omega) hml0
 have hrs:=rowW_set mem at_ xa
 have w0:IntKind.u32.wrap (nc:Int)=nc:=by rw[IntKind.wrap_u32];omega
 have w1:IntKind.u32.wrap (xb+nc)=(at_:Int):=by rw[IntKind.wrap_u32];exact hat
 have w2:IntKind.i64.wrap (at_:Int)=at_:=wrap64 (by omega) (by omega)
 clear hat
 have q1: ¬(mem.length:Int)≤at_:=by omega
 have hrm:(rowW mem)[at_]?=some [uv mem[at_]]:=by rw[List.getElem?_map,List.getElem?_eq_getElem hcx];rfl
 have q3: ∀h,(rowW mem)[at_]'h=[uv mem[at_]]:=fun h=>by rw[List.getElem?_eq_getElem h] at hrm;exact Option.some.inj hrm
 generalize rowW mem=RW at*
 repeat' (first|(refine ZN ?_)|(refine Z2 ?_ ?_)|(intro h h';try simp[*,-h] at h'))
 all_goals exact⟨by simp,_,_,rfl,rfl,by simp[*],by simp[*],Zya⟩
theorem m400_17iw (na nb nc at_:Nat)(xa xb:Int)(hnc:nc≤65535)(hat:(xb+nc)%4294967296=at_)(mem:List Int)(gm:Nat)(hM:M= .own ⟨0,13,20⟩ gm mem.length)(ho:o=true)(hml0:mem.length≤1048576)(hcx:at_<mem.length)(hrl:rg.length=16)(d:Nat)(hp1:Hp)(hx:hp1 ⟨0,13,0⟩= .box 1 (bxP code inp pc rg M rd steps en o go no) false)(ha:na<16)(hb16:nb<16)(hga:rg[na]?=some xa)(hgb:rg[nb]?=some xb)(hm:hp1 ⟨0,13,20⟩= .arr gm 1 22 (rowW mem) false):
  ∃hp',(lim Tryz.prog E00 X00).hpc 3 d 316 [.ptr ⟨0,13,0⟩ 1 0,.agg [iv 17,iv na,iv nb,iv nc]] hp1=some (bv true,hp')∧hp' ⟨0,13,0⟩= .box 1 (bxP code inp pc rg (.own ⟨0,13,20⟩ gm mem.length) rd steps en true go no) false∧hp' ⟨0,13,20⟩= .arr gm 1 22 (rowW (mem.set at_ xa)) false∧ ∀y:Nm,y.d=0→y≠⟨0,13,0⟩→y≠⟨0,13,20⟩→hp' y=hp1 y:=by
 refine hpcZ Tryz.func316 rfl rfl bodyOk_316 rfl rfl ?_
 have hA:=regA ha
 have hB:=regA hb16
 have hga':=getV hga
 have hgb':=getV hgb
 subst hM ho
 have hml:=rowW_len mem
 have htk:(rowW mem).take mem.length=rowW mem:=List.take_of_length_le (by simp)
 have hrs:=rowW_set mem at_ xa
 have w0:IntKind.u32.wrap (nc:Int)=nc:=by rw[IntKind.wrap_u32];omega
 have w1:IntKind.u32.wrap (xb+nc)=(at_:Int):=by rw[IntKind.wrap_u32];exact hat
 have w2:IntKind.i64.wrap (at_:Int)=at_:=wrap64 (by omega) (by omega)
 clear hat
 have q1: ¬(mem.length:Int)≤at_:=by omega
 have hrm:(rowW mem)[at_]?=some [uv mem[at_]]:=by rw[List.getElem?_map,List.getElem?_eq_getElem hcx];rfl
 have q3: ∀h,(rowW mem)[at_]'h=[uv mem[at_]]:=fun h=>by rw[List.getElem?_eq_getElem h] at hrm;exact Option.some.inj hrm
 generalize rowW mem=RW at*
 repeat' (first|(refine ZN ?_)|(refine Z2 ?_ ?_)|(intro h h';try simp[*,-h] at h'))
 all_goals exact⟨by simp,_,_,rfl,rfl,by simp[*],by simp[*],Zya⟩
theorem m401_o (na rdn:Nat)(hrd:rd=rdn)(hr1:inp.size≤rdn)(hrl:rg.length=16)(d:Nat)(hp1:Hp)(hx:hp1 ⟨0,13,0⟩= .box 1 (bxP code inp pc rg M rd steps en o go no) false)(ha:na<16):
  ∃hp',(lim Tryz.prog E00 X00).hpc 3 d 317 [.ptr ⟨0,13,0⟩ 1 0,iv na] hp1=some (.tup [],hp')∧hp' ⟨0,13,0⟩= .box 1 (bxP code inp pc (rg.set na 256) M rd steps en o go no) false∧ ∀y:Nm,y.d=0→y≠⟨0,13,0⟩→hp' y=hp1 y:=by
 refine hpcZ Tryz.func317 rfl rfl bodyOk_317 rfl rfl ?_
 have hA:=regA ha
 subst hrd
 have q0: ¬(rdn:Int)<0:=by omega
 have q1:(inp.size:Int)≤rdn:=by omega
 repeat' (first|(refine ZN ?_)|(refine Z2 ?_ ?_)|(intro h h';try simp[*,-h] at h'))
 all_goals exact⟨by simp,_,_,rfl,rfl,by simp[*],Zya⟩
theorem m401_i (na rdn:Nat)(hrd:rd=rdn)(b:UInt8)(hbb:inp.data[rdn]?=some b)(hsz:inp.size≤1048576)(hrl:rg.length=16)(d:Nat)(hp1:Hp)(hx:hp1 ⟨0,13,0⟩= .box 1 (bxP code inp pc rg M rd steps en o go no) false)(ha:na<16):
  ∃hp',(lim Tryz.prog E00 X00).hpc 3 d 317 [.ptr ⟨0,13,0⟩ 1 0,iv na] hp1=some (.tup [],hp')∧hp' ⟨0,13,0⟩= .box 1 (bxP code inp pc (rg.set na (b.toNat:Int)) M ((rdn:Int)+1) steps en o go no) false∧ ∀y:Nm,y.d=0→y≠⟨0,13,0⟩→hp' y=hp1 y:=by
 refine hpcZ Tryz.func317 rfl rfl bodyOk_317 rfl rfl ?_
 have hA:=regA ha
 subst hrd
 have hlt:rdn<inp.size:=(Array.getElem?_eq_some_iff.1 hbb).1
 have q0: ¬(rdn:Int)<0:=by omega
 have q1: ¬(inp.size:Int)≤rdn:=by omega
 have q2:rdn<inp.data.size:=hlt
 have q3: ∀h,inp.data[rdn]'h=b:=fun h=>by rw[Array.getElem?_eq_getElem h] at hbb;exact Option.some.inj hbb
 have q4:IntKind.u32.wrap (b.toNat:Int)=b.toNat:=by have:=b.toNat_lt;rw[IntKind.wrap_u32];omega
 have q5:=wrapN (k:=rdn) (by omega)
 repeat' (first|(refine ZN ?_)|(refine Z2 ?_ ?_)|(intro h h';try simp[*,-h] at h'))
 all_goals exact⟨by simp,_,_,rfl,rfl,by simp[*],Zya⟩
end
section
open Go Go.Ab Go.Ma
attribute [-simp] Prog.bind getCs putCs
attribute [local simp ↓] run_bind
attribute [local simp ↓] runF_bind
attribute [local simp] run_getCsN runF_getCsN facetsC putCs_one run_putCsN
attribute [local simp] take1 bx_len bx_2 bx_19 bx_20 bx_21 bx_22 bx_23 bx_24 bx_25 bx_reg bs_2 bs_19 bs_20 bs_22 bs_23 bs_24 bs_25 bs_reg bx_regg bg_2 bg_19 bg_20 bg_21 bg_22 bg_23 bg_24 bg_25
variable {code:List Int}{inp:ByteArray}{pc:Int}{rg:List Int}{M:AV}{rd steps en:Int}{o:Bool}{go no:Nat}
theorem m363_1 (na nb nc:Nat)(hnc:nc≤65535)(hpc0:0≤pc)(hpc1:pc≤4294967296)(hrl:rg.length=16)(d:Nat)(hp1:Hp)(hx:hp1 ⟨0,13,0⟩= .box 1 (bxP code inp pc rg M rd steps en o go no) false)(ha:na<16):
  ∃hp',(lim Tryz.prog E00 X00).hpc 2 d 248 [.ptr ⟨0,13,0⟩ 1 0,.agg [iv 1,iv na,iv nb,iv nc]] hp1=some (iv 0,hp')∧hp' ⟨0,13,0⟩= .box 1 (bxP code inp (pc+1) (rg.set na (nc:Int)) M rd steps en o go no) false∧ ∀y:Nm,y.d=0→y≠⟨0,13,0⟩→hp' y=hp1 y:=by
 refine hpcZ Tryz.func248 rfl rfl bodyOk_248 rfl rfl ?_
 have hA:=regA ha
 have hw:IntKind.i64.wrap (pc+1)=pc+1:=wrap64 (by omega) (by omega)
 have w0:IntKind.u32.wrap (nc:Int)=nc:=by rw[IntKind.wrap_u32];omega
 repeat' (first|(refine ZN ?_)|(refine Z2 ?_ ?_)|(intro h h';try simp[*,-h] at h'))
 all_goals exact⟨by simp,_,_,rfl,rfl,by simp[*],Zya⟩
theorem m363_2 (na nb nc:Nat)(xa:Int)(hxa:Ma.U xa)(hnc:nc≤65535)(hpc0:0≤pc)(hpc1:pc≤4294967296)(hrl:rg.length=16)(d:Nat)(hp1:Hp)(hx:hp1 ⟨0,13,0⟩= .box 1 (bxP code inp pc rg M rd steps en o go no) false)(ha:na<16)(hga:rg[na]?=some xa):
  ∃hp',(lim Tryz.prog E00 X00).hpc 2 d 248 [.ptr ⟨0,13,0⟩ 1 0,.agg [iv 2,iv na,iv nb,iv nc]] hp1=some (iv 0,hp')∧hp' ⟨0,13,0⟩= .box 1 (bxP code inp (pc+1) (rg.set na (xa%65536+(nc:Int)*65536)) M rd steps en o go no) false∧ ∀y:Nm,y.d=0→y≠⟨0,13,0⟩→hp' y=hp1 y:=by
 refine hpcZ Tryz.func248 rfl rfl bodyOk_248 rfl rfl ?_
 have hA:=regA ha
 have hga':=getV hga
 have hw:IntKind.i64.wrap (pc+1)=pc+1:=wrap64 (by omega) (by omega)
 have w0:IntKind.u32.wrap (nc:Int)=nc:=by rw[IntKind.wrap_u32];omega
 have w1:IntKind.u32.wrap (((xa%2^IntKind.u32.bits).toNat&&&65535%2^IntKind.u32.bits:Nat):Int)=xa%65536:=by have h:=(U_and hxa).2;rw[and_form] at h;exact h
 have w2:IntKind.u32.wrap ((nc:Int)*2^min 16 IntKind.u32.bits)=(nc:Int)*65536:=by rw[show(2:Int)^min 16 IntKind.u32.bits=65536 from rfl,IntKind.wrap_u32];omega
 have w2b:IntKind.u32.wrap ((nc:Int)*65536)=(nc:Int)*65536:=by rw[IntKind.wrap_u32];omega
 have w3:IntKind.u32.wrap (((xa%65536%2^IntKind.u32.bits).toNat|||((nc:Int)*65536%2^IntKind.u32.bits).toNat:Nat):Int)=xa%65536+(nc:Int)*65536:=by
  have h:=orW_lui (x:=xa%65536) (c:=nc) ⟨by omega,by omega⟩ ⟨by omega,by omega⟩
  rw[or_form] at h
  refine Eq.trans (congrArg _ h) ?_
  rw[IntKind.wrap_u32]
  omega
 clear hxa
 repeat' (first|(refine ZN ?_)|(refine Z2 ?_ ?_)|(intro h h';try simp[*,-h] at h'))
 all_goals exact⟨by simp,_,_,rfl,rfl,by simp[*],Zya⟩
theorem m363_3 (na nb nc:Nat)(xb:Int)(hpc0:0≤pc)(hpc1:pc≤4294967296)(hrl:rg.length=16)(d:Nat)(hp1:Hp)(hx:hp1 ⟨0,13,0⟩= .box 1 (bxP code inp pc rg M rd steps en o go no) false)(ha:na<16)(hb16:nb<16)(hgb:rg[nb]?=some xb):
  ∃hp',(lim Tryz.prog E00 X00).hpc 2 d 248 [.ptr ⟨0,13,0⟩ 1 0,.agg [iv 3,iv na,iv nb,iv nc]] hp1=some (iv 0,hp')∧hp' ⟨0,13,0⟩= .box 1 (bxP code inp (pc+1) (rg.set na xb) M rd steps en o go no) false∧ ∀y:Nm,y.d=0→y≠⟨0,13,0⟩→hp' y=hp1 y:=by
 refine hpcZ Tryz.func248 rfl rfl bodyOk_248 rfl rfl ?_
 have hA:=regA ha
 have hB:=regA hb16
 have hgb':=getV hgb
 have hw:IntKind.i64.wrap (pc+1)=pc+1:=wrap64 (by omega) (by omega)
 repeat' (first|(refine ZN ?_)|(refine Z2 ?_ ?_)|(intro h h';try simp[*,-h] at h'))
 all_goals exact⟨by simp,_,_,rfl,rfl,by simp[*],Zya⟩
theorem m363_26 (na nb nc:Nat)(hpc0:0≤pc)(hpc1:pc≤4294967296)(hrl:rg.length=16)(d:Nat)(hp1:Hp)(hx:hp1 ⟨0,13,0⟩= .box 1 (bxP code inp pc rg M rd steps en o go no) false):
  ∃hp',(lim Tryz.prog E00 X00).hpc 2 d 248 [.ptr ⟨0,13,0⟩ 1 0,.agg [iv 26,iv na,iv nb,iv nc]] hp1=some (iv 1,hp')∧hp' ⟨0,13,0⟩= .box 1 (bxP code inp pc rg M rd steps en o go no) false∧ ∀y:Nm,y.d=0→y≠⟨0,13,0⟩→hp' y=hp1 y:=by
 refine hpcZ Tryz.func248 rfl rfl bodyOk_248 rfl rfl ?_
 repeat' (first|(refine ZN ?_)|(refine Z2 ?_ ?_)|(intro h h';try simp[*,-h] at h'))
 all_goals exact⟨by simp,_,_,rfl,rfl,by simp[*],Zya⟩
theorem m363_25i (na nb nc:Nat)(xa:Int)(hnc:nc≤65535)(hcx:(xa<(nc:Int)))(hpc0:0≤pc)(hpc1:pc≤4294967296)(hrl:rg.length=16)(d:Nat)(hp1:Hp)(hx:hp1 ⟨0,13,0⟩= .box 1 (bxP code inp pc rg M rd steps en o go no) false)(ha:na<16)(hga:rg[na]?=some xa):
  ∃hp',(lim Tryz.prog E00 X00).hpc 2 d 248 [.ptr ⟨0,13,0⟩ 1 0,.agg [iv 25,iv na,iv nb,iv nc]] hp1=some (iv 0,hp')∧hp' ⟨0,13,0⟩= .box 1 (bxP code inp (pc+1) rg M rd steps en o go no) false∧ ∀y:Nm,y.d=0→y≠⟨0,13,0⟩→hp' y=hp1 y:=by
 refine hpcZ Tryz.func248 rfl rfl bodyOk_248 rfl rfl ?_
 have hA:=regA ha
 have hga':=getV hga
 have hw:IntKind.i64.wrap (pc+1)=pc+1:=wrap64 (by omega) (by omega)
 have w0:IntKind.u32.wrap (nc:Int)=nc:=by rw[IntKind.wrap_u32];omega
 have q1: ¬(nc:Int)≤xa:=by omega
 repeat' (first|(refine ZN ?_)|(refine Z2 ?_ ?_)|(intro h h';try simp[*,-h] at h'))
 all_goals exact⟨by simp,_,_,rfl,rfl,by simp[*],Zya⟩
theorem m363_25o (na nb nc:Nat)(xa:Int)(hnc:nc≤65535)(hcx:((nc:Int)≤xa))(hpc0:0≤pc)(hpc1:pc≤4294967296)(hrl:rg.length=16)(d:Nat)(hp1:Hp)(hx:hp1 ⟨0,13,0⟩= .box 1 (bxP code inp pc rg M rd steps en o go no) false)(ha:na<16)(hga:rg[na]?=some xa):
  ∃hp',(lim Tryz.prog E00 X00).hpc 2 d 248 [.ptr ⟨0,13,0⟩ 1 0,.agg [iv 25,iv na,iv nb,iv nc]] hp1=some (iv 3,hp')∧hp' ⟨0,13,0⟩= .box 1 (bxP code inp pc rg M rd steps en o go no) false∧ ∀y:Nm,y.d=0→y≠⟨0,13,0⟩→hp' y=hp1 y:=by
 refine hpcZ Tryz.func248 rfl rfl bodyOk_248 rfl rfl ?_
 have hA:=regA ha
 have hga':=getV hga
 have hw:IntKind.i64.wrap (pc+1)=pc+1:=wrap64 (by omega) (by omega)
 have w0:IntKind.u32.wrap (nc:Int)=nc:=by rw[IntKind.wrap_u32];omega
 repeat' (first|(refine ZN ?_)|(refine Z2 ?_ ?_)|(intro h h';try simp[*,-h] at h'))
 all_goals exact⟨by simp,_,_,rfl,rfl,by simp[*],Zya⟩
end
section
open Go Go.Ab Go.Ma
attribute [-simp] Prog.bind getCs putCs
attribute [local simp ↓] run_bind
attribute [local simp ↓] runF_bind
attribute [local simp] run_getCsN runF_getCsN facetsC putCs_one run_putCsN
attribute [local simp] take1 bx_len bx_2 bx_19 bx_20 bx_21 bx_22 bx_23 bx_24 bx_25 bx_reg bs_2 bs_19 bs_20 bs_22 bs_23 bs_24 bs_25 bs_reg bx_regg bg_2 bg_19 bg_20 bg_21 bg_22 bg_23 bg_24 bg_25
variable {code:List Int}{inp:ByteArray}{pc:Int}{rg:List Int}{M:AV}{rd steps en:Int}{o:Bool}{go no:Nat}
theorem empty_size :(⟨#[]⟩:ByteArray).size=0:=rfl
attribute [local simp] empty_size
def snocB (l:List Int)(x:Int):List (List AV):=rowB (l++[x])
theorem m363_24o (na nb nc:Nat)(hol:65536≤no)(hol2:no≤1000000)(out:List Int)(hno:no=out.length)(hpc0:0≤pc)(hpc1:pc≤4294967296)(hrl:rg.length=16)(d:Nat)(hp1:Hp)(hx:hp1 ⟨0,13,0⟩= .box 1 (bxP code inp pc rg M rd steps en o go no) false)(ha:na<16)(hmo:hp1 ⟨0,13,26⟩= .arr go 1 5 (rowB out) false):
  ∃hp',(lim Tryz.prog E00 X00).hpc 2 d 248 [.ptr ⟨0,13,0⟩ 1 0,.agg [iv 24,iv na,iv nb,iv nc]] hp1=some (iv 4,hp')∧hp' ⟨0,13,0⟩= .box 1 (bxP code inp pc rg M rd steps en o go no) false∧ ∀y:Nm,y.d=0→y≠⟨0,13,0⟩→hp' y=hp1 y:=by
 refine hpcZ Tryz.func248 rfl rfl bodyOk_248 rfl rfl ?_
 have hA:=regA ha
 have hw:IntKind.i64.wrap (pc+1)=pc+1:=wrap64 (by omega) (by omega)
 subst hno
 have v0:(65536:Int)≤out.length:=by omega
 have v1:IntKind.i64.wrap (out.length:Int)=out.length:=wrap64 (by omega) (by omega)
 repeat' (first|(refine ZN ?_)|(refine Z2 ?_ ?_)|(intro h h';try simp[*,-h] at h'))
 all_goals exact⟨by simp,_,_,rfl,rfl,by simp[*],Zya⟩
theorem m363_24i (na nb nc:Nat)(xa:Int)(hxa:Ma.U xa)(hol:no<65536)(out:List Int)(hno:no=out.length)(hpc0:0≤pc)(hpc1:pc≤4294967296)(hrl:rg.length=16)(d:Nat)(hp1:Hp)(hx:hp1 ⟨0,13,0⟩= .box 1 (bxP code inp pc rg M rd steps en o go no) false)(ha:na<16)(hga:rg[na]?=some xa)(hmo:hp1 ⟨0,13,26⟩= .arr go 1 5 (rowB out) false):
  ∃hp',(lim Tryz.prog E00 X00).hpc 2 d 248 [.ptr ⟨0,13,0⟩ 1 0,.agg [iv 24,iv na,iv nb,iv nc]] hp1=some (iv 0,hp')∧hp' ⟨0,13,0⟩= .box 1 (bxP code inp (pc+1) rg M rd steps en o (go+1) (no+1)) false∧hp' ⟨0,13,26⟩= .arr (go+1) 1 5 (snocB out (xa%256)) false∧ ∀y:Nm,y.d=0→y≠⟨0,13,0⟩→y≠⟨0,13,26⟩→hp' y=hp1 y:=by
 refine hpcZ Tryz.func248 rfl rfl bodyOk_248 rfl rfl ?_
 have hA:=regA ha
 have hga':=getV hga
 have hw:IntKind.i64.wrap (pc+1)=pc+1:=wrap64 (by omega) (by omega)
 subst hno
 have v0: ¬(65536:Int)≤out.length:=by omega
 have v1:IntKind.i64.wrap (out.length:Int)=out.length:=wrap64 (by omega) (by omega)
 have u2:IntKind.u8.wrap xa=xa%256:=by rw[IntKind.wrap_u8]
 have u4:out.length+1≤140737488355328:=by omega
 have u5:out.length≤9223372036854775806:=by omega
 have u6:rowB out++[[.sc (.int .u8 (xa%256))]]=snocB out (xa%256):=by simp[snocB]
 have u7:(rowB out).length=out.length:=List.length_map ..
 clear hxa
 generalize snocB out (xa%256)=SB at*
 generalize rowB out=RB at*
 repeat' (first|(refine ZN ?_)|(refine Z2 ?_ ?_)|(intro h h';try simp[*,-h] at h'))
 all_goals exact⟨by simp,_,_,rfl,rfl,by simp[*],by simp[*],Zya⟩
end
end Go.Proofs.YtpedpkegmalgmaaGreatDoor.M
