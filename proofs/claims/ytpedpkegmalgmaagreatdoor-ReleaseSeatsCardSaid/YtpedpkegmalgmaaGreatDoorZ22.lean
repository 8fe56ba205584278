/- A part of the proof: Re, Wx, Wf, Wg, Wh, Wi, Wj, Wk, Wa, Wd, Wb. -/
import Derived.Test.YtpedpkegmalgmaaGreatDoorZ21
import Derived.Test.YtpedpkegmalgmaaGreatDoorZ09
import Derived.WalkKit
import Derived.RangeFuncBox
import Derived.RangeFuncLeaves
import Derived.Shelf.Abstract
import Derived.OwnWalkIn
import Derived.TacticsInMore
import Derived.LoopNIn
import Derived.LoopIn
import Derived.Test.YtpedpkegmalgmaaGreatDoorZ13
import Derived.Test.YtpedpkegmalgmaaGreatDoorZ12
import Derived.Test.YtpedpkegmalgmaaGreatDoorZ14
set_option linter.unusedSimpArgs false
set_option linter.unusedVariables false
set_option maxRecDepth 200000
set_option maxHeartbeats 8000000
namespace Go.Proofs.YtpedpkegmalgmaaGreatDoor
section
open Go Go.Ab Go.Ab.Sy Go.RowKit
theorem nt_read1 :Tryz.f136.ntmps=13:=rfl
theorem rs_read1 :Tryz.f136.results= #[]:=rfl
theorem catch_idle (p q:Addr)(w:World):
  CallsD Tryz.prog 136 #[.pointer (some p),.pointer (some q)] .returning w fun e u' w'=>e= .returned (.tuple #[])∧u'= .returning∧w'=w:=by
 refine callsD_of_wpS Tryz.func136 rfl fun c₀ cs hu=>?_
 apply wpS_seq
 apply wpS_region
 simp[wpOpsS,go_sem,recoverD,hu,nt_read1,Exit.thenS]
 refine wpS_of_wp (wp_block ?_)
 refine wp_seq (wp_region ?_)
 simp[wpOps,Oper.wp,Oper.upon,go_sem,Exit.then]
 left
 refine wp_cond_true ?_ ?_
 ·simp[Act.eval,Array.replicate]
 refine wp_region ?_
 simp[wpOps,Oper.wp,Oper.upon,go_sem,Exit.then]
 left
 cases c₀
 simp_all[bodyPostS,results,rs_read1]
theorem mixed47 :Tryz.prog.follows .mixedOrders=true:=by kernel_rfl
theorem E47_law :ELaw Tryz.prog E47:=⟨fun t h=>by simp at h,fun _=>rfl⟩
theorem X46_ok :OrcOk Tryz.prog X46:=⟨(fun f a rs h=>nomatch h),(fun k d f a hp v hp' h=>nomatch h)⟩
theorem Lm46_ok :OrcOk Tryz.prog (Lm X46):=lim_ok mixed47 E47_law X46_ok
def frW (g4 g5:Nat)(a:Int):Nat→AV:=fun t=>if t=0 then .ptr ⟨1,4,0⟩ g4 0 else if t=1 then .ptr ⟨1,5,0⟩ g5 0 else if t=9 then bv true else if t=10 then .agg [iv a] else .any
def catchHp (a:Int)(g4 g5:Nat)(hp:Hp):Hp:=upd (upd (upd hp ⟨2,3,0⟩ (.box ((hp ⟨2,3,0⟩).gen+1) [iv a] false)) ⟨1,4,0⟩ (.box g4 [iv a] false)) ⟨1,5,0⟩ (.box g5 [iv 3] false)
def CW (I K:Nat→Prop)(m:Mp)(hp:Hp)(w:World)(a:Int)(g4 g5:Nat)(e:Ending)(u':FrameMode)(w':World):Prop:=e= .returned (.tuple #[])∧u'= .panicking [{v:=wrongV a,recovered:=true}]∧
   ∃I' m',Gam I' K m' (catchHp a g4 g5 hp) w'∧Ext I K m hp w I' m' (catchHp a g4 g5 hp) w'
@[simp] theorem frW_0 {g4 g5:Nat}{a:Int}:frW g4 g5 a 0= .ptr ⟨1,4,0⟩ g4 0:=rfl
@[simp] theorem frW_1 {g4 g5:Nat}{a:Int}:frW g4 g5 a 1= .ptr ⟨1,5,0⟩ g5 0:=rfl
@[simp] theorem frW_9 {g4 g5:Nat}{a:Int}:frW g4 g5 a 9=bv true:=rfl
@[simp] theorem frW_10 {g4 g5:Nat}{a:Int}:frW g4 g5 a 10= .agg [iv a]:=rfl
def CR (a:Int)(g4 g5:Nat)(hp:Hp)(e:Ab.Ex)(s:AS):Prop:=e= .normal∧s.hp=catchHp a g4 g5 hp
theorem catch_wrong {I K:Nat→Prop}{m:Mp}{hp:Hp}{w:World}{a:Int}{g4 g5:Nat}{x4 x5:AV}{p q:Value}(G:Gam I K m hp w)(h4:Rep 1 I m hp w (.ptr ⟨1,4,0⟩ g4 0) p)(h5:Rep 1 I m hp w (.ptr ⟨1,5,0⟩ g5 0) q)
  (b4:hp ⟨1,4,0⟩= .box g4 [x4] false) (b5:hp ⟨1,5,0⟩= .box g5 [x5] false):
  CallsD Tryz.prog 136 #[p,q] (.panicking (panE (wrongV a))) w (CW I K m hp w a g4 g5):=by
 refine callsD_of_wpS Tryz.func136 rfl fun c₀ cs hu=>?_
 apply wpS_seq
 apply wpS_region
 simp[wpOpsS,go_sem,recoverD,hu,panE,nt_read1,Exit.thenS]
 refine wpS_of_wp (wp_block ?_)
 refine wp_seq (wp_region ?_)
 simp[wpOps,Oper.wp,Oper.upon,go_sem,Exit.then,wrongV]
 left
 refine wp_cond_false ?_ ?_
 ·simp[Act.eval,Array.replicate]
 refine wp_seq (wp_region ?_)
 simp[wpOps,Oper.wp,Oper.upon,go_sem,Exit.then,Instr.typeAssert]
 left;left;left
 refine W.wp (N:=13) (k:=2) (K:=K) (B:=⟨I,m,hp,w,[]⟩) (E:=E47) (call:=Lm X46) (st:=⟨frW g4 g5 a,hp⟩) mixed47 E47_law Lm46_ok (R:=CR a g4 g5 hp) ?_ (by kernel_rfl) ?_ ?_ ?_
 ·repeat' (first|(refine ZN ?_)|(refine Z2 ?_ ?_)|(intro h h';try simp[*,-h] at h'))
  exact⟨rfl,rfl⟩
 ·refine⟨I,m,G,.refl _ _ _ _ _,fun t=>?_,by simp,rfl⟩
  show Rep 2 I m hp w (frW g4 g5 a t) _
  by_cases e0:t=0
  ·subst e0;simpa[Act.eval] using Rep.depth (Nat.le_succ 1) _ _ h4
  by_cases e1:t=1
  ·subst e1;simpa[Act.eval] using Rep.depth (Nat.le_succ 1) _ _ h5
  by_cases e2:t=9
  ·subst e2;simp[Act.eval,Rep]
  by_cases e3:t=10
  ·subst e3;simp[Act.eval,Rep,RepL]
  simp[frW,e0,e1,e2,e3,Rep]
 ·rintro e s a' w' ⟨rfl,rh⟩ ⟨I1,m1,G1,E1,_,_,hd⟩
  rw[rh] at G1 E1
  refine⟨hd,_,rfl,?_⟩
  refine⟨.tuple #[],by simp[results,rs_read1],?_⟩
  exact⟨rfl,rfl,I1,m1,G1,E1⟩
 ·rintro v hp' a' w' ⟨h,_⟩
  exact nomatch h
end
section
open Go Go.Ab Go.Ab.Sy
theorem Steps_linear {P:Program}{m a b:Machine}(ha:Steps P m a)(hb:Steps P m b):Steps P a b∨Steps P b a:=by
 obtain⟨n,hn⟩:=ha
 obtain⟨k,hk⟩:=hb
 rcases Nat.le_total n k with h|h
 ·obtain⟨j,rfl⟩:=Nat.exists_eq_add_of_le h
  rw[runN_add,hn] at hk
  exact .inl ⟨j,hk⟩
 ·obtain⟨j,rfl⟩:=Nat.exists_eq_add_of_le h
  rw[runN_add,hk] at hn
  exact .inr ⟨j,hn⟩
theorem Steps_ended {P:Program}{a b:Machine}{o:Outcome}{w:World}(h:Steps P a b)(he:step P a= .ended o w):b=a:=by
 obtain⟨n,hn⟩:=h
 cases n with
 |zero=>simp[runN] at hn;exact hn.symm
 |succ n=>simp[runN,he] at hn
def deadF :Frame:={fn:=0,tmps:= #[],todo:=[],defers:=[{target:= .fn (.methodOf 0 "") #[],args:= #[]}],mode:= .returning,kind:= .normal}
theorem dead_step (P:Program)(fr:Frame)(w:World)(h1:fr.defers=[{target:= .fn (.methodOf 0 "") #[],args:= #[]}])(h2:fr.mode= .returning∨ ∃c,fr.mode= .panicking c): ∃o w',step P (lone fr [] w)= .ended o w':=by
 have h: ∃o w',(stepG P true {frame:=fr,callers:=[],status:= .running,dying:=none} w).bare= .ended o w':=by
  rcases h2 with h2|⟨c,h2⟩<;>simp[stepG,unwind,callDeferred,h1,h2,go_sem]
 obtain⟨o,w',h⟩:=h
 exact⟨o,w',step_lone_ended h⟩
theorem calls_one {P:Program}{f:FuncId}{args:Array Value}{w:World}{ch:List PanicEntry}{R1:Value→World→Prop}{R2:World→Prop}(h1:Calls P f args w fun e w'=> ∃u,e= .returned u∧R1 u w')(h2:Calls P f args w fun e w'=>e= .panicked ch∧R2 w'):False:=by
 obtain⟨_,w1,f1,⟨u,rfl,_⟩,c1,_,l1⟩:=h1 [deadF]
 obtain⟨_,w2,f2,⟨rfl,_⟩,c2,_,l2⟩:=h2 [deadF]
 have s1:=Steps.trans c1 (.one (step_leave_returned l1))
 have s2:=Steps.trans c2 (.one (step_leave_panicked l2))
 obtain⟨o1,v1,e1⟩:=dead_step P (deadF.finish u) w1 rfl (.inl rfl)
 obtain⟨o2,v2,e2⟩:=dead_step P (deadF.raise ch) w2 rfl (.inr ⟨ch,rfl⟩)
 have he:lone (deadF.finish u) [] w1=lone (deadF.raise ch) [] w2:=by
  rcases Steps_linear s1 s2 with h|h
  ·exact(Steps_ended h e1).symm
  ·exact Steps_ended h e2
 simp[lone,deadF,Frame.finish,Frame.raise] at he
def s1 :ByteArray:=⟨#[102,117,110,99,32,109,97,105,110,40,41,32,123,32,112,117,116,40,39,104,39,41,59,32,112,117,116,40,39,105,39,41,59,32,125]⟩
def T1 :List (List AV):=[[iv 3,tv ⟨#[102,117,110,99]⟩,uv 0,iv 0],[iv 1,tv ⟨#[109,97,105,110]⟩,uv 0,iv 5],[iv 4,tv ⟨#[40]⟩,uv 0,iv 9],[iv 4,tv ⟨#[41]⟩,uv 0,iv 10],[iv 4,tv ⟨#[123]⟩,uv 0,iv 12],[iv 3,tv ⟨#[112,117,116]⟩,uv 0,iv 14],[iv 4,tv ⟨#[40]⟩,uv 0,iv 17],[iv 2,tv ⟨#[39,104,39]⟩,uv 104,iv 18],[iv 4,tv ⟨#[41]⟩,uv 0,iv 21],[iv 4,tv ⟨#[59]⟩,uv 0,iv 22],[iv 3,tv ⟨#[112,117,116]⟩,uv 0,iv 24],[iv 4,tv ⟨#[40]⟩,uv 0,iv 27],[iv 2,tv ⟨#[39,105,39]⟩,uv 105,iv 28],[iv 4,tv ⟨#[41]⟩,uv 0,iv 31],[iv 4,tv ⟨#[59]⟩,uv 0,iv 32],[iv 4,tv ⟨#[125]⟩,uv 0,iv 34]]
def x1 :Sy.Pr:=⟨[],[],[⟨⟨⟨#[109,97,105,110]⟩,by decide⟩,[],[],false,[.mk 3 tx0 [.mk 1 0 104 tx0 []] [] [],.mk 3 tx0 [.mk 1 0 105 tx0 []] [] []]⟩]⟩
theorem lex_x :(Lm X46).dat 135 [tv s1]=some [.vec 4 T1,iv 0,iv 0]:=lim_dat.2 ⟨200,by kernel_rfl⟩
def LX (s:ByteArray)(T:List Tok)(e:Int):Prop:=s=s1→T.map Tok.row=T1∧e=0
theorem lx_of {s:ByteArray}{T:List Tok}{a e:Int}(h:(Lm X46).dat 135 [tv s]=some [.vec 4 (T.map Tok.row),iv a,iv e]):LX s T e:=by
 rintro rfl
 rw[lex_x] at h
 injection h with h
 injection h with h1 h
 injection h with h2 h
 injection h with h3 h
 injection h1 with _ h1
 injection h3 with h3
 injection h3 with _ h3
 exact⟨h1.symm,h3.symm⟩
theorem lx_no {s:ByteArray}{T:List Tok}{e:Int}(h:LX s T e)(he:0<e):s≠s1:=fun hs=>by have:=(h hs).2;omega
theorem lx_0 {s:ByteArray}{T:List Tok}{e:Int}(h:LX s T e):LX s T 0:=fun hs=>⟨(h hs).1,rfl⟩
def HX (c1 c2 c3:AV)(g:Hp):Hp:=upd (upd (upd (fun n=>if 2≤n.d then .no 0 else g n) ⟨0,5,0⟩ (.box 1 [c1,c2,c3] false)) ⟨1,25,1⟩ (.arr 1 4 223 T1 false)) ⟨1,25,0⟩ (.box 1 [.own ⟨1,25,1⟩ 1 16,iv 0,iv 35] false)
theorem run_x (c1 c2 c3:AV)(g:Hp):((evCall Tryz.prog E47 X46 200).hpc 1 28 118 [.ptr ⟨1,25,0⟩ 1 0,.ptr ⟨0,5,0⟩ 1 0] (HX c1 c2 c3 g)).map (fun r=>(r.1,r.2 ⟨0,5,0⟩,r.2 ⟨1,25,0⟩))=some (.tup [],.box 1 x1.row false,.box 1 [.own ⟨1,25,1⟩ 1 16,iv 16,iv 35] false):=by kernel_rfl
theorem closure_x {T:List Tok}{hp1:Hp}{c1 c2 c3:AV}(hT:T.map Tok.row=T1)(hr:Rd T 35 25 1 1 0 hp1)(hb:hp1 ⟨0,5,0⟩= .box 1 [c1,c2,c3] false)(h2: ∀d i c,hp1 ⟨d+2,i,c⟩= .no 0):
  ∃hp2,(Lm X46).hpc 1 28 118 [.ptr ⟨1,25,0⟩ 1 0,.ptr ⟨0,5,0⟩ 1 0] hp1=some (.tup [],hp2)∧hp2 ⟨0,5,0⟩= .box 1 x1.row false∧hp2 ⟨1,25,0⟩= .box 1 [.own ⟨1,25,1⟩ 1 16,iv 16,iv 35] false:=by
 have hl:T.length=16:=by have:=congrArg List.length hT;simpa[T1] using this
 have hbx:=hr.box
 have har:=hr.arr
 rw[hl] at hbx
 rw[hT] at har
 have e1:HX c1 c2 c3 hp1=hp1:=by
  funext n
  obtain⟨d,i,c⟩:=n
  simp only[HX,upd]
  by_cases a1:(⟨d,i,c⟩:Nm)=⟨1,25,0⟩
  ·rw[if_pos a1,a1,hbx];rfl
  rw[if_neg a1]
  by_cases a2:(⟨d,i,c⟩:Nm)=⟨1,25,1⟩
  ·rw[if_pos a2,a2,har]
  rw[if_neg a2]
  by_cases a3:(⟨d,i,c⟩:Nm)=⟨0,5,0⟩
  ·rw[if_pos a3,a3,hb]
  rw[if_neg a3]
  by_cases a4:2≤d
  ·rw[if_pos a4]
   obtain⟨k,rfl⟩:=Nat.exists_eq_add_of_le' a4
   exact(h2 k i c).symm
  ·rw[if_neg a4]
 have h:=run_x c1 c2 c3 hp1
 rw[e1] at h
 cases hc:(evCall Tryz.prog E47 X46 200).hpc 1 28 118 [.ptr ⟨1,25,0⟩ 1 0,.ptr ⟨0,5,0⟩ 1 0] hp1 with
 |none=>rw[hc] at h;cases h
 |some r=>
  rw[hc] at h
  obtain⟨v,hp2⟩:=r
  simp only[Option.map_some,Option.some.injEq,Prod.mk.injEq] at h
  obtain⟨rfl,h5,h6⟩:=h
  exact⟨hp2,lim_hpc.2 ⟨200,hc⟩,h5,h6⟩
theorem no_world {K:Nat→Prop}{B:Base}{st:AS}{a:Act}{w:World}{gx gp nn:Nat}{v:AV}{hp2:Hp}{v':Value}{hp':Hp}(hc:(Lm X46).hpc 1 28 118 [.ptr ⟨1,25,0⟩ gx 0,.ptr ⟨0,5,0⟩ gp 0] st.hp=some (v,hp2))(hn:Pan Tryz.prog E47 (Lm X46) (.fn 1 118 [.ptr ⟨1,25,0⟩ gx 0,.ptr ⟨0,5,0⟩ gp 0] st.hp) nn v' hp')(S:StR 1 41 K B st a w)(f1:st.fr 1= .fn 118 [.ptr ⟨0,5,0⟩ gp 0])(f9:st.fr 9= .ptr ⟨1,25,0⟩ gx 0):False:=by
 obtain⟨I,m,G,_,hf,_,_⟩:=S
 have h9:=hf 9
 have h1:=hf 1
 rw[f9] at h9
 rw[f1] at h1
 obtain⟨u,h5⟩: ∃u,Rep 1 I m st.hp w (.ptr ⟨0,5,0⟩ gp 0) u:=by
  rw[Rep] at h1
  obtain⟨us,_,h1⟩:=h1
  rw[RepL] at h1
  obtain⟨v,_,_,h1,_⟩:=h1
  exact⟨v,h1⟩
 have hA:AllR (Rep 1 I m st.hp w) [.ptr ⟨1,25,0⟩ gx 0,.ptr ⟨0,5,0⟩ gp 0] [_,u]:= .cons h9 (.cons h5 .nil)
 exact calls_one (Lm46_ok.2 _ _ _ _ _ _ _ hc okFn_118 I K m w _ G hA) (pan_ok mixed47 E47_law Lm46_ok nn _ v' hp' hn I K m w _ okFn_118 G hA)
structure RH (s:ByteArray)(T:List Tok)(gp g4 g5:Nat)(hp:Hp)(st:AS):Prop where
 f0:st.fr 0=tv s
 f1:st.fr 1= .fn 118 [.ptr ⟨0,5,0⟩ gp 0]
 f4:st.fr 4= .ptr ⟨1,4,0⟩ g4 0∧st.hp ⟨1,4,0⟩= .box g4 [iv 0] false
 f5:st.fr 5= .ptr ⟨1,5,0⟩ g5 0∧st.hp ⟨1,5,0⟩= .box g5 [iv 0] false
 f6: ∃g,st.fr 6= .own ⟨1,12,1000⟩ g T.length∧st.hp ⟨1,12,1000⟩= .arr g 4 223 (T.map Tok.row) false
 low: ∀i c,st.hp ⟨0,i,c⟩=hp ⟨0,i,c⟩
 lx:LX s T 0
 u25: ∀c,st.hp ⟨1,25,c⟩=hp ⟨1,25,c⟩
 up: ∀d i c,st.hp ⟨d+2,i,c⟩=hp ⟨d+2,i,c⟩
theorem read_head {c0 c1 c2 c3 c4:Code}(hb:Tryz.f117.body=some (.seq c0 (.seq c1 (.seq c2 (.seq c3 c4))))){s:ByteArray}(hs:s.size<9223372036854775807){gp:Nat}{hp:Hp}:
  ∃T:List Tok,T.length≤20000∧Wch Tryz.prog E47 1 (Lm X46) (EndB Tryz.prog 0 0 [.cell 4 3,.cell 5 38] (fun v hp'=> ∃a e:Int,v= .tup [iv a,iv e]∧0<e∧s≠s1∧ ∀i c,hp' ⟨0,i,c⟩=hp ⟨0,i,c⟩) (fun _ _=>False)) (RH s T gp ((hp ⟨1,4,0⟩).gen+1) ((hp ⟨1,5,0⟩).gen+1) hp) [c0,c1,c2] ⟨frame0 [tv s,.fn 118 [.ptr ⟨0,5,0⟩ gp 0]],hp⟩:=by
 obtain⟨_,hL,T,at',e,h1,h2,h3,rfl⟩:=Lex_w (X:=X46) (fun _ _=>rfl) s hs
 have hx:LX s T e:=lx_of hL
 refine⟨T,h2,?_⟩
 cases hb
 simp only[Wch]
 repeat' (first|(refine ZN ?_)|(refine Z2 ?_ ?_)|(intro h h';try simp[*,-h] at h'))
 ·exact⟨at',e,rfl,by omega,lx_no hx (by omega),fun i c=>by simp⟩
 ·exact⟨by simp,by simp,⟨by simp,by simp⟩,⟨by simp,by simp⟩,⟨_,by simp;rfl,by simp⟩,fun i c=>by simp,lx_0 hx,fun c=>by simp,fun d i c=>by simp⟩
structure RT (T:List Tok)(gp g4 g5 gx gy n:Nat)(e:Int)(hp:Hp)(st:AS):Prop where
 f1:st.fr 1= .fn 118 [.ptr ⟨0,5,0⟩ gp 0]
 f4:st.fr 4= .ptr ⟨1,4,0⟩ g4 0∧st.hp ⟨1,4,0⟩= .box g4 [iv 0] false
 f5:st.fr 5= .ptr ⟨1,5,0⟩ g5 0∧st.hp ⟨1,5,0⟩= .box g5 [iv 0] false
 f9:st.fr 9= .ptr ⟨1,25,0⟩ gx 0
 rd:Rd T e 25 gx gy n st.hp
 low: ∀i c,st.hp ⟨0,i,c⟩=hp ⟨0,i,c⟩
theorem read_d5 {c0 c1 c2 c3 d5 d6 d7 d8 d9:Code}{x:Operand}(hb:Tryz.f117.body=some (.seq c0 (.seq c1 (.seq c2 (.seq c3 (.seq d5 (.seq d6 (.seq (.seq d7 (.cond x d8 .skip)) (.seq d9 .ret))))))))){s:ByteArray}{T:List Tok}{gp g4 g5:Nat}{hp:Hp}{st:AS}(hT:T.length≤20000)(h:RH s T gp g4 g5 hp st):W Tryz.prog E47 1 (Lm X46) d5 st (fun e s2=>e= .normal∧ ∃gx gy,RT T gp g4 g5 gx gy 0 s.size hp s2∧gx=(hp ⟨1,25,0⟩).gen+1∧gy=(hp ⟨1,25,1⟩).gen+1∧ ∀d i c,s2.hp ⟨d+2,i,c⟩=hp ⟨d+2,i,c⟩):=by
 obtain⟨fr,hq⟩:=st
 obtain⟨f0,f1,⟨f4,b4⟩,⟨f5,b5⟩,⟨g6,f6,b6⟩,low,hlx,u25,up⟩:=h
 simp only at f0 f1 f4 b4 f5 b5 f6 b6 low u25 up
 clear hlx
 cases hb
 repeat' (first|(refine ZN ?_)|(refine Z2 ?_ ?_)|(intro h h';try simp[*,-h] at h'))
 exact⟨rfl,(hp ⟨1,25,0⟩).gen+1,(hp ⟨1,25,1⟩).gen+1,⟨by simp[*],⟨by simp[*],by simp[*]⟩,⟨by simp[*],by simp[*]⟩,by simp[*],⟨by simp[*],by simp[*],by omega,by omega⟩,fun i c=>by simp[*]⟩,rfl,rfl,fun d i c=>by simp[*]⟩
def RC1 (T:List Tok)(e:Int)(gx gy gp:Nat)(hp1:Hp)(v:AV)(hp2:Hp)(x:Sy.Pr)(n2:Nat):Prop:=v= .tup []∧hp2 ⟨0,5,0⟩= .box gp x.row false∧x.size≤T.length∧Rd T e 25 gx gy n2 hp2∧ ∀d i c,d≤1→(⟨d,i,c⟩:Nm)≠⟨1,25,0⟩→(⟨d,i,c⟩:Nm)≠⟨0,5,0⟩→hp2 ⟨d,i,c⟩=hp1 ⟨d,i,c⟩
structure RQ (T:List Tok)(gp g4 g5 gx gy n:Nat)(e:Int)(hp:Hp)(p:Sy.Pr)(st:AS):Prop where
 f4:st.fr 4= .ptr ⟨1,4,0⟩ g4 0∧st.hp ⟨1,4,0⟩= .box g4 [iv 0] false
 f5:st.fr 5= .ptr ⟨1,5,0⟩ g5 0∧st.hp ⟨1,5,0⟩= .box g5 [iv 0] false
 f9:st.fr 9= .ptr ⟨1,25,0⟩ gx 0
 rd:Rd T e 25 gx gy n st.hp
 bx:st.hp ⟨0,5,0⟩= .box gp p.row false
 low: ∀i c,(⟨0,i,c⟩:Nm)≠⟨0,5,0⟩→st.hp ⟨0,i,c⟩=hp ⟨0,i,c⟩
theorem read_d6 {c0 c1 c2 c3 d5 d6 d7 d8 d9:Code}{x:Operand}(hb:Tryz.f117.body=some (.seq c0 (.seq c1 (.seq c2 (.seq c3 (.seq d5 (.seq d6 (.seq (.seq d7 (.cond x d8 .skip)) (.seq d9 .ret))))))))){T:List Tok}{gp g4 g5 gx gy:Nat}{e:Int}{hp:Hp}{st:AS}{v:AV}{hp2:Hp}{p:Sy.Pr}{n:Nat}(h:RT T gp g4 g5 gx gy 0 e hp st)(hc:(Lm X46).hpc 1 28 118 [.ptr ⟨1,25,0⟩ gx 0,.ptr ⟨0,5,0⟩ gp 0] st.hp=some (v,hp2))(hr:RC1 T e gx gy gp st.hp v hp2 p n):
  W Tryz.prog E47 1 (Lm X46) d6 st (fun e1 s2=>e1= .normal∧RQ T gp g4 g5 gx gy n e hp p s2):=by
 obtain⟨fr,hq⟩:=st
 obtain⟨f1,⟨f4,b4⟩,⟨f5,b5⟩,f9,rd,low⟩:=h
 obtain⟨rfl,hb5,hps,hrd,hlow⟩:=hr
 simp only at f1 f4 b4 f5 b5 f9 rd low hc hlow
 cases hb
 repeat' (first|(refine ZN ?_)|(refine Z2 ?_ ?_)|(intro h h';try simp[*,-h] at h'))
 exact⟨rfl,⟨by simp[*],by rw[←b4];exact hlow 1 4 0 (by omega) (by simp) (by simp)⟩,⟨by simp[*],by rw[←b5];exact hlow 1 5 0 (by omega) (by simp) (by simp)⟩,by simp[*],hrd,hb5,fun i c hne=>(hlow 0 i c (by omega) (by simp) hne).trans (low i c)⟩
theorem read_d6p {c0 c1 c2 c3 d5 d6 d7 d8 d9:Code}{x:Operand}(hb:Tryz.f117.body=some (.seq c0 (.seq c1 (.seq c2 (.seq c3 (.seq d5 (.seq d6 (.seq (.seq d7 (.cond x d8 .skip)) (.seq d9 .ret))))))))){T:List Tok}{gp g4 g5 gx gy nn N:Nat}{e:Int}{hp:Hp}{st:AS}{v:Value}{hp':Hp}{K:Nat→Prop}{B:Base}{a:Act}{w:World}{Q:Exit→Act→World→Prop}(hN:N=41)(h:RT T gp g4 g5 gx gy 0 e hp st)(hc:Pan Tryz.prog E47 (Lm X46) (.fn 1 118 [.ptr ⟨1,25,0⟩ gx 0,.ptr ⟨0,5,0⟩ gp 0] st.hp) nn v hp')(S:StR 1 N K B st a w)
  (hQ: ∀fr a' w',fr 4=st.fr 4→fr 5=st.fr 5→StR 1 N K B ⟨fr,hp'⟩ a' w'→Q (.panic (panE v)) a' w'):d6.wp Tryz.prog Q a w:=by
 subst hN
 obtain⟨fr,hq⟩:=st
 obtain⟨f1,_,_,f9,_,_⟩:=h
 simp only at f1 f9 hc
 have hcal:PanCalls Tryz.prog 1 118 [.ptr ⟨1,25,0⟩ gx 0,.ptr ⟨0,5,0⟩ gp 0] hq v hp':=pan_ok mixed47 E47_law Lm46_ok nn _ v hp' hc
 cases hb
 refine region_panS (P:=Tryz.prog) (E:=E47) (call:=Lm X46) (k:=1) (pre:=[_,_]) (st':=⟨setd (setd fr (some 26) (fr 1)) (some 27) (fr 9),hq⟩) (f:=118) (cs:=[.ptr ⟨0,5,0⟩ gp 0]) (v:=v) (hp':=hp') E47_law Lm46_ok (by kernel_rfl) S rfl ?_ okFn_118 (by decide) ?_ ?_
 ·simp[f1]
 ·simpa[f9] using hcal
 ·exact fun a' w' S'=>hQ (setd (setd fr (some 26) (fr 1)) (some 27) (fr 9)) a' w' rfl rfl S'
theorem read_d7 {c0 c1 c2 c3 d5 d6 d7 d8 d9:Code}{x:Operand}(hb:Tryz.f117.body=some (.seq c0 (.seq c1 (.seq c2 (.seq c3 (.seq d5 (.seq d6 (.seq (.seq d7 (.cond x d8 .skip)) (.seq d9 .ret))))))))){T:List Tok}{gp g4 g5 gx gy n:Nat}{e:Int}{hp:Hp}{p:Sy.Pr}{st:AS}(h:RQ T gp g4 g5 gx gy n e hp p st):
  W Tryz.prog E47 1 (Lm X46) d7 st (fun e1 s2=>e1= .normal∧opA s2.fr x=bv (decide (n<T.length))∧RQ T gp g4 g5 gx gy n e hp p s2):=by
 obtain⟨fr,hq⟩:=st
 obtain⟨⟨f4,b4⟩,⟨f5,b5⟩,f9,⟨h1,h2,hlen,hle⟩,bx,low⟩:=h
 simp only at f4 b4 f5 b5 f9 bx low h1 h2
 cases hb
 repeat' (first|(refine ZN ?_)|(refine Z2 ?_ ?_)|(intro h h';try simp[*,-h] at h'))
 exact⟨rfl,by simp[opA],⟨by simp[*],by simp[*]⟩,⟨by simp[*],by simp[*]⟩,by simp[*],⟨h1,h2,hlen,hle⟩,bx,low⟩
theorem read_d8p {c0 c1 c2 c3 d5 d6 d7 d8 d9:Code}{x:Operand}(hb:Tryz.f117.body=some (.seq c0 (.seq c1 (.seq c2 (.seq c3 (.seq d5 (.seq d6 (.seq (.seq d7 (.cond x d8 .skip)) (.seq d9 .ret))))))))){T:List Tok}{gp g4 g5 gx gy n N nn:Nat}{e:Int}{hp:Hp}{p:Sy.Pr}{st:AS}{K:Nat→Prop}{B:Base}{v:Value}{hp':Hp}{a:Act}{w:World}{Q:Exit→Act→World→Prop}(hN:N=41)(h:RQ T gp g4 g5 gx gy n e hp p st)(hc:Pan Tryz.prog E47 (Lm X46) (.fn 1 137 [.ptr ⟨1,25,0⟩ gx 0] st.hp) nn v hp')(S:StR 1 N K B st a w)
  (hQ: ∀fr a' w',fr 4=st.fr 4→fr 5=st.fr 5→StR 1 N K B ⟨fr,hp'⟩ a' w'→Q (.panic (panE v)) a' w'):d8.wp Tryz.prog Q a w:=by
 subst hN
 obtain⟨fr,hq⟩:=st
 obtain⟨_,_,f9,rd,_,_⟩:=h
 simp only at f9 rd hc
 have hcal:PanCalls Tryz.prog 1 137 [.ptr ⟨1,25,0⟩ gx 0] hq v hp':=pan_ok mixed47 E47_law Lm46_ok nn _ v hp' hc
 cases hb
 refine region_panS (P:=Tryz.prog) (E:=E47) (call:=Lm X46) (k:=1) (pre:=[_]) (st':=⟨setd fr (some 39) (fr 9),hq⟩) (f:=137) (cs:=[]) (v:=v) (hp':=hp') E47_law Lm46_ok (by kernel_rfl) S rfl ?_ okFn_137 (by decide) ?_ ?_
 ·simp[opA]
 ·simpa[f9] using hcal
 ·exact fun a' w' S'=>hQ (setd fr (some 39) (fr 9)) a' w' rfl rfl S'
theorem read_d9 {c0 c1 c2 c3 d5 d6 d7 d8 d9:Code}{x:Operand}(hb:Tryz.f117.body=some (.seq c0 (.seq c1 (.seq c2 (.seq c3 (.seq d5 (.seq d6 (.seq (.seq d7 (.cond x d8 .skip)) (.seq d9 .ret))))))))){T:List Tok}{gp g4 g5 gx gy n:Nat}{e:Int}{hp:Hp}{p:Sy.Pr}{st:AS}(h:RQ T gp g4 g5 gx gy n e hp p st):
  W Tryz.prog E47 1 (Lm X46) (.seq d9 .ret) st (fun e1 s2=>e1= .ret∧RQ T gp g4 g5 gx gy n e hp p s2):=by
 obtain⟨fr,hq⟩:=st
 obtain⟨⟨f4,b4⟩,⟨f5,b5⟩,f9,⟨h1,h2,hlen,hle⟩,bx,low⟩:=h
 simp only at f4 b4 f5 b5 f9 bx low h1 h2
 cases hb
 repeat' (first|(refine ZN ?_)|(refine Z2 ?_ ?_)|(intro h h';try simp[*,-h] at h'))
 exact⟨rfl,⟨by simp[*],by simp[*]⟩,⟨by simp[*],by simp[*]⟩,by simp[*],⟨by simp[*],by simp[*],hlen,hle⟩,by simp[*],fun i c hne=>by simpa using low i c hne⟩
theorem rs_read :Tryz.f117.results.toList=[.cell 4 3,.cell 5 38]:=rfl
theorem read_end {N:Nat}{K:Nat→Prop}{B:Base}{fr:Nat→AV}{hq:Hp}{act:Act}{w:World}{a e:Int}{g4 g5:Nat}(S:StR 1 N K B ⟨fr,hq⟩ act w)(f4:fr 4= .ptr ⟨1,4,0⟩ g4 0)(b4:hq ⟨1,4,0⟩= .box g4 [iv a] false)(f5:fr 5= .ptr ⟨1,5,0⟩ g5 0)(b5:hq ⟨1,5,0⟩= .box g5 [iv e] false):
  ∃v,(results Tryz.f117 act.tmps).run Tryz.prog w= .ok v w∧ ∃I' m',Sim I' K m' hq w (.tup [iv a,iv e]) 0 B.I B.m B.hp B.w v:=by
 obtain⟨I1,m1,G1,E1,hf1,_,hd1⟩:=S
 have h:(lowerRes Tryz.prog fr 0 0 [.cell 4 3,.cell 5 38]).run hq=some (.tup [iv a,iv e],hq):=by
  simp[f4,f5,b4,b5]
 obtain⟨us',hrun,I2,m2,G2,E2,R2⟩:=lowerRes_ok (k:=0) G1 hf1 h
 exact⟨retV us',run_results _ _ us' (by rw[rs_read];exact hrun),I2,m2,G2,E1.trans E2,R2⟩
theorem read_c3 {c0 c1 c2 c3 d5 d6 d7 d8 d9:Code}{x:Operand}(hb:Tryz.f117.body=some (.seq c0 (.seq c1 (.seq c2 (.seq c3 (.seq d5 (.seq d6 (.seq (.seq d7 (.cond x d8 .skip)) (.seq d9 .ret))))))))){a:Act}{w:World}{Q:Exit→Act→World→Prop}(hs:a.tmps.size=41)
  (hQ:Q .normal {(a.put (some 20) (.func (.func 136) #[] #[a.eval (.tmp 4),a.eval (.tmp 5)])) with defers:={target:= .fn (.func 136) #[a.eval (.tmp 4),a.eval (.tmp 5)],args:= #[]}::a.defers} w):c3.wp Tryz.prog Q a w:=by
 cases hb
 refine wp_region ?_
 have hmf: ∀(fn:Fn) (first cap:Array Value) (w:World),(Instr.makeFunc fn first cap).run Tryz.prog w= .ok (.func fn first cap) w:=fun _ _ _ _=>rfl
 simp[wpOps,Oper.wp,Oper.upon,go_sem,hmf,Region.wanted,hs]
 exact .inl (.inl (by simpa[Act.put,Act.eval,hs] using hQ))
def RR (hp:Hp)(gp:Nat)(v:AV)(hp':Hp):Prop:= ∃a e:Int,v= .tup [iv a,iv e]∧((e=0∧ ∃p:Sy.Pr,p.size≤20000∧hp' ⟨0,5,0⟩= .box gp p.row false)∨(0<e∧ ∃cells,hp' ⟨0,5,0⟩= .box gp cells false))∧ ∀i c,(⟨0,i,c⟩:Nm)≠⟨0,5,0⟩→hp' ⟨0,i,c⟩=hp ⟨0,i,c⟩
def Fresh1 (s:ByteArray)(gp:Nat)(hp:Hp):Prop:=s=s1∧gp=1∧(∀c,hp ⟨1,25,c⟩= .no 0)∧ ∀d i c,hp ⟨d+2,i,c⟩= .no 0
def RX (s:ByteArray)(hp:Hp)(gp:Nat)(v:AV)(hp':Hp):Prop:=RR hp gp v hp'∧(Fresh1 s gp hp→v= .tup [iv 0,iv 0]∧hp' ⟨0,5,0⟩= .box gp x1.row false)
theorem read_start {s:ByteArray}{gp:Nat}{hp:Hp}{I K:Nat→Prop}{m:Mp}{w:World}{us:List Value}(G:Gam I K m hp w)(ha:AllR (Rep 0 I m hp w) [tv s,.fn 118 [.ptr ⟨0,5,0⟩ gp 0]] us):
  StR 1 41 K ⟨I,m,hp,w,[]⟩ ⟨frame0 [tv s,.fn 118 [.ptr ⟨0,5,0⟩ gp 0]],hp⟩ {tmps:=(⟨us⟩:Array Value)++Array.replicate (Tryz.f117.ntmps - (⟨us⟩:Array Value).size) undef,defers:=[]} w:=by
 have hl:us.length=2:=by rw[←ha.1];rfl
 have hn:Tryz.f117.ntmps=41:=rfl
 refine⟨I,m,G,.refl _ _ _ _ _,fun t=>frame_ok (ha.imp fun a u h=>Rep.depth (Nat.le_succ 0) a u h) t,?_,rfl⟩
 simp only[Array.size_append,List.size_toArray,Array.size_replicate,hn]
 omega
theorem read_slots {c0 c1 c2 c3 d5 d6 d7 d8 d9:Code}{x:Operand}(hb:Tryz.f117.body=some (.seq c0 (.seq c1 (.seq c2 (.seq c3 (.seq d5 (.seq d6 (.seq (.seq d7 (.cond x d8 .skip)) (.seq d9 .ret))))))))):(∀c∈[c0,c1,c2],slotsIn 41 c=true)∧slotsIn 41 d5=true∧slotsIn 41 d6=true∧slotsIn 41 d7=true∧slotsIn 41 d8=true∧slotsIn 41 (.seq d9 .ret)=true:=by
 have h:slotsIn 41 (.seq c0 (.seq c1 (.seq c2 (.seq c3 (.seq d5 (.seq d6 (.seq (.seq d7 (.cond x d8 .skip)) (.seq d9 .ret))))))))=true:=by
  have h0:(match Tryz.f117.body with|some c=>slotsIn 41 c|none=>false)=true:=by kernel_rfl
  rw[hb] at h0
  exact h0
 simp only[slotsIn,Bool.and_eq_true] at h
 obtain⟨a0,a1,a2,a3,a5,a6,⟨a7,⟨_,a8⟩,_⟩,a9⟩:=h
 refine⟨?_,a5,a6,a7,a8,?_⟩
 ·intro c hc
  simp only[List.mem_cons,List.not_mem_nil,or_false] at hc
  rcases hc with rfl|rfl|rfl<;>assumption
 ·simp only[slotsIn,a9.1,Bool.and_self,Bool.true_and]
theorem read_uncut {c0 c1 c2 c3 d5 d6 d7 d8 d9:Code}{x:Operand}(hb:Tryz.f117.body=some (.seq c0 (.seq c1 (.seq c2 (.seq c3 (.seq d5 (.seq d6 (.seq (.seq d7 (.cond x d8 .skip)) (.seq d9 .ret))))))))){s:ByteArray}{gp:Nat}{hp hp':Hp}{v:AV}{s1:AS}
  (hW:Wch Tryz.prog E47 1 (Lm X46) (fun e1 s2=>e1= .ret∧s2=s1) (fun s2=>s2=s1∧Ab.Ex.ret= .normal) [c0,c1,c2] ⟨frame0 [tv s,.fn 118 [.ptr ⟨0,5,0⟩ gp 0]],hp⟩)
  (hl:(lowerRes Tryz.prog s1.fr 0 0 [.cell 4 3,.cell 5 38]).run s1.hp=some (v,hp')):SemH Tryz.prog 0 117 [tv s,.fn 118 [.ptr ⟨0,5,0⟩ gp 0]] hp v hp':=by
 intro hok I K m w us G ha
 refine calls_of_wp_defers Tryz.func117 hb ?_
 refine Wch.wp mixed47 E47_law Lm46_ok (fun s2 a' w' h=>nomatch h.2) (fun e s2 a' w' hne h S=>?_) (fun v hp' a' w' h=>nomatch h.1) [c0,c1,c2] hW (read_slots hb).1 (read_start G ha)
 obtain⟨rfl,rfl⟩:=h
 obtain⟨I1,m1,G1,E1,hf1,_,hd1⟩:=S
 obtain⟨us',hrun,I2,m2,G2,E2,R2⟩:=lowerRes_ok (k:=0) G1 hf1 hl
 show Leaves _ _ _ _ a'.defers .returning w'
 rw[hd1]
 exact⟨retV us',run_results _ _ us' (by rw[rs_read];exact hrun),retV us',rfl,I2,m2,G2,E1.trans E2,R2⟩
def offD (p q:Value):Deferred:={target:= .fn (.func 136) #[p,q],args:= #[]}
theorem off_inv (p q:Value)(w:World):(invoke (.fn (.func 136) #[p,q]) #[]).run Tryz.prog w= .ok (.enter 136 #[p,q]) w:=by
 simp[go_sem]
theorem leave_ret {K:Nat→Prop}{I:Nat→Prop}{m:Mp}{hp hq:Hp}{w w':World}{fr:Nat→AV}{act:Act}{p q:Addr}{a e:Int}{g4 g5:Nat}(S:StR 1 41 K ⟨I,m,hp,w,[offD (.pointer (some p)) (.pointer (some q))]⟩ ⟨fr,hq⟩ act w')(f4:fr 4= .ptr ⟨1,4,0⟩ g4 0)(b4:hq ⟨1,4,0⟩= .box g4 [iv a] false)(f5:fr 5= .ptr ⟨1,5,0⟩ g5 0)(b5:hq ⟨1,5,0⟩= .box g5 [iv e] false):
  Leaves Tryz.prog Tryz.f117 act.tmps (fun e' w''=> ∃u,e'= .returned u∧ ∃I' m',Sim I' K m' hq w'' (.tup [iv a,iv e]) 0 I m hp w u) act.defers .returning w':=by
 obtain⟨v,hv,hS⟩:=read_end S f4 b4 f5 b5
 obtain⟨_,_,_,_,_,_,hd⟩:=S
 rw[hd]
 refine leaves_cons (f:=136) (args:= #[.pointer (some p),.pointer (some q)]) (by simp) (off_inv _ _ _) ?_
 refine(catch_idle p q w').mono ?_
 rintro e1 u' w1 ⟨rfl,rfl,rfl⟩
 exact⟨v,hv,v,rfl,hS⟩
theorem leave_pan {K:Nat→Prop}{I:Nat→Prop}{m:Mp}{hp hq:Hp}{w w':World}{fr:Nat→AV}{act:Act}{p q:Value}{a:Int}{g4 g5:Nat}{x4 x5:AV}(S:StR 1 41 K ⟨I,m,hp,w,[offD p q]⟩ ⟨fr,hq⟩ act w')(f4:fr 4= .ptr ⟨1,4,0⟩ g4 0)(b4:hq ⟨1,4,0⟩= .box g4 [x4] false)(f5:fr 5= .ptr ⟨1,5,0⟩ g5 0)(b5:hq ⟨1,5,0⟩= .box g5 [x5] false)
  (hp4: ∀I1 m1,Gam I1 K m1 hq w'→Ext I K m hp w I1 m1 hq w'→Rep 1 I1 m1 hq w' (.ptr ⟨1,4,0⟩ g4 0) p∧Rep 1 I1 m1 hq w' (.ptr ⟨1,5,0⟩ g5 0) q):
  Leaves Tryz.prog Tryz.f117 act.tmps (fun e' w''=> ∃u,e'= .returned u∧ ∃I' m',Sim I' K m' (catchHp a g4 g5 hq) w'' (.tup [iv a,iv 3]) 0 I m hp w u) act.defers (.panicking (panE (wrongV a))) w':=by
 obtain⟨I1,m1,G1,E1,hf,hs,hd⟩:=S
 rw[hd]
 refine leaves_cons (f:=136) (args:= #[p,q]) (by simp) (off_inv _ _ _) ?_
 refine(catch_wrong G1 (hp4 I1 m1 G1 E1).1 (hp4 I1 m1 G1 E1).2 b4 b5).mono ?_
 rintro e1 u' w1 ⟨rfl,rfl,I',m',G',E'⟩
 obtain⟨v,hv,hS⟩:=read_end (N:=41) (B:=⟨I,m,hp,w,[offD p q]⟩) (a:=a) (e:=3) (S:=⟨I',m',G',E1.trans E',fun t=>Rep.mono E' _ _ _ (hf t),hs,hd⟩) f4 rfl f5 rfl
 exact⟨v,hv,v,rfl,hS⟩
theorem read_x {K:Nat→Prop}{B:Base}{st:AS}{a:Act}{w:World}{x:Operand}{b t:Bool}(S:StR 1 41 K B st a w)(h:opA st.fr x=bv b)(hb:b=t):a.eval x= .bool t:=by
 obtain⟨I,m,G,_,hf,_,_⟩:=S
 have:=opA_ok G hf x
 rw[h,hb] at this
 simpa[Rep] using this
theorem read_body {c0 c1 c2 c3 d5 d6 d7 d8 d9:Code}{x:Operand}(hb:Tryz.f117.body=some (.seq c0 (.seq c1 (.seq c2 (.seq c3 (.seq d5 (.seq d6 (.seq (.seq d7 (.cond x d8 .skip)) (.seq d9 .ret))))))))){s:ByteArray}{T:List Tok}{gp g4 g5:Nat}{hp:Hp}{st:AS}{c1v c2v c3v:AV}(hT:T.length≤20000)(h:RH s T gp g4 g5 hp st)(hbx:hp ⟨0,5,0⟩= .box gp [c1v,c2v,c3v] false):
  ∃v hp',RX s hp gp v hp'∧ ∀(I K:Nat→Prop) (m:Mp) (w:World) (act:Act) (p q:Addr),StR 1 41 K ⟨I,m,st.hp,w,[offD (.pointer (some p)) (.pointer (some q))]⟩ st act w→Rep 1 I m st.hp w (st.fr 4) (.pointer (some p))→Rep 1 I m st.hp w (st.fr 5) (.pointer (some q))→
   (Code.seq d5 (.seq d6 (.seq (.seq d7 (.cond x d8 .skip)) (.seq d9 .ret)))).wp Tryz.prog (bodyPostD Tryz.prog Tryz.f117 (fun e' w''=> ∃u,e'= .returned u∧ ∃I' m',Sim I' K m' hp' w'' v 0 I m st.hp w u)) act w:=by
 obtain⟨e5,s5,hW5,rfl,gx,gy,hRT,hgx,hgy,hup⟩:=W.pick (read_d5 hb hT h)
 have hq5:s5.hp ⟨0,5,0⟩= .box gp [c1v,c2v,c3v] false:=(hRT.low 5 0).trans hbx
 have hx:Fresh1 s gp hp→ ∃hp2,(Lm X46).hpc 1 28 118 [.ptr ⟨1,25,0⟩ gx 0,.ptr ⟨0,5,0⟩ gp 0] s5.hp=some (.tup [],hp2)∧hp2 ⟨0,5,0⟩= .box gp x1.row false∧ ∃e:Int,hp2 ⟨1,25,0⟩= .box gx [.own ⟨1,25,1⟩ gy T.length,iv T.length,iv e] false:=by
  rintro⟨hs,hgp,f1,f2⟩
  have hT1:=(h.lx hs).1
  have hl:T.length=16:=by have:=congrArg List.length hT1;simpa[T1] using this
  have hrd:=hRT.rd
  have hss:(s.size:Int)=35:=by rw[hs];rfl
  rw[hss] at hrd
  have hgx1:gx=1:=by rw[hgx,f1];rfl
  have hgy1:gy=1:=by rw[hgy,f1];rfl
  subst hgp
  rw[hgx1,hgy1] at hrd
  obtain⟨hp2,h1,h2,h3⟩:=closure_x hT1 hrd hq5 (fun d i c=>(hup d i c).trans (f2 d i c))
  rw[hgx1,hgy1,hl]
  exact⟨hp2,h1,h2,35,h3⟩
 rcases closure_w 28 s5.hp hRT.rd hq5 with⟨v,hp2,hc,hr⟩|⟨nn,v,hp',hc,⟨a,rfl⟩,hfar⟩
 ·obtain⟨pr,n,hr⟩: ∃pr n,RC1 T s.size gx gy gp s5.hp v hp2 pr n:=by
   obtain⟨h1,x,n,h2⟩:=hr
   exact⟨x,n,h1,h2⟩
  have hps:=hr.2.2.1
  have hx2:Fresh1 s gp hp→pr.row=x1.row∧n=T.length:=by
   intro hF
   obtain⟨hp3,c3,b3,e3,r3⟩:=hx hF
   rw[hc] at c3
   obtain rfl:hp2=hp3:=congrArg Prod.snd (Option.some.inj c3)
   have h6:=hr.2.1
   rw[b3] at h6
   have h7:=hr.2.2.2.1.box
   rw[r3] at h7
   simp only[AObj.box.injEq,true_and,and_true] at h6
   simp only[AObj.box.injEq,List.cons.injEq,AV.sc.injEq,Value.int.injEq,true_and,and_true] at h7
   exact⟨h6.symm,by omega⟩
  obtain⟨e6,s6,hW6,rfl,hRQ⟩:=W.pick (read_d6 hb hRT hc hr)
  obtain⟨e7,s7,hW7,rfl,hx7,hRQ7⟩:=W.pick (read_d7 hb hRQ)
  by_cases hn:n<T.length
  ·rcases fail 1 (by omega) 40 s7.hp hRQ7.rd with⟨v,hp2,_,h1⟩|⟨nn,v,hp',h1,⟨a,rfl⟩,hfar⟩
   ·exact h1.elim
   obtain⟨f4,b4⟩:=hRQ7.f4
   obtain⟨f5,b5⟩:=hRQ7.f5
   refine⟨.tup [iv a,iv 3],catchHp a g4 g5 hp',⟨⟨a,3,rfl,.inr ⟨by decide,_,((hfar 0 5 0 (by omega) (by simp)).trans hRQ7.bx)⟩,fun i c hne=>(hfar 0 i c (by omega) (by simp)).trans (hRQ7.low i c hne)⟩,fun hF=>absurd hn (by have:=(hx2 hF).2;omega)⟩,?_⟩
   intro I K m w act p q S hp4 hp5
   refine wp_seq (W.wp mixed47 E47_law Lm46_ok hW5 (read_slots hb).2.1 S (fun e s2 a' w' hh S'=>?_) (fun v hp' a' w' h=>nomatch h.1))
   obtain⟨rfl,rfl⟩:=hh
   refine wp_seq (W.wp mixed47 E47_law Lm46_ok hW6 (read_slots hb).2.2.1 S' (fun e s2 a' w' hh S'=>?_) (fun v hp' a' w' h=>nomatch h.1))
   obtain⟨rfl,rfl⟩:=hh
   refine wp_seq (wp_seq (W.wp mixed47 E47_law Lm46_ok hW7 (read_slots hb).2.2.2.1 S' (fun e s2 a' w' hh S'=>?_) (fun v hp' a' w' h=>nomatch h.1)))
   obtain⟨rfl,rfl⟩:=hh
   refine wp_cond_true (read_x S' hx7 (by simp[hn])) (read_d8p hb rfl hRQ7 h1 S' fun fr a2 w2 e4 e5 S2=>?_)
   exact leave_pan S2 (e4.trans f4) ((hfar 1 4 0 (by omega) (by simp)).trans b4) (e5.trans f5) ((hfar 1 5 0 (by omega) (by simp)).trans b5) (fun I1 m1 _ E1=>⟨Rep.mono E1 _ _ _ (h.f4.1▸hp4),Rep.mono E1 _ _ _ (h.f5.1▸hp5)⟩)
  ·obtain⟨e9,s9,hW9,rfl,hRQ9⟩:=W.pick (read_d9 hb hRQ7)
   refine⟨.tup [iv 0,iv 0],s9.hp,⟨⟨0,0,rfl,.inl ⟨rfl,pr,by omega,hRQ9.bx⟩,hRQ9.low⟩,fun hF=>⟨rfl,by rw[←(hx2 hF).1];exact hRQ9.bx⟩⟩,?_⟩
   intro I K m w act p q S hp4 hp5
   refine wp_seq (W.wp mixed47 E47_law Lm46_ok hW5 (read_slots hb).2.1 S (fun e s2 a' w' hh S'=>?_) (fun v hp' a' w' h=>nomatch h.1))
   obtain⟨rfl,rfl⟩:=hh
   refine wp_seq (W.wp mixed47 E47_law Lm46_ok hW6 (read_slots hb).2.2.1 S' (fun e s2 a' w' hh S'=>?_) (fun v hp' a' w' h=>nomatch h.1))
   obtain⟨rfl,rfl⟩:=hh
   refine wp_seq (wp_seq (W.wp mixed47 E47_law Lm46_ok hW7 (read_slots hb).2.2.2.1 S' (fun e s2 a' w' hh S'=>?_) (fun v hp' a' w' h=>nomatch h.1)))
   obtain⟨rfl,rfl⟩:=hh
   refine wp_cond_false (read_x S' hx7 (by simp[hn])) (wp_skip ?_)
   refine W.wp mixed47 E47_law Lm46_ok hW9 (read_slots hb).2.2.2.2.2 S' (fun e s2 a' w' hh S'=>?_) (fun v hp' a' w' h=>nomatch h.1)
   obtain⟨rfl,rfl⟩:=hh
   exact leave_ret S' hRQ9.f4.1 hRQ9.f4.2 hRQ9.f5.1 hRQ9.f5.2
 ·by_cases hF:Fresh1 s gp hp
  ·obtain⟨hp3,c3,b3,_⟩:=hx hF
   refine⟨.tup [iv 0,iv 0],upd s5.hp ⟨0,5,0⟩ (.box gp x1.row false),⟨⟨0,0,rfl,.inl ⟨rfl,x1,by decide,upd_same _ _ _⟩,fun i c hne=>(upd_other _ _ hne).trans (hRT.low i c)⟩,fun _=>⟨rfl,upd_same _ _ _⟩⟩,?_⟩
   intro I K m w act p q S hp4 hp5
   refine wp_seq (W.wp mixed47 E47_law Lm46_ok hW5 (read_slots hb).2.1 S (fun e s2 a' w' hh S'=>?_) (fun v hp' a' w' h=>nomatch h.1))
   obtain⟨rfl,rfl⟩:=hh
   exact(no_world c3 hc S' hRT.f1 hRT.f9).elim
  obtain⟨f4,b4⟩:=hRT.f4
  obtain⟨f5,b5⟩:=hRT.f5
  refine⟨.tup [iv a,iv 3],catchHp a g4 g5 hp',⟨⟨a,3,rfl,.inr ⟨by decide,_,((hfar 0 5 0 (by omega) (by simp)).trans hq5)⟩,fun i c hne=>(hfar 0 i c (by omega) (by simp)).trans (hRT.low i c)⟩,fun h=>(hF h).elim⟩,?_⟩
  intro I K m w act p q S hp4 hp5
  refine wp_seq (W.wp mixed47 E47_law Lm46_ok hW5 (read_slots hb).2.1 S (fun e s2 a' w' hh S'=>?_) (fun v hp' a' w' h=>nomatch h.1))
  obtain⟨rfl,rfl⟩:=hh
  refine wp_seq (read_d6p hb rfl hRT hc S' fun fr a2 w2 e4 e5 S2=>?_)
  exact leave_pan S2 (e4.trans f4) ((hfar 1 4 0 (by omega) (by simp)).trans b4) (e5.trans f5) ((hfar 1 5 0 (by omega) (by simp)).trans b5) (fun I1 m1 _ E1=>⟨Rep.mono E1 _ _ _ (h.f4.1▸hp4),Rep.mono E1 _ _ _ (h.f5.1▸hp5)⟩)
theorem Leaves_mono {P:Program}{fn:Func}{tmps:Array Value}{R R':Ending→World→Prop}(h: ∀e w,R e w→R' e w): ∀(ds:List Deferred) (u:FrameMode) (w:World),Leaves P fn tmps R ds u w→Leaves P fn tmps R' ds u w
 |[],.returning,w,⟨v,h1,h2⟩=>⟨v,h1,h _ _ h2⟩
 |[],.panicking c,w,h1=>h _ _ h1
 |[],.run,_,h1=>h1.elim
 |d::ds,u,w,⟨hu,fv,cap,f,args,h1,h2,h3⟩=>by
  refine⟨hu,fv,cap,f,args,h1,h2,h3.mono fun e u' w' he=>?_⟩
  cases e with
  |returned v=>exact Leaves_mono h ds _ _ he
  |panicked c=>exact Leaves_mono h ds _ _ he
  |outgrown=>exact h _ _ he
theorem bodyPostD_mono {P:Program}{fn:Func}{R R':Ending→World→Prop}(h: ∀e w,R e w→R' e w): ∀(e:Exit) (a:Act) (w:World),bodyPostD P fn R e a w→bodyPostD P fn R' e a w:=by
 intro e a w h1
 cases e<;>first|exact Leaves_mono h _ _ _ h1|exact h _ _ h1|exact h1.elim
theorem read_sem {s:ByteArray}(hs:s.size<9223372036854775807){gp:Nat}{hp:Hp}{c1v c2v c3v:AV}(hbx:hp ⟨0,5,0⟩= .box gp [c1v,c2v,c3v] false):
  ∃v hp',SemH Tryz.prog 0 117 [tv s,.fn 118 [.ptr ⟨0,5,0⟩ gp 0]] hp v hp'∧RX s hp gp v hp':=by
 obtain⟨c0,c1,c2,c3,d5,d6,d7,x,d8,d9,hb⟩: ∃c0 c1 c2 c3 d5 d6 d7 x d8 d9,Tryz.f117.body=some (.seq c0 (.seq c1 (.seq c2 (.seq c3 (.seq d5 (.seq d6 (.seq (.seq d7 (.cond x d8 .skip)) (.seq d9 .ret)))))))):=⟨_,_,_,_,_,_,_,_,_,_,rfl⟩
 obtain⟨T,hT,hW⟩:=read_head hb hs (gp:=gp) (hp:=hp)
 obtain⟨e1,s1,hW1,h1⟩:=Wch.pick _ hW
 rcases h1 with⟨rfl,h1⟩|⟨hne,h1⟩
 ·obtain⟨v,hp',hRR,hbody⟩:=read_body hb hT (st:=⟨setd s1.fr (some 20) .any,s1.hp⟩) (hp:=hp) (s:=s) (gp:=gp) ⟨by simpa using h1.f0,by simpa using h1.f1,by simpa using h1.f4,by simpa using h1.f5,by simpa using h1.f6,h1.low,h1.lx,h1.u25,h1.up⟩ hbx
  refine⟨v,hp',?_,hRR⟩
  intro hok I K m w us G ha
  refine calls_of_wp_defers Tryz.func117 hb ?_
  refine Wch.wp mixed47 E47_law Lm46_ok (fun s2 a' w' hh S=>?_) (fun e s2 a' w' hne hh S=>(hne hh.1).elim) (fun v hp' a' w' h=>nomatch h.1) [c0,c1,c2] hW1 (read_slots hb).1 (read_start G ha)
  obtain⟨rfl,_⟩:=hh
  obtain⟨I1,m1,G1,E1,hf1,hs1,hd1⟩:=S
  have R4:=hf1 4
  have R5:=hf1 5
  rw[h1.f4.1] at R4
  rw[h1.f5.1] at R5
  have R4':=R4
  have R5':=R5
  simp only[Rep] at R4' R5'
  obtain⟨b4,n4,_,e4⟩:=R4'.2.2 _ _ h1.f4.2
  obtain⟨b5,n5,_,e5⟩:=R5'.2.2 _ _ h1.f5.2
  refine wp_seq (read_c3 hb hs1 ?_)
  have S':StR 1 41 K ⟨I1,m1,s2.hp,w',[offD (.pointer (some ⟨b4,0,none⟩)) (.pointer (some ⟨b5,0,none⟩))]⟩ ⟨setd s2.fr (some 20) .any,s2.hp⟩ {(a'.put (some 20) (.func (.func 136) #[] #[a'.eval (.tmp 4),a'.eval (.tmp 5)])) with defers:={target:= .fn (.func 136) #[a'.eval (.tmp 4),a'.eval (.tmp 5)],args:= #[]}::a'.defers} w':=by
   refine⟨I1,m1,G1,.refl _ _ _ _ _,fun t=>?_,?_,?_⟩
   ·show Rep 1 I1 m1 s2.hp w' (setd s2.fr (some 20) .any t) ((a'.put (some 20) _).eval (.tmp t))
    rw[put_eval _ _ _ _ (by omega)]
    by_cases h:t=20
    ·subst h;simp[Rep]
    ·simp only[if_neg h]
     have:setd s2.fr (some 20) .any t=s2.fr t:=by simp[setd,h]
     rw[this];exact hf1 t
   ·show(a'.put (some 20) _).tmps.size=41
    rw[put_size];exact hs1
   ·show _::a'.defers=_
    rw[hd1,e4,e5];rfl
  refine wp_mono (hbody I1 K m1 w' _ _ _ S' (by rw[e4] at R4;simpa[h1.f4.1] using R4) (by rw[e5] at R5;simpa[h1.f5.1] using R5)) (bodyPostD_mono ?_)
  rintro e w'' ⟨u,he,I',m',hS⟩
  exact⟨u,he,I',m',hS.1,E1.trans hS.2.1,hS.2.2⟩
 ·cases e1 with
  |normal=>exact(hne rfl).elim
  |exit i=>exact h1.elim
  |panic v=>exact h1.elim
  |ret=>
   obtain⟨v,hp',hl,a,e,rfl,he,hns,hlow⟩:=h1
   exact⟨_,hp',read_uncut hb hW1 hl,⟨a,e,rfl,.inr ⟨he,_,(hlow 5 0).trans hbx⟩,fun i c _=>hlow i c⟩,fun hF=>(hns hF.1).elim⟩
def RhR (k f:Nat)(a:List AV)(hp:Hp)(v:AV)(hp':Hp):Prop:=k=0∧f=117∧ ∃s gp,a=[tv s,.fn 118 [.ptr ⟨0,5,0⟩ gp 0]]∧RX s hp gp v hp'
noncomputable def X47 :Orc:=semX Tryz.prog (fun _ _ _=>False) RhR
theorem X47_ok :OrcOk Tryz.prog X47:=semX_ok _ _ _
def Rd48 (f:Nat)(a r:List AV):Prop:=f=120∧a=[.agg x1.row]∧r=[bv true]
noncomputable def X48 :Orc:=⟨(semX Tryz.prog Rd48 (fun _ _ _ _ _ _=>False)).dat,X47.hpc⟩
theorem X48_ok :OrcOk Tryz.prog X48:=⟨(semX_ok _ _ _).1,X47_ok.2⟩
theorem Lm48_ok :OrcOk Tryz.prog (Lm X48):=lim_ok mixed47 E47_law X48_ok
theorem X48_no {f:Nat}(a:List AV)(h:f≠120):X48.dat f a=none:=semX_dat_none (Rh:=fun _ _ _ _ _ _=>False) fun r hr=>h hr.1
theorem semD_of {X:Orc}(h:OrcOk Tryz.prog (Lm X)){f:Nat}{a r:List AV}(hf:(Lm X).dat f a=some r):SemD Tryz.prog f a r:=h.1 f a r hf
theorem right_46 :(Lm X46).dat 120 [.agg x1.row]=some [bv true]:=lim_dat.2 ⟨200,by kernel_rfl⟩
theorem right_x :(Lm X48).dat 120 [.agg x1.row]=some [bv true]:=by
 obtain⟨r,h1,h2⟩:=semX_dat (Rd:=Rd48) (Rh:=fun _ _ _ _ _ _=>False) (semD_of Lm46_ok right_46) ⟨rfl,rfl,rfl⟩
 obtain⟨_,_,rfl⟩:=h2
 exact lim_base_dat (X:=X48) h1
theorem read_hx {d gp:Nat}{hp:Hp}{c1v c2v c3v:AV}(hF:Fresh1 s1 gp hp)(hbx:hp ⟨0,5,0⟩= .box gp [c1v,c2v,c3v] false):
  HB Tryz.prog E47 (Lm X48) 0 d 117 [tv s1,.fn 118 [.ptr ⟨0,5,0⟩ gp 0]] hp (fun v hp'=>v= .tup [iv 0,iv 0]∧hp' ⟨0,5,0⟩= .box gp x1.row false∧hp' ⟨0,2,0⟩=hp ⟨0,2,0⟩) (fun _ _=>False):=by
 obtain⟨v,hp',h1,h2⟩:=read_sem (s:=s1) (by decide) hbx
 obtain⟨v',hp'',h3,_,_,s',gp',h4,⟨a,e,_,_,hlow⟩,h5⟩:=semX_hpc (d:=d) (Rd:=fun _ _ _=>False) (Rh:=RhR) h1 ⟨rfl,rfl,s1,gp,rfl,h2⟩
 simp only[List.cons.injEq,AV.sc.injEq,Value.string.injEq,AV.fn.injEq,AV.ptr.injEq,and_true,true_and] at h4
 obtain⟨rfl,rfl⟩:=h4
 exact .inl ⟨v',hp'',lim_base_hpc (X:=X48) h3,(h5 hF).1,(h5 hF).2,hlow 2 0 (by simp)⟩
theorem prog_x :(Lm X48).dat 108 [tv s1]=some [.agg x1.row,iv 0,iv 0]:=by
 refine fnW (P:=Tryz.prog) (E:=E47) (X:=X48) Tryz.func108 (X48_no _ (by decide)) rfl bodyOk_108 rfl rtys_108 rvs_108 ?_
 have rw1:=right_x
 obtain⟨R,hR⟩: ∃R,x1.row=[.sl false 1 [],.sl false 2 [],.sl false 5 [R]]:=⟨_,rfl⟩
 rw[hR] at rw1⊢
 repeat' (first|(refine ZN ?_)|(refine Z2 ?_ ?_)|(intro h h';try simp[*,-h] at h')|((with_reducible apply Wo_call (f:=117));(iterate 5 exact Z5);(apply read_hx);(exact⟨rfl,rfl,fun c=>by simp,fun d i c=>by simp⟩);(exact Zc);rotate_left;(rintro _ _ h;exact h.elim);(rintro _ hp2 ⟨rfl,hb,h2⟩;simp only[hR] at hb;simp at h2))|fail)
 all_goals rfl
theorem prog_s :SemD Tryz.prog 108 [tv s1] [.agg x1.row,iv 0,iv 0]:=semD_of Lm48_ok prog_x
end
section
open Go Go.Ab
def cnt1 :Value→Nat
 | .int _ n=>(n+1).toNat
 |_=>0
theorem down_get (n k:Nat)(h:k<n):((List.range n).reverse.map fun(i:Nat)=>Value.int .i64 i)[k]?=some (.int .i64 ((n:Int) - 1 - k)):=by
 have e:(List.range n).reverse[k]?=some (n - 1 - k):=by
  rw[List.getElem?_reverse (by simpa using h),List.length_range,List.getElem?_range (by omega)]
 rw[List.getElem?_map,e]
 simp only[Option.map_some,Option.some.injEq,Value.int.injEq,true_and]
 omega
theorem down_it (n:Nat)(hn:n≤4611686018427387904):ItOk Tryz.prog 343 [.dp [iv n] 0] ((List.range n).reverse.map fun(i:Nat)=>Value.int .i64 i):=by
 intro I w us hcap l J hJd hJI hY h0
 obtain⟨u,us2,rfl,hu,hr⟩:=hcap.cons_inv
 have:us2=[]:=List.eq_nil_of_length_eq_zero (by rw[←hr.1];rfl)
 subst this
 simp only[RepD] at hu
 obtain⟨b,o,cs,rfl,hI,hc,hd⟩:=hu
 simp only[RepDL,RepD] at hd
 obtain⟨v,vs,rfl,⟨rfl,_⟩,rfl⟩:=hd
 have hcell: ∀i W,J i W→W.cell? ⟨b,o,none⟩=some (.int .i64 n):=fun i W hJ=>(World.cell?_of_block (a:=⟨b,o,none⟩) (hJI i W hJ b hI)).trans (by simpa using hc 0 _ rfl)
 have hcw:=hcell 0 w h0
 have hlen:((List.range n).reverse.map fun(i:Nat)=>Value.int .i64 i).length=n:=by simp
 rw[hlen]
 have hw1:IntKind.i64.wrap ((n:Int) - 1)=(n:Int) - 1:=by rw[IntKind.wrap_i64];omega
 show CallsIn Fence.wide 0 Tryz.prog 343 #[.func (.yield l) #[] #[],.pointer (some ⟨b,o,none⟩)] w _
 refine callsIn_of_wp Tryz.func343 rfl trivial ?_ rfl
 simp only[Tryz.ntmps343,List.size_toArray,List.length_cons,List.length_nil,Nat.reduceAdd,Nat.reduceSub,Array.replicate_succ,Array.replicate_zero,List.push_toArray,List.append_toArray,List.nil_append,List.cons_append]
 gi_wp2
 gi_loopw [3] (fun i wr=> ∃k:Nat,k≤n∧i= .int .i64 ((n:Int) - 1 - k)∧J k wr)
  (fun i _=>cnt1 i)
 case atStart=>exact⟨0,Nat.zero_le _,by simp,h0⟩
 case round=>
  obtain⟨k,hk,rfl,hJs⟩:=hrel
  by_cases hlt:k<n
  ·have p0:(0:Int)≤(n:Int) - 1 - k:=by omega
   have hw2:IntKind.i64.wrap ((n:Int) - 1 - k - 1)=(n:Int) - 1 - k - 1:=by rw[IntKind.wrap_i64];omega
   obtain⟨fn,tmps,assign,body,hy,hR⟩:=hY k _ wr (down_get n k hlt) hJs
   gi_wp2
   refine⟨rfl,hR.mono ?_⟩
   rintro e W3 ⟨rfl,hJ3⟩
   gi_wp2
   go_roundw
   case rel=>exact⟨k+1,by omega,by simp;omega,hJ3⟩
   case measure=>simp[cnt1];omega
  ·obtain rfl:k=n:=by omega
   have p4: ¬(0:Int)≤(k:Int) - 1 - k:=by omega
   gi_wp2
   go_end0
   exact⟨⟨_,rfl⟩,hJs⟩
end
section
open Go Go.Ab Go.Ab.Sy
def EB :Cfg:={eq:=fun t=>t==24||t==34,hp:=fun f=>f==220||f==222||f==249||f==250||f==251||hpA.contains f,inl:=fun f=>[220,177,184].contains f,bx:=fun t=>[240,246,270,235,317,326].contains t,yl:=fun _=>false,ws:=70}
def EB0 :Cfg:={EB with bx:=fun t=>[240,246,235,317,326].contains t}
theorem EB_law :ELaw Tryz.prog EB:=⟨EA_law.1,fun _=>rfl⟩
theorem EB0_law :ELaw Tryz.prog EB0:=⟨EA_law.1,fun _=>rfl⟩
def Xn :Orc:=⟨fun _ _=>none,fun _ _ _ _ _=>none⟩
theorem Xn_ok :OrcOk Tryz.prog Xn:=⟨(fun _ _ _ h=>nomatch h),(fun _ _ _ _ _ _ _ h=>nomatch h)⟩
def itD :Its:=fun f caps=>if f=343 then(match caps with|[.dp [.sc (.int .i64 n)] 0]=>if 0≤n∧n≤4611686018427387904 then some ((List.range n.toNat).reverse.map fun(i:Nat)=>Value.int .i64 i) else none|_=>none) else none
theorem itD_law :ItLaw Tryz.prog itD:=by
 intro f caps vs h
 simp only[itD] at h
 split at h
 ·rename_i hf
  subst hf
  split at h
  ·split at h
   ·rename_i n hn
    cases h
    obtain⟨m,rfl⟩:=Int.eq_ofNat_of_zero_le hn.1
    exact⟨down_it m (by omega),Go.Proofs.enters_of Tryz.func343 (by kernel_rfl) rfl⟩
   ·cases h
  ·cases h
 ·cases h
def tc4 (o n:Int):List AV:=[iv o,iv 0,iv 0,iv 0,iv 0,iv 0,iv 0,uv n]
def aTch :List AV:=[.agg [.sl false 8 [tc4 1 104,tc4 9 0,tc4 1 105,tc4 9 0],iv 3,iv 0,iv 0,iv 0],iv 1]
def rTch :List AV:=[.vec 1 [[.sc (.int .u64 0)]],.vec 1 [[.sc (.int .u64 1)]]]
theorem tch_x :evFnM Tryz.prog EB (evCall Tryz.prog EB Xn 40) itD 60 Tryz.f241 aTch=some rTch:=by kernel_rfl
theorem tch_s :SemD Tryz.prog 241 aTch rTch:=fun _ I w us hI hgl ha=>evFnM_ok mixed6 EB_law (evCall_ok mixed6 EB_law Xn_ok 40) itD_law Tryz.func241 tch_x hI hgl ha
def stkA :List AV:=[.agg [iv 0,.sl false 5 [[iv 0,iv 0,iv 0,bv false,.sl false 4 [[iv 1,iv 0,iv 0,uv 104],[iv 13,iv 0,iv 0,uv 0],[iv 1,iv 0,iv 0,uv 105],[iv 13,iv 0,iv 0,uv 0],[iv 11,iv 0,iv 0,uv 0]]]]]]
def plnR :List AV:=[.agg [.vec 1 [[.sl false 1 [[iv 0],[iv 1],[iv 0],[iv 1],[iv 0]]]],.vec 1 [[iv 0]],.vec 1 [[iv 0]],iv 1]]
theorem pln_x :(lim Tryz.prog EB0 Xn).dat 159 stkA=some plnR:=lim_dat.2 ⟨80,by kernel_rfl⟩
theorem pln_s :SemD Tryz.prog 159 stkA plnR:=(lim_ok mixed6 EB0_law Xn_ok).1 _ _ _ pln_x
def XB :Orc:=orX (oneX 108 [tv srcA] [.agg x1.row,iv 0,iv 0]) (orX (oneX 159 stkA plnR) (oneX 241 aTch rTch))
theorem XB_ok :OrcOk Tryz.prog XB:=orX_ok (oneX_ok prog_s) (orX_ok (oneX_ok pln_s) (oneX_ok tch_s))
def img1 :ByteArray:=⟨#[83,69,69,68,10,0,0,0,1,0,0,0,1,0,240,1,104,0,16,1,0,0,16,17,0,0,16,16,0,0,16,24,105,0,16,1,0,0,16,17,0,0,16,16,0,0,16,24,0,0,0,26]⟩
def img2 :ByteArray:=⟨#[83,69,69,68,5,0,0,0,0,0,0,0,104,0,16,1,0,0,16,24,105,0,16,1,0,0,16,24,0,0,0,26]⟩
theorem bld1_x :(lim Tryz.prog EB XB).dat 87 [pzA 1,tv srcA]=some [tv img1,iv 0]:=lim_dat.2 ⟨80,by kernel_rfl⟩
theorem bld1_s :SemD Tryz.prog 87 [pzA 1,tv srcA] [tv img1,iv 0]:=(lim_ok mixed6 EB_law XB_ok).1 _ _ _ bld1_x
theorem bld2_x :(lim Tryz.prog EB XB).dat 87 [pzA 2,tv srcA]=some [tv img2,iv 0]:=lim_dat.2 ⟨80,by kernel_rfl⟩
theorem bld2_s :SemD Tryz.prog 87 [pzA 2,tv srcA] [tv img2,iv 0]:=(lim_ok mixed6 EB_law XB_ok).1 _ _ _ bld2_x
end
end Go.Proofs.YtpedpkegmalgmaaGreatDoor
