/- A part of the proof: Re, Rx, Rf, Rg, Rh, Ri, Rj, Rk, Gy. -/
import Derived.Test.YtpmoibjpjlhcgaaGreatDoorT07
import Derived.Test.YtpmoibjpjlhcgaaGreatDoorT08
import Derived.WalkKit
import Derived.Test.YtpmoibjpjlhcgaaGreatDoorT05
import Derived.Test.YtpmoibjpjlhcgaaGreatDoorT06
set_option linter.unusedSimpArgs false
set_option linter.unusedVariables false
set_option maxRecDepth 200000
set_option maxHeartbeats 8000000
namespace Go.Proofs.YtpmoibjpjlhcgaaGreatDoor
section
open Go Go.Ab Go.Ab.Sy Go.RowKit
theorem Vf :Tryz.f72.ntmps=13:=rfl
theorem Tz :Tryz.f72.results= #[]:=rfl
theorem Ya (p q:Addr)(w:World):
  CallsD P0 72 #[.pointer (some p),.pointer (some q)] .returning w fun e u' w'=>e= .returned (.tuple #[])/\u'= .returning/\w'=w:=by
 refine callsD_of_wpS Tryz.func72 rfl fun c₀ cs hu=>?_
 apply wpS_seq
 apply wpS_region
 simp[wpOpsS,go_sem,recoverD,hu,Vf,Exit.thenS]
 refine wpS_of_wp (wp_block ?_)
 refine wp_seq (wp_region ?_)
 simp[wpOps,Oper.wp,Oper.upon,go_sem,Exit.then]
 left
 refine wp_cond_true ?_ ?_
 ·simp[Act.eval,Array.replicate]
 refine wp_region ?_
 simp[wpOps,Oper.wp,Oper.upon,go_sem,Exit.then]
 left
 cases c₀
 simp_all[bodyPostS,results,Tz]
theorem A9 :P0.follows .mixedOrders=true:=Zf
theorem Be :ELaw P0 E47:=⟨fun t h=>by simp at h,fun _=>rfl⟩
theorem X46_ok :A4 P0 X46:=⟨(fun f a rs h=>nomatch h),(fun k d f a hp v hp' h=>nomatch h)⟩
theorem Lm46_ok :A4 P0 (Lm X46):=Ll A9 Be X46_ok
def frW (g4 g5:Nat)(a:Int):Nat->AV:=fun t=>if t=0 then .ptr ⟨1,4,0⟩ g4 0 else if t=1 then .ptr ⟨1,5,0⟩ g5 0 else if t=9 then bv true else if t=10 then .agg [iv a] else .any
def catchHp (a:Int)(g4 g5:Nat)(hp:Hp):Hp:=upd (upd (upd hp ⟨2,3,0⟩ (.box ((hp ⟨2,3,0⟩).gen+1) [iv a] false)) ⟨1,4,0⟩ (.box g4 [iv a] false)) ⟨1,5,0⟩ (.box g5 [iv 3] false)
def CW (I K:Nat->Prop)(m:Mp)(hp:Hp)(w:World)(a:Int)(g4 g5:Nat)(e:Ending)(u':FrameMode)(w':World):Prop:=e= .returned (.tuple #[])/\u'= .panicking [{v:=wrongV a,recovered:=true}]/\
   ∃I' m',Gam I' K m' (catchHp a g4 g5 hp) w'/\Ext I K m hp w I' m' (catchHp a g4 g5 hp) w'
@[simp] theorem frW_0 {g4 g5:Nat}{a:Int}:frW g4 g5 a 0= .ptr ⟨1,4,0⟩ g4 0:=rfl
@[simp] theorem frW_1 {g4 g5:Nat}{a:Int}:frW g4 g5 a 1= .ptr ⟨1,5,0⟩ g5 0:=rfl
@[simp] theorem frW_9 {g4 g5:Nat}{a:Int}:frW g4 g5 a 9=bv true:=rfl
@[simp] theorem frW_10 {g4 g5:Nat}{a:Int}:frW g4 g5 a 10= .agg [iv a]:=rfl
def CR (a:Int)(g4 g5:Nat)(hp:Hp)(e:Ab.Ex)(s:AS):Prop:=e= .normal/\s.hp=catchHp a g4 g5 hp
theorem V6 {I K:Nat->Prop}{m:Mp}{hp:Hp}{w:World}{a:Int}{g4 g5:Nat}{x4 x5:AV}{p q:Value}(G:Gam I K m hp w)(h4:Rep 1 I m hp w (.ptr ⟨1,4,0⟩ g4 0) p)(h5:Rep 1 I m hp w (.ptr ⟨1,5,0⟩ g5 0) q)
  (b4:hp ⟨1,4,0⟩= .box g4 [x4] false) (b5:hp ⟨1,5,0⟩= .box g5 [x5] false):
  CallsD P0 72 #[p,q] (.panicking (panE (wrongV a))) w (CW I K m hp w a g4 g5):=by
 refine callsD_of_wpS Tryz.func72 rfl fun c₀ cs hu=>?_
 apply wpS_seq
 apply wpS_region
 simp[wpOpsS,go_sem,recoverD,hu,panE,Vf,Exit.thenS]
 refine wpS_of_wp (wp_block ?_)
 refine wp_seq (wp_region ?_)
 simp[wpOps,Oper.wp,Oper.upon,go_sem,Exit.then,wrongV]
 left
 refine wp_cond_false ?_ ?_
 ·simp[Act.eval,Array.replicate]
 refine wp_seq (wp_region ?_)
 simp[wpOps,Oper.wp,Oper.upon,go_sem,Exit.then,Instr.typeAssert]
 left;left;left
 refine W.wp (N:=13) (k:=2) (K:=K) (B:=⟨I,m,hp,w,[]⟩) (E:=E47) (call:=Lm X46) (st:=⟨frW g4 g5 a,hp⟩) A9 Be Lm46_ok (R:=CR a g4 g5 hp) ?_ Zf ?_ ?_ ?_
 ·repeat' (first|refine ZN ?_|refine Z2 ?_ ?_|(intro h h';try simp[*,-h] at h'))
  exact⟨rfl,rfl⟩
 ·refine⟨I,m,G,.refl _ _ _ _ _,fun t=>?_,Zi,rfl⟩
  show Rep 2 I m hp w (frW g4 g5 a t) _
  by_cases e0:t=0
  ·subst e0;simpa[Act.eval] using Rep.depth (Nat.le_succ 1) _ _ h4
  by_cases e1:t=1
  ·subst e1;simpa[Act.eval] using Rep.depth (Nat.le_succ 1) _ _ h5
  by_cases e2:t=9
  ·subst e2;simp[Act.eval,Rep]
  by_cases e3:t=10
  ·subst e3;simp[Act.eval,Rep,RepL]
  simp[frW,e0,e1,e2,e3,Rep]
 ·rintro e s a' w' ⟨rfl,rh⟩ ⟨I1,m1,G1,E1,_,_,hd⟩
  rw[rh] at G1 E1
  refine⟨hd,_,rfl,?_⟩
  refine⟨.tuple #[],by simp[results,Tz],?_⟩
  exact⟨rfl,rfl,I1,m1,G1,E1⟩
 ·rintro v hp' a' w' ⟨h,_⟩
  exact nomatch h
end
section
open Go Go.Ab Go.Ab.Sy
theorem Tb {P:Program}{m a b:Machine}(ha:Steps P m a)(hb:Steps P m b):Steps P a b\/Steps P b a:=by
 obtain⟨n,hn⟩:=ha
 obtain⟨k,hk⟩:=hb
 rcases Nat.le_total n k with h|h
 ·obtain⟨j,rfl⟩:=Nat.exists_eq_add_of_le h
  rw[runN_add,hn] at hk
  exact .inl ⟨j,hk⟩
 ·obtain⟨j,rfl⟩:=Nat.exists_eq_add_of_le h
  rw[runN_add,hk] at hn
  exact .inr ⟨j,hn⟩
theorem Mz {P:Program}{a b:Machine}{o:Outcome}{w:World}(h:Steps P a b)(he:step P a= .ended o w):b=a:=by
 obtain⟨n,hn⟩:=h
 cases n with
 |zero=>simp[runN] at hn;exact hn.symm
 |succ n=>simp[runN,he] at hn
def deadF :Frame:={fn:=0,tmps:= #[],todo:=[],defers:=[{target:= .fn (.methodOf 0 "") #[],args:= #[]}],mode:= .returning,kind:= .normal}
theorem Qs (P:Program)(fr:Frame)(w:World)(h1:fr.defers=[{target:= .fn (.methodOf 0 "") #[],args:= #[]}])(h2:fr.mode= .returning∨ ∃c,fr.mode= .panicking c): ∃o w',step P (lone fr [] w)= .ended o w':=by
 have h: ∃o w',(stepG P true {frame:=fr,callers:=[],status:= .running,dying:=none} w).bare= .ended o w':=by
  rcases h2 with h2|⟨c,h2⟩<;>simp[stepG,unwind,callDeferred,h1,h2,go_sem]
 obtain⟨o,w',h⟩:=h
 exact⟨o,w',step_lone_ended h⟩
theorem Fha {P:Program}{f:FuncId}{args:Array Value}{w:World}{ch:List PanicEntry}{R1:Value->World->Prop}{R2:World->Prop}(h1:Calls P f args w fun e w'=> ∃u,e= .returned u/\R1 u w')(h2:Calls P f args w fun e w'=>e= .panicked ch/\R2 w'):False:=by
 obtain⟨_,w1,f1,⟨u,rfl,_⟩,c1,_,l1⟩:=h1 [deadF]
 obtain⟨_,w2,f2,⟨rfl,_⟩,c2,_,l2⟩:=h2 [deadF]
 have s1:=Steps.trans c1 (.one (step_leave_returned l1))
 have s2:=Steps.trans c2 (.one (step_leave_panicked l2))
 obtain⟨o1,v1,e1⟩:=Qs P (deadF.finish u) w1 rfl (.inl rfl)
 obtain⟨o2,v2,e2⟩:=Qs P (deadF.raise ch) w2 rfl (.inr ⟨ch,rfl⟩)
 have he:lone (deadF.finish u) [] w1=lone (deadF.raise ch) [] w2:=by
  rcases Tb s1 s2 with h|h
  ·exact(Mz h e1).symm
  ·exact Mz h e2
 simp[lone,deadF,Frame.finish,Frame.raise] at he
def s1 :ByteArray:=⟨#[102,117,110,99,32,109,97,105,110,40,41,32,123,32,112,117,116,40,55,41,59,32,125,32]⟩
def T1 :List (List AV):=[[iv 3,tv ⟨#[102,117,110,99]⟩,uv 0,iv 0],[iv 1,tv ⟨#[109,97,105,110]⟩,uv 0,iv 5],[iv 4,tv ⟨#[40]⟩,uv 0,iv 9],[iv 4,tv ⟨#[41]⟩,uv 0,iv 10],[iv 4,tv ⟨#[123]⟩,uv 0,iv 12],[iv 3,tv ⟨#[112,117,116]⟩,uv 0,iv 14],[iv 4,tv ⟨#[40]⟩,uv 0,iv 17],[iv 2,tv ⟨#[55]⟩,uv 7,iv 18],[iv 4,tv ⟨#[41]⟩,uv 0,iv 19],[iv 4,tv ⟨#[59]⟩,uv 0,iv 20],[iv 4,tv ⟨#[125]⟩,uv 0,iv 22]]
def x1 :Sy.Pr:=⟨[],[],[⟨⟨⟨#[109,97,105,110]⟩,Zd⟩,[],[],false,[.mk 3 tx0 [.mk 1 0 7 tx0 []] [] []]⟩]⟩
theorem lex_x :(Lm X46).dat 71 [tv s1]=some [.vec 4 T1,iv 0,iv 0]:=lim_dat.2 ⟨200,Zf⟩
def LX (s:ByteArray)(T:List Tok)(e:Int):Prop:=s=s1->T.map Tok.row=T1/\e=0
theorem lx_of {s:ByteArray}{T:List Tok}{a e:Int}(h:(Lm X46).dat 71 [tv s]=some [.vec 4 (T.map Tok.row),iv a,iv e]):LX s T e:=by
 rintro rfl
 rw[lex_x] at h
 injection h with h
 injection h with h1 h
 injection h with h2 h
 injection h with h3 h
 injection h1 with _ h1
 injection h3 with h3
 injection h3 with _ h3
 exact⟨h1.symm,h3.symm⟩
theorem lx_no {s:ByteArray}{T:List Tok}{e:Int}(h:LX s T e)(he:0<e):s≠s1:=fun hs=>by have:=(h hs).2;omega
theorem lx_0 {s:ByteArray}{T:List Tok}{e:Int}(h:LX s T e):LX s T 0:=fun hs=>⟨(h hs).1,rfl⟩
def HX (c1 c2 c3:AV)(g:Hp):Hp:=upd (upd (upd (fun n=>if 2<=n.d then .no 0 else g n) ⟨0,5,0⟩ (.box 1 [c1,c2,c3] false)) ⟨1,25,1⟩ (.arr 1 4 141 T1 false)) ⟨1,25,0⟩ (.box 1 [.own ⟨1,25,1⟩ 1 11,iv 0,iv 24] false)
theorem run_x (c1 c2 c3:AV)(g:Hp):((evCall P0 E47 X46 200).hpc 1 28 46 [.ptr ⟨1,25,0⟩ 1 0,.ptr ⟨0,5,0⟩ 1 0] (HX c1 c2 c3 g)).map (fun r=>(r.1,r.2 ⟨0,5,0⟩,r.2 ⟨1,25,0⟩))=some (.tup [],.box 1 x1.row false,.box 1 [.own ⟨1,25,1⟩ 1 11,iv 11,iv 24] false):=Zf
theorem Ffa {T:List Tok}{hp1:Hp}{c1 c2 c3:AV}(hT:T.map Tok.row=T1)(hr:Rd T 24 25 1 1 0 hp1)(hb:hp1 ⟨0,5,0⟩= .box 1 [c1,c2,c3] false)(h2: ∀d i c,hp1 ⟨d+2,i,c⟩= .no 0):
  ∃hp2,(Lm X46).hpc 1 28 46 [.ptr ⟨1,25,0⟩ 1 0,.ptr ⟨0,5,0⟩ 1 0] hp1=some (.tup [],hp2)/\hp2 ⟨0,5,0⟩= .box 1 x1.row false/\hp2 ⟨1,25,0⟩= .box 1 [.own ⟨1,25,1⟩ 1 11,iv 11,iv 24] false:=by
 have hl:T.length=11:=by have:=congrArg List.length hT;simpa[T1] using this
 have hbx:=hr.box
 have har:=hr.arr
 rw[hl] at hbx
 rw[hT] at har
 have e1:HX c1 c2 c3 hp1=hp1:=by
  funext n
  obtain⟨d,i,c⟩:=n
  simp only[HX,upd]
  by_cases a1:(⟨d,i,c⟩:Nm)=⟨1,25,0⟩
  ·rw[if_pos a1,a1,hbx];rfl
  rw[if_neg a1]
  by_cases a2:(⟨d,i,c⟩:Nm)=⟨1,25,1⟩
  ·rw[if_pos a2,a2,har]
  rw[if_neg a2]
  by_cases a3:(⟨d,i,c⟩:Nm)=⟨0,5,0⟩
  ·rw[if_pos a3,a3,hb]
  rw[if_neg a3]
  by_cases a4:2<=d
  ·rw[if_pos a4]
   obtain⟨k,rfl⟩:=Nat.exists_eq_add_of_le' a4
   exact(h2 k i c).symm
  ·rw[if_neg a4]
 have h:=run_x c1 c2 c3 hp1
 rw[e1] at h
 cases hc:(evCall P0 E47 X46 200).hpc 1 28 46 [.ptr ⟨1,25,0⟩ 1 0,.ptr ⟨0,5,0⟩ 1 0] hp1 with
 |none=>rw[hc] at h;cases h
 |some r=>
  rw[hc] at h
  obtain⟨v,hp2⟩:=r
  simp only[Option.map_some,Option.some.injEq,Prod.mk.injEq] at h
  obtain⟨rfl,h5,h6⟩:=h
  exact⟨hp2,lim_hpc.2 ⟨200,hc⟩,h5,h6⟩
theorem Kma {K:Nat->Prop}{B:Base}{st:AS}{a:Act}{w:World}{gx gp nn:Nat}{v:AV}{hp2:Hp}{v':Value}{hp':Hp}(hc:(Lm X46).hpc 1 28 46 [.ptr ⟨1,25,0⟩ gx 0,.ptr ⟨0,5,0⟩ gp 0] st.hp=some (v,hp2))(hn:Pan P0 E47 (Lm X46) (.fn 1 46 [.ptr ⟨1,25,0⟩ gx 0,.ptr ⟨0,5,0⟩ gp 0] st.hp) nn v' hp')(S:StR 1 41 K B st a w)(f1:st.fr 1= .fn 46 [.ptr ⟨0,5,0⟩ gp 0])(f9:st.fr 9= .ptr ⟨1,25,0⟩ gx 0):False:=by
 obtain⟨I,m,G,_,hf,_,_⟩:=S
 have h9:=hf 9
 have h1:=hf 1
 rw[f9] at h9
 rw[f1] at h1
 obtain⟨u,h5⟩: ∃u,Rep 1 I m st.hp w (.ptr ⟨0,5,0⟩ gp 0) u:=by
  rw[Rep] at h1
  obtain⟨us,_,h1⟩:=h1
  rw[RepL] at h1
  obtain⟨v,_,_,h1,_⟩:=h1
  exact⟨v,h1⟩
 have hA:AllR (Rep 1 I m st.hp w) [.ptr ⟨1,25,0⟩ gx 0,.ptr ⟨0,5,0⟩ gp 0] [_,u]:= .cons h9 (.cons h5 .nil)
 exact Fha (Lm46_ok.2 _ _ _ _ _ _ _ hc Sc I K m w _ G hA) (Sa A9 Be Lm46_ok nn _ v' hp' hn I K m w _ Sc G hA)
structure RH (s:ByteArray)(T:List Tok)(gp g4 g5:Nat)(hp:Hp)(st:AS):Prop where
 f0:st.fr 0=tv s
 f1:st.fr 1= .fn 46 [.ptr ⟨0,5,0⟩ gp 0]
 f4:st.fr 4= .ptr ⟨1,4,0⟩ g4 0/\st.hp ⟨1,4,0⟩= .box g4 [iv 0] false
 f5:st.fr 5= .ptr ⟨1,5,0⟩ g5 0/\st.hp ⟨1,5,0⟩= .box g5 [iv 0] false
 f6: ∃g,st.fr 6= .own ⟨1,12,1000⟩ g T.length/\st.hp ⟨1,12,1000⟩= .arr g 4 141 (T.map Tok.row) false
 low: ∀i c,st.hp ⟨0,i,c⟩=hp ⟨0,i,c⟩
 lx:LX s T 0
 u25: ∀c,st.hp ⟨1,25,c⟩=hp ⟨1,25,c⟩
 up: ∀d i c,st.hp ⟨d+2,i,c⟩=hp ⟨d+2,i,c⟩
theorem D0a {c0 c1 c2 c3 c4:Code}(hb:Tryz.f45.body=some (.seq c0 (.seq c1 (.seq c2 (.seq c3 c4))))){s:ByteArray}(hs:s.size<9223372036854775807){gp:Nat}{hp:Hp}:
  ∃T:List Tok,T.length<=20000/\Wch P0 E47 1 (Lm X46) (EndB P0 0 0 [.cell 4 3,.cell 5 30] (fun v hp'=> ∃a e:Int,v= .tup [iv a,iv e]/\0<e/\s≠s1/\ ∀i c,hp' ⟨0,i,c⟩=hp ⟨0,i,c⟩) (fun _ _=>False)) (RH s T gp ((hp ⟨1,4,0⟩).gen+1) ((hp ⟨1,5,0⟩).gen+1) hp) [c0,c1,c2] ⟨frame0 [tv s,.fn 46 [.ptr ⟨0,5,0⟩ gp 0]],hp⟩:=by
 obtain⟨_,hL,T,at',e,h1,h2,h3,rfl⟩:=Lex_w (X:=X46) (fun _ _=>rfl) s hs
 have hx:LX s T e:=lx_of hL
 refine⟨T,h2,?_⟩
 cases hb
 simp only[Wch]
 repeat' (first|refine ZN ?_|refine Z2 ?_ ?_|(intro h h';try simp[*,-h] at h'))
 ·exact⟨at',e,rfl,Zo,lx_no hx Zo,fun i c=>Zi⟩
 ·exact⟨Zi,Zi,⟨Zi,Zi⟩,⟨Zi,Zi⟩,⟨_,by simp;rfl,Zi⟩,fun i c=>Zi,lx_0 hx,fun c=>Zi,fun d i c=>Zi⟩
structure RT (T:List Tok)(gp g4 g5 gx gy n:Nat)(e:Int)(hp:Hp)(st:AS):Prop where
 f1:st.fr 1= .fn 46 [.ptr ⟨0,5,0⟩ gp 0]
 f4:st.fr 4= .ptr ⟨1,4,0⟩ g4 0/\st.hp ⟨1,4,0⟩= .box g4 [iv 0] false
 f5:st.fr 5= .ptr ⟨1,5,0⟩ g5 0/\st.hp ⟨1,5,0⟩= .box g5 [iv 0] false
 f9:st.fr 9= .ptr ⟨1,25,0⟩ gx 0
 rd:Rd T e 25 gx gy n st.hp
 low: ∀i c,st.hp ⟨0,i,c⟩=hp ⟨0,i,c⟩
theorem read_d5 {c0 c1 c2 c3 d5 d6 d7 d8 d9:Code}{x:Operand}(hb:Tryz.f45.body=some (.seq c0 (.seq c1 (.seq c2 (.seq c3 (.seq d5 (.seq d6 (.seq (.seq d7 (.cond x d8 .skip)) (.seq d9 .ret))))))))){s:ByteArray}{T:List Tok}{gp g4 g5:Nat}{hp:Hp}{st:AS}(hT:T.length<=20000)(h:RH s T gp g4 g5 hp st):W P0 E47 1 (Lm X46) d5 st (fun e s2=>e= .normal/\ ∃gx gy,RT T gp g4 g5 gx gy 0 s.size hp s2/\gx=(hp ⟨1,25,0⟩).gen+1/\gy=(hp ⟨1,25,1⟩).gen+1/\ ∀d i c,s2.hp ⟨d+2,i,c⟩=hp ⟨d+2,i,c⟩):=by
 obtain⟨fr,hq⟩:=st
 obtain⟨f0,f1,⟨f4,b4⟩,⟨f5,b5⟩,⟨g6,f6,b6⟩,low,hlx,u25,up⟩:=h
 simp only at f0 f1 f4 b4 f5 b5 f6 b6 low u25 up
 clear hlx
 cases hb
 repeat' (first|refine ZN ?_|refine Z2 ?_ ?_|(intro h h';try simp[*,-h] at h'))
 exact⟨rfl,(hp ⟨1,25,0⟩).gen+1,(hp ⟨1,25,1⟩).gen+1,⟨Zm,⟨Zm,Zm⟩,⟨Zm,Zm⟩,Zm,⟨Zm,Zm,Zo,Zo⟩,fun i c=>Zm⟩,rfl,rfl,fun d i c=>Zm⟩
def RC1 (T:List Tok)(e:Int)(gx gy gp:Nat)(hp1:Hp)(v:AV)(hp2:Hp)(x:Sy.Pr)(n2:Nat):Prop:=v= .tup []/\hp2 ⟨0,5,0⟩= .box gp x.row false/\x.size<=T.length/\Rd T e 25 gx gy n2 hp2/\ ∀d i c,d<=1->(⟨d,i,c⟩:Nm)≠⟨1,25,0⟩->(⟨d,i,c⟩:Nm)≠⟨0,5,0⟩->hp2 ⟨d,i,c⟩=hp1 ⟨d,i,c⟩
structure RQ (T:List Tok)(gp g4 g5 gx gy n:Nat)(e:Int)(hp:Hp)(p:Sy.Pr)(st:AS):Prop where
 f4:st.fr 4= .ptr ⟨1,4,0⟩ g4 0/\st.hp ⟨1,4,0⟩= .box g4 [iv 0] false
 f5:st.fr 5= .ptr ⟨1,5,0⟩ g5 0/\st.hp ⟨1,5,0⟩= .box g5 [iv 0] false
 f9:st.fr 9= .ptr ⟨1,25,0⟩ gx 0
 rd:Rd T e 25 gx gy n st.hp
 bx:st.hp ⟨0,5,0⟩= .box gp p.row false
 low: ∀i c,(⟨0,i,c⟩:Nm)≠⟨0,5,0⟩->st.hp ⟨0,i,c⟩=hp ⟨0,i,c⟩
theorem read_d6 {c0 c1 c2 c3 d5 d6 d7 d8 d9:Code}{x:Operand}(hb:Tryz.f45.body=some (.seq c0 (.seq c1 (.seq c2 (.seq c3 (.seq d5 (.seq d6 (.seq (.seq d7 (.cond x d8 .skip)) (.seq d9 .ret))))))))){T:List Tok}{gp g4 g5 gx gy:Nat}{e:Int}{hp:Hp}{st:AS}{v:AV}{hp2:Hp}{p:Sy.Pr}{n:Nat}(h:RT T gp g4 g5 gx gy 0 e hp st)(hc:(Lm X46).hpc 1 28 46 [.ptr ⟨1,25,0⟩ gx 0,.ptr ⟨0,5,0⟩ gp 0] st.hp=some (v,hp2))(hr:RC1 T e gx gy gp st.hp v hp2 p n):
  W P0 E47 1 (Lm X46) d6 st (fun e1 s2=>e1= .normal/\RQ T gp g4 g5 gx gy n e hp p s2):=by
 obtain⟨fr,hq⟩:=st
 obtain⟨f1,⟨f4,b4⟩,⟨f5,b5⟩,f9,rd,low⟩:=h
 obtain⟨rfl,hb5,hps,hrd,hlow⟩:=hr
 simp only at f1 f4 b4 f5 b5 f9 rd low hc hlow
 cases hb
 repeat' (first|refine ZN ?_|refine Z2 ?_ ?_|(intro h h';try simp[*,-h] at h'))
 exact⟨rfl,⟨Zm,by rw[<-b4];exact hlow 1 4 0 Zo Zi Zi⟩,⟨Zm,by rw[<-b5];exact hlow 1 5 0 Zo Zi Zi⟩,Zm,hrd,hb5,fun i c hne=>(hlow 0 i c Zo Zi hne).trans (low i c)⟩
theorem J5a {c0 c1 c2 c3 d5 d6 d7 d8 d9:Code}{x:Operand}(hb:Tryz.f45.body=some (.seq c0 (.seq c1 (.seq c2 (.seq c3 (.seq d5 (.seq d6 (.seq (.seq d7 (.cond x d8 .skip)) (.seq d9 .ret))))))))){T:List Tok}{gp g4 g5 gx gy nn N:Nat}{e:Int}{hp:Hp}{st:AS}{v:Value}{hp':Hp}{K:Nat->Prop}{B:Base}{a:Act}{w:World}{Q:Exit->Act->World->Prop}(hN:N=41)(h:RT T gp g4 g5 gx gy 0 e hp st)(hc:Pan P0 E47 (Lm X46) (.fn 1 46 [.ptr ⟨1,25,0⟩ gx 0,.ptr ⟨0,5,0⟩ gp 0] st.hp) nn v hp')(S:StR 1 N K B st a w)
  (hQ: ∀fr a' w',fr 4=st.fr 4->fr 5=st.fr 5->StR 1 N K B ⟨fr,hp'⟩ a' w'->Q (.panic (panE v)) a' w'):d6.wp P0 Q a w:=by
 subst hN
 obtain⟨fr,hq⟩:=st
 obtain⟨f1,_,_,f9,_,_⟩:=h
 simp only at f1 f9 hc
 have hcal:Do P0 1 46 [.ptr ⟨1,25,0⟩ gx 0,.ptr ⟨0,5,0⟩ gp 0] hq v hp':=Sa A9 Be Lm46_ok nn _ v hp' hc
 cases hb
 refine Mb (P:=P0) (E:=E47) (call:=Lm X46) (k:=1) (pre:=[_,_]) (st':=⟨setd (setd fr (some 26) (fr 1)) (some 27) (fr 9),hq⟩) (f:=46) (cs:=[.ptr ⟨0,5,0⟩ gp 0]) (v:=v) (hp':=hp') Be Lm46_ok Zf S rfl ?_ Sc Zd ?_ ?_
 ·simp[f1]
 ·simpa[f9] using hcal
 ·exact fun a' w' S'=>hQ (setd (setd fr (some 26) (fr 1)) (some 27) (fr 9)) a' w' rfl rfl S'
theorem read_d7 {c0 c1 c2 c3 d5 d6 d7 d8 d9:Code}{x:Operand}(hb:Tryz.f45.body=some (.seq c0 (.seq c1 (.seq c2 (.seq c3 (.seq d5 (.seq d6 (.seq (.seq d7 (.cond x d8 .skip)) (.seq d9 .ret))))))))){T:List Tok}{gp g4 g5 gx gy n:Nat}{e:Int}{hp:Hp}{p:Sy.Pr}{st:AS}(h:RQ T gp g4 g5 gx gy n e hp p st):
  W P0 E47 1 (Lm X46) d7 st (fun e1 s2=>e1= .normal/\opA s2.fr x=bv (decide (n<T.length))/\RQ T gp g4 g5 gx gy n e hp p s2):=by
 obtain⟨fr,hq⟩:=st
 obtain⟨⟨f4,b4⟩,⟨f5,b5⟩,f9,⟨h1,h2,hlen,hle⟩,bx,low⟩:=h
 simp only at f4 b4 f5 b5 f9 bx low h1 h2
 cases hb
 repeat' (first|refine ZN ?_|refine Z2 ?_ ?_|(intro h h';try simp[*,-h] at h'))
 exact⟨rfl,by simp[opA],⟨Zm,Zm⟩,⟨Zm,Zm⟩,Zm,⟨h1,h2,hlen,hle⟩,bx,low⟩
theorem J4a {c0 c1 c2 c3 d5 d6 d7 d8 d9:Code}{x:Operand}(hb:Tryz.f45.body=some (.seq c0 (.seq c1 (.seq c2 (.seq c3 (.seq d5 (.seq d6 (.seq (.seq d7 (.cond x d8 .skip)) (.seq d9 .ret))))))))){T:List Tok}{gp g4 g5 gx gy n N nn:Nat}{e:Int}{hp:Hp}{p:Sy.Pr}{st:AS}{K:Nat->Prop}{B:Base}{v:Value}{hp':Hp}{a:Act}{w:World}{Q:Exit->Act->World->Prop}(hN:N=41)(h:RQ T gp g4 g5 gx gy n e hp p st)(hc:Pan P0 E47 (Lm X46) (.fn 1 73 [.ptr ⟨1,25,0⟩ gx 0] st.hp) nn v hp')(S:StR 1 N K B st a w)
  (hQ: ∀fr a' w',fr 4=st.fr 4->fr 5=st.fr 5->StR 1 N K B ⟨fr,hp'⟩ a' w'->Q (.panic (panE v)) a' w'):d8.wp P0 Q a w:=by
 subst hN
 obtain⟨fr,hq⟩:=st
 obtain⟨_,_,f9,rd,_,_⟩:=h
 simp only at f9 rd hc
 have hcal:Do P0 1 73 [.ptr ⟨1,25,0⟩ gx 0] hq v hp':=Sa A9 Be Lm46_ok nn _ v hp' hc
 cases hb
 refine Mb (P:=P0) (E:=E47) (call:=Lm X46) (k:=1) (pre:=[_]) (st':=⟨setd fr (some 39) (fr 9),hq⟩) (f:=73) (cs:=[]) (v:=v) (hp':=hp') Be Lm46_ok Zf S rfl ?_ okFn_73 Zd ?_ ?_
 ·simp[opA]
 ·simpa[f9] using hcal
 ·exact fun a' w' S'=>hQ (setd fr (some 39) (fr 9)) a' w' rfl rfl S'
theorem read_d9 {c0 c1 c2 c3 d5 d6 d7 d8 d9:Code}{x:Operand}(hb:Tryz.f45.body=some (.seq c0 (.seq c1 (.seq c2 (.seq c3 (.seq d5 (.seq d6 (.seq (.seq d7 (.cond x d8 .skip)) (.seq d9 .ret))))))))){T:List Tok}{gp g4 g5 gx gy n:Nat}{e:Int}{hp:Hp}{p:Sy.Pr}{st:AS}(h:RQ T gp g4 g5 gx gy n e hp p st):
  W P0 E47 1 (Lm X46) (.seq d9 .ret) st (fun e1 s2=>e1= .ret/\RQ T gp g4 g5 gx gy n e hp p s2):=by
 obtain⟨fr,hq⟩:=st
 obtain⟨⟨f4,b4⟩,⟨f5,b5⟩,f9,⟨h1,h2,hlen,hle⟩,bx,low⟩:=h
 simp only at f4 b4 f5 b5 f9 bx low h1 h2
 cases hb
 repeat' (first|refine ZN ?_|refine Z2 ?_ ?_|(intro h h';try simp[*,-h] at h'))
 exact⟨rfl,⟨Zm,Zm⟩,⟨Zm,Zm⟩,Zm,⟨Zm,Zm,hlen,hle⟩,Zm,fun i c hne=>by simpa using low i c hne⟩
theorem Cba :Tryz.f45.results.toList=[.cell 4 3,.cell 5 30]:=rfl
theorem T7 {N:Nat}{K:Nat->Prop}{B:Base}{fr:Nat->AV}{hq:Hp}{act:Act}{w:World}{a e:Int}{g4 g5:Nat}(S:StR 1 N K B ⟨fr,hq⟩ act w)(f4:fr 4= .ptr ⟨1,4,0⟩ g4 0)(b4:hq ⟨1,4,0⟩= .box g4 [iv a] false)(f5:fr 5= .ptr ⟨1,5,0⟩ g5 0)(b5:hq ⟨1,5,0⟩= .box g5 [iv e] false):
  ∃v,(results Tryz.f45 act.tmps).run P0 w= .ok v w/\ ∃I' m',Sim I' K m' hq w (.tup [iv a,iv e]) 0 B.I B.m B.hp B.w v:=by
 obtain⟨I1,m1,G1,E1,hf1,_,hd1⟩:=S
 have h:(lowerRes P0 fr 0 0 [.cell 4 3,.cell 5 30]).run hq=some (.tup [iv a,iv e],hq):=by
  simp[f4,f5,b4,b5]
 obtain⟨us',hrun,I2,m2,G2,E2,R2⟩:=Gw (k:=0) G1 hf1 h
 exact⟨retV us',Br _ _ us' (by rw[Cba];exact hrun),I2,m2,G2,E1.trans E2,R2⟩
theorem read_c3 {c0 c1 c2 c3 d5 d6 d7 d8 d9:Code}{x:Operand}(hb:Tryz.f45.body=some (.seq c0 (.seq c1 (.seq c2 (.seq c3 (.seq d5 (.seq d6 (.seq (.seq d7 (.cond x d8 .skip)) (.seq d9 .ret))))))))){a:Act}{w:World}{Q:Exit->Act->World->Prop}(hs:a.tmps.size=41)
  (hQ:Q .normal {(a.put (some 20) (.func (.func 72) #[] #[a.eval (.tmp 4),a.eval (.tmp 5)])) with defers:={target:= .fn (.func 72) #[a.eval (.tmp 4),a.eval (.tmp 5)],args:= #[]}::a.defers} w):c3.wp P0 Q a w:=by
 cases hb
 refine wp_region ?_
 have hmf: ∀(fn:Fn) (first cap:Array Value) (w:World),(Instr.makeFunc fn first cap).run P0 w= .ok (.func fn first cap) w:=fun _ _ _ _=>rfl
 simp[wpOps,Oper.wp,Oper.upon,go_sem,hmf,Region.wanted,hs]
 exact .inl (.inl (by simpa[Act.put,Act.eval,hs] using hQ))
def RR (hp:Hp)(gp:Nat)(v:AV)(hp':Hp):Prop:= ∃a e:Int,v= .tup [iv a,iv e]/\((e=0/\ ∃p:Sy.Pr,p.size<=20000/\hp' ⟨0,5,0⟩= .box gp p.row false)\/(0<e/\ ∃cells,hp' ⟨0,5,0⟩= .box gp cells false))/\ ∀i c,(⟨0,i,c⟩:Nm)≠⟨0,5,0⟩->hp' ⟨0,i,c⟩=hp ⟨0,i,c⟩
def Td (s:ByteArray)(gp:Nat)(hp:Hp):Prop:=s=s1/\gp=1/\(∀c,hp ⟨1,25,c⟩= .no 0)/\ ∀d i c,hp ⟨d+2,i,c⟩= .no 0
def RX (s:ByteArray)(hp:Hp)(gp:Nat)(v:AV)(hp':Hp):Prop:=RR hp gp v hp'/\(Td s gp hp->v= .tup [iv 0,iv 0]/\hp' ⟨0,5,0⟩= .box gp x1.row false)
theorem N8 {s:ByteArray}{gp:Nat}{hp:Hp}{I K:Nat->Prop}{m:Mp}{w:World}{us:List Value}(G:Gam I K m hp w)(ha:AllR (Rep 0 I m hp w) [tv s,.fn 46 [.ptr ⟨0,5,0⟩ gp 0]] us):
  StR 1 41 K ⟨I,m,hp,w,[]⟩ ⟨frame0 [tv s,.fn 46 [.ptr ⟨0,5,0⟩ gp 0]],hp⟩ {tmps:=(⟨us⟩:Array Value)++Array.replicate (Tryz.f45.ntmps - (⟨us⟩:Array Value).size) undef,defers:=[]} w:=by
 have hl:us.length=2:=by rw[<-ha.1];rfl
 have hn:Tryz.f45.ntmps=41:=rfl
 refine⟨I,m,G,.refl _ _ _ _ _,fun t=>Ek (ha.imp fun a u h=>Rep.depth (Nat.le_succ 0) a u h) t,?_,rfl⟩
 simp only[Array.size_append,List.size_toArray,Array.size_replicate,hn]
 omega
theorem Bi {c0 c1 c2 c3 d5 d6 d7 d8 d9:Code}{x:Operand}(hb:Tryz.f45.body=some (.seq c0 (.seq c1 (.seq c2 (.seq c3 (.seq d5 (.seq d6 (.seq (.seq d7 (.cond x d8 .skip)) (.seq d9 .ret))))))))):(∀c∈[c0,c1,c2],slotsIn 41 c=true)/\slotsIn 41 d5=true/\slotsIn 41 d6=true/\slotsIn 41 d7=true/\slotsIn 41 d8=true/\slotsIn 41 (.seq d9 .ret)=true:=by
 have h:slotsIn 41 (.seq c0 (.seq c1 (.seq c2 (.seq c3 (.seq d5 (.seq d6 (.seq (.seq d7 (.cond x d8 .skip)) (.seq d9 .ret))))))))=true:=by
  have h0:(match Tryz.f45.body with|some c=>slotsIn 41 c|none=>false)=true:=Zf
  rw[hb] at h0
  exact h0
 simp only[slotsIn,Bool.and_eq_true] at h
 obtain⟨a0,a1,a2,a3,a5,a6,⟨a7,⟨_,a8⟩,_⟩,a9⟩:=h
 refine⟨?_,a5,a6,a7,a8,?_⟩
 ·intro c hc
  simp only[List.mem_cons,List.not_mem_nil,or_false] at hc
  rcases hc with rfl|rfl|rfl<;>assumption
 ·simp only[slotsIn,a9.1,Bool.and_self,Bool.true_and]
theorem Xd {c0 c1 c2 c3 d5 d6 d7 d8 d9:Code}{x:Operand}(hb:Tryz.f45.body=some (.seq c0 (.seq c1 (.seq c2 (.seq c3 (.seq d5 (.seq d6 (.seq (.seq d7 (.cond x d8 .skip)) (.seq d9 .ret))))))))){s:ByteArray}{gp:Nat}{hp hp':Hp}{v:AV}{s1:AS}
  (hW:Wch P0 E47 1 (Lm X46) (fun e1 s2=>e1= .ret/\s2=s1) (fun s2=>s2=s1/\Ab.Ex.ret= .normal) [c0,c1,c2] ⟨frame0 [tv s,.fn 46 [.ptr ⟨0,5,0⟩ gp 0]],hp⟩)
  (hl:(lowerRes P0 s1.fr 0 0 [.cell 4 3,.cell 5 30]).run s1.hp=some (v,hp')):SemH P0 0 45 [tv s,.fn 46 [.ptr ⟨0,5,0⟩ gp 0]] hp v hp':=by
 intro hok I K m w us G ha
 refine calls_of_wp_defers Tryz.func45 hb ?_
 refine Wch.wp A9 Be Lm46_ok (fun s2 a' w' h=>nomatch h.2) (fun e s2 a' w' hne h S=>?_) (fun v hp' a' w' h=>nomatch h.1) [c0,c1,c2] hW (Bi hb).1 (N8 G ha)
 obtain⟨rfl,rfl⟩:=h
 obtain⟨I1,m1,G1,E1,hf1,_,hd1⟩:=S
 obtain⟨us',hrun,I2,m2,G2,E2,R2⟩:=Gw (k:=0) G1 hf1 hl
 show Leaves _ _ _ _ a'.defers .returning w'
 rw[hd1]
 exact⟨retV us',Br _ _ us' (by rw[Cba];exact hrun),retV us',rfl,I2,m2,G2,E1.trans E2,R2⟩
def offD (p q:Value):Deferred:={target:= .fn (.func 72) #[p,q],args:= #[]}
theorem Cfa (p q:Value)(w:World):(invoke (.fn (.func 72) #[p,q]) #[]).run P0 w= .ok (.enter 72 #[p,q]) w:=by
 simp[go_sem]
theorem Ena {K:Nat->Prop}{I:Nat->Prop}{m:Mp}{hp hq:Hp}{w w':World}{fr:Nat->AV}{act:Act}{p q:Addr}{a e:Int}{g4 g5:Nat}(S:StR 1 41 K ⟨I,m,hp,w,[offD (.pointer (some p)) (.pointer (some q))]⟩ ⟨fr,hq⟩ act w')(f4:fr 4= .ptr ⟨1,4,0⟩ g4 0)(b4:hq ⟨1,4,0⟩= .box g4 [iv a] false)(f5:fr 5= .ptr ⟨1,5,0⟩ g5 0)(b5:hq ⟨1,5,0⟩= .box g5 [iv e] false):
  Leaves P0 Tryz.f45 act.tmps (fun e' w''=> ∃u,e'= .returned u/\ ∃I' m',Sim I' K m' hq w'' (.tup [iv a,iv e]) 0 I m hp w u) act.defers .returning w':=by
 obtain⟨v,hv,hS⟩:=T7 S f4 b4 f5 b5
 obtain⟨_,_,_,_,_,_,hd⟩:=S
 rw[hd]
 refine leaves_cons (f:=72) (args:= #[.pointer (some p),.pointer (some q)]) Zi (Cfa _ _ _) ?_
 refine(Ya p q w').mono ?_
 rintro e1 u' w1 ⟨rfl,rfl,rfl⟩
 exact⟨v,hv,v,rfl,hS⟩
theorem Qg {K:Nat->Prop}{I:Nat->Prop}{m:Mp}{hp hq:Hp}{w w':World}{fr:Nat->AV}{act:Act}{p q:Value}{a:Int}{g4 g5:Nat}{x4 x5:AV}(S:StR 1 41 K ⟨I,m,hp,w,[offD p q]⟩ ⟨fr,hq⟩ act w')(f4:fr 4= .ptr ⟨1,4,0⟩ g4 0)(b4:hq ⟨1,4,0⟩= .box g4 [x4] false)(f5:fr 5= .ptr ⟨1,5,0⟩ g5 0)(b5:hq ⟨1,5,0⟩= .box g5 [x5] false)
  (hp4: ∀I1 m1,Gam I1 K m1 hq w'->Ext I K m hp w I1 m1 hq w'->Rep 1 I1 m1 hq w' (.ptr ⟨1,4,0⟩ g4 0) p/\Rep 1 I1 m1 hq w' (.ptr ⟨1,5,0⟩ g5 0) q):
  Leaves P0 Tryz.f45 act.tmps (fun e' w''=> ∃u,e'= .returned u/\ ∃I' m',Sim I' K m' (catchHp a g4 g5 hq) w'' (.tup [iv a,iv 3]) 0 I m hp w u) act.defers (.panicking (panE (wrongV a))) w':=by
 obtain⟨I1,m1,G1,E1,hf,hs,hd⟩:=S
 rw[hd]
 refine leaves_cons (f:=72) (args:= #[p,q]) Zi (Cfa _ _ _) ?_
 refine(V6 G1 (hp4 I1 m1 G1 E1).1 (hp4 I1 m1 G1 E1).2 b4 b5).mono ?_
 rintro e1 u' w1 ⟨rfl,rfl,I',m',G',E'⟩
 obtain⟨v,hv,hS⟩:=T7 (N:=41) (B:=⟨I,m,hp,w,[offD p q]⟩) (a:=a) (e:=3) (S:=⟨I',m',G',E1.trans E',fun t=>Rep.mono E' _ _ _ (hf t),hs,hd⟩) f4 rfl f5 rfl
 exact⟨v,hv,v,rfl,hS⟩
theorem read_x {K:Nat->Prop}{B:Base}{st:AS}{a:Act}{w:World}{x:Operand}{b t:Bool}(S:StR 1 41 K B st a w)(h:opA st.fr x=bv b)(hb:b=t):a.eval x= .bool t:=by
 obtain⟨I,m,G,_,hf,_,_⟩:=S
 have:=Eh G hf x
 rw[h,hb] at this
 simpa[Rep] using this
theorem D1a {c0 c1 c2 c3 d5 d6 d7 d8 d9:Code}{x:Operand}(hb:Tryz.f45.body=some (.seq c0 (.seq c1 (.seq c2 (.seq c3 (.seq d5 (.seq d6 (.seq (.seq d7 (.cond x d8 .skip)) (.seq d9 .ret))))))))){s:ByteArray}{T:List Tok}{gp g4 g5:Nat}{hp:Hp}{st:AS}{c1v c2v c3v:AV}(hT:T.length<=20000)(h:RH s T gp g4 g5 hp st)(hbx:hp ⟨0,5,0⟩= .box gp [c1v,c2v,c3v] false):
  ∃v hp',RX s hp gp v hp'/\ ∀(I K:Nat->Prop) (m:Mp) (w:World) (act:Act) (p q:Addr),StR 1 41 K ⟨I,m,st.hp,w,[offD (.pointer (some p)) (.pointer (some q))]⟩ st act w->Rep 1 I m st.hp w (st.fr 4) (.pointer (some p))->Rep 1 I m st.hp w (st.fr 5) (.pointer (some q))->
   (Code.seq d5 (.seq d6 (.seq (.seq d7 (.cond x d8 .skip)) (.seq d9 .ret)))).wp P0 (bodyPostD P0 Tryz.f45 (fun e' w''=> ∃u,e'= .returned u/\ ∃I' m',Sim I' K m' hp' w'' v 0 I m st.hp w u)) act w:=by
 obtain⟨e5,s5,hW5,rfl,gx,gy,hRT,hgx,hgy,hup⟩:=W.pick (read_d5 hb hT h)
 have hq5:s5.hp ⟨0,5,0⟩= .box gp [c1v,c2v,c3v] false:=(hRT.low 5 0).trans hbx
 have hx:Td s gp hp-> ∃hp2,(Lm X46).hpc 1 28 46 [.ptr ⟨1,25,0⟩ gx 0,.ptr ⟨0,5,0⟩ gp 0] s5.hp=some (.tup [],hp2)/\hp2 ⟨0,5,0⟩= .box gp x1.row false/\ ∃e:Int,hp2 ⟨1,25,0⟩= .box gx [.own ⟨1,25,1⟩ gy T.length,iv T.length,iv e] false:=by
  rintro⟨hs,hgp,f1,f2⟩
  have hT1:=(h.lx hs).1
  have hl:T.length=11:=by have:=congrArg List.length hT1;simpa[T1] using this
  have hrd:=hRT.rd
  have hss:(s.size:Int)=24:=by rw[hs];rfl
  rw[hss] at hrd
  have hgx1:gx=1:=by rw[hgx,f1];rfl
  have hgy1:gy=1:=by rw[hgy,f1];rfl
  subst hgp
  rw[hgx1,hgy1] at hrd
  obtain⟨hp2,h1,h2,h3⟩:=Ffa hT1 hrd hq5 (fun d i c=>(hup d i c).trans (f2 d i c))
  rw[hgx1,hgy1,hl]
  exact⟨hp2,h1,h2,24,h3⟩
 rcases Fga 28 s5.hp hRT.rd hq5 with⟨v,hp2,hc,hr⟩|⟨nn,v,hp',hc,⟨a,rfl⟩,hfar⟩
 ·obtain⟨pr,n,hr⟩: ∃pr n,RC1 T s.size gx gy gp s5.hp v hp2 pr n:=by
   obtain⟨h1,x,n,h2⟩:=hr
   exact⟨x,n,h1,h2⟩
  have hps:=hr.2.2.1
  have hx2:Td s gp hp->pr.row=x1.row/\n=T.length:=by
   intro hF
   obtain⟨hp3,c3,b3,e3,r3⟩:=hx hF
   rw[hc] at c3
   obtain rfl:hp2=hp3:=congrArg Prod.snd (Option.some.inj c3)
   have h6:=hr.2.1
   rw[b3] at h6
   have h7:=hr.2.2.2.1.box
   rw[r3] at h7
   simp only[AObj.box.injEq,true_and,and_true] at h6
   simp only[AObj.box.injEq,List.cons.injEq,AV.sc.injEq,Value.int.injEq,true_and,and_true] at h7
   exact⟨h6.symm,Zo⟩
  obtain⟨e6,s6,hW6,rfl,hRQ⟩:=W.pick (read_d6 hb hRT hc hr)
  obtain⟨e7,s7,hW7,rfl,hx7,hRQ7⟩:=W.pick (read_d7 hb hRQ)
  by_cases hn:n<T.length
  ·rcases fail 1 Zo 40 s7.hp hRQ7.rd with⟨v,hp2,_,h1⟩|⟨nn,v,hp',h1,⟨a,rfl⟩,hfar⟩
   ·exact h1.elim
   obtain⟨f4,b4⟩:=hRQ7.f4
   obtain⟨f5,b5⟩:=hRQ7.f5
   refine⟨.tup [iv a,iv 3],catchHp a g4 g5 hp',⟨⟨a,3,rfl,.inr ⟨Zd,_,((hfar 0 5 0 Zo Zi).trans hRQ7.bx)⟩,fun i c hne=>(hfar 0 i c Zo Zi).trans (hRQ7.low i c hne)⟩,fun hF=>absurd hn (by have:=(hx2 hF).2;omega)⟩,?_⟩
   intro I K m w act p q S hp4 hp5
   refine wp_seq (W.wp A9 Be Lm46_ok hW5 (Bi hb).2.1 S (fun e s2 a' w' hh S'=>?_) (fun v hp' a' w' h=>nomatch h.1))
   obtain⟨rfl,rfl⟩:=hh
   refine wp_seq (W.wp A9 Be Lm46_ok hW6 (Bi hb).2.2.1 S' (fun e s2 a' w' hh S'=>?_) (fun v hp' a' w' h=>nomatch h.1))
   obtain⟨rfl,rfl⟩:=hh
   refine wp_seq (wp_seq (W.wp A9 Be Lm46_ok hW7 (Bi hb).2.2.2.1 S' (fun e s2 a' w' hh S'=>?_) (fun v hp' a' w' h=>nomatch h.1)))
   obtain⟨rfl,rfl⟩:=hh
   refine wp_cond_true (read_x S' hx7 (by simp[hn])) (J4a hb rfl hRQ7 h1 S' fun fr a2 w2 e4 e5 S2=>?_)
   exact Qg S2 (e4.trans f4) ((hfar 1 4 0 Zo Zi).trans b4) (e5.trans f5) ((hfar 1 5 0 Zo Zi).trans b5) (fun I1 m1 _ E1=>⟨Rep.mono E1 _ _ _ (h.f4.1▸hp4),Rep.mono E1 _ _ _ (h.f5.1▸hp5)⟩)
  ·obtain⟨e9,s9,hW9,rfl,hRQ9⟩:=W.pick (read_d9 hb hRQ7)
   refine⟨.tup [iv 0,iv 0],s9.hp,⟨⟨0,0,rfl,.inl ⟨rfl,pr,Zo,hRQ9.bx⟩,hRQ9.low⟩,fun hF=>⟨rfl,by rw[<-(hx2 hF).1];exact hRQ9.bx⟩⟩,?_⟩
   intro I K m w act p q S hp4 hp5
   refine wp_seq (W.wp A9 Be Lm46_ok hW5 (Bi hb).2.1 S (fun e s2 a' w' hh S'=>?_) (fun v hp' a' w' h=>nomatch h.1))
   obtain⟨rfl,rfl⟩:=hh
   refine wp_seq (W.wp A9 Be Lm46_ok hW6 (Bi hb).2.2.1 S' (fun e s2 a' w' hh S'=>?_) (fun v hp' a' w' h=>nomatch h.1))
   obtain⟨rfl,rfl⟩:=hh
   refine wp_seq (wp_seq (W.wp A9 Be Lm46_ok hW7 (Bi hb).2.2.2.1 S' (fun e s2 a' w' hh S'=>?_) (fun v hp' a' w' h=>nomatch h.1)))
   obtain⟨rfl,rfl⟩:=hh
   refine wp_cond_false (read_x S' hx7 (by simp[hn])) (wp_skip ?_)
   refine W.wp A9 Be Lm46_ok hW9 (Bi hb).2.2.2.2.2 S' (fun e s2 a' w' hh S'=>?_) (fun v hp' a' w' h=>nomatch h.1)
   obtain⟨rfl,rfl⟩:=hh
   exact Ena S' hRQ9.f4.1 hRQ9.f4.2 hRQ9.f5.1 hRQ9.f5.2
 ·by_cases hF:Td s gp hp
  ·obtain⟨hp3,c3,b3,_⟩:=hx hF
   refine⟨.tup [iv 0,iv 0],upd s5.hp ⟨0,5,0⟩ (.box gp x1.row false),⟨⟨0,0,rfl,.inl ⟨rfl,x1,Zd,Ae _ _ _⟩,fun i c hne=>(Al _ _ hne).trans (hRT.low i c)⟩,fun _=>⟨rfl,Ae _ _ _⟩⟩,?_⟩
   intro I K m w act p q S hp4 hp5
   refine wp_seq (W.wp A9 Be Lm46_ok hW5 (Bi hb).2.1 S (fun e s2 a' w' hh S'=>?_) (fun v hp' a' w' h=>nomatch h.1))
   obtain⟨rfl,rfl⟩:=hh
   exact(Kma c3 hc S' hRT.f1 hRT.f9).elim
  obtain⟨f4,b4⟩:=hRT.f4
  obtain⟨f5,b5⟩:=hRT.f5
  refine⟨.tup [iv a,iv 3],catchHp a g4 g5 hp',⟨⟨a,3,rfl,.inr ⟨Zd,_,((hfar 0 5 0 Zo Zi).trans hq5)⟩,fun i c hne=>(hfar 0 i c Zo Zi).trans (hRT.low i c)⟩,fun h=>(hF h).elim⟩,?_⟩
  intro I K m w act p q S hp4 hp5
  refine wp_seq (W.wp A9 Be Lm46_ok hW5 (Bi hb).2.1 S (fun e s2 a' w' hh S'=>?_) (fun v hp' a' w' h=>nomatch h.1))
  obtain⟨rfl,rfl⟩:=hh
  refine wp_seq (J5a hb rfl hRT hc S' fun fr a2 w2 e4 e5 S2=>?_)
  exact Qg S2 (e4.trans f4) ((hfar 1 4 0 Zo Zi).trans b4) (e5.trans f5) ((hfar 1 5 0 Zo Zi).trans b5) (fun I1 m1 _ E1=>⟨Rep.mono E1 _ _ _ (h.f4.1▸hp4),Rep.mono E1 _ _ _ (h.f5.1▸hp5)⟩)
theorem H9 {P:Program}{fn:Func}{tmps:Array Value}{R R':Ending->World->Prop}(h: ∀e w,R e w->R' e w): ∀(ds:List Deferred) (u:FrameMode) (w:World),Leaves P fn tmps R ds u w->Leaves P fn tmps R' ds u w
 |[],.returning,w,⟨v,h1,h2⟩=>⟨v,h1,h _ _ h2⟩
 |[],.panicking c,w,h1=>h _ _ h1
 |[],.run,_,h1=>h1.elim
 |d::ds,u,w,⟨hu,fv,cap,f,args,h1,h2,h3⟩=>by
  refine⟨hu,fv,cap,f,args,h1,h2,h3.mono fun e u' w' he=>?_⟩
  cases e with
  |returned v=>exact H9 h ds _ _ he
  |panicked c=>exact H9 h ds _ _ he
  |outgrown=>exact h _ _ he
theorem O4 {P:Program}{fn:Func}{R R':Ending->World->Prop}(h: ∀e w,R e w->R' e w): ∀(e:Exit) (a:Act) (w:World),bodyPostD P fn R e a w->bodyPostD P fn R' e a w:=by
 intro e a w h1
 cases e<;>first|exact H9 h _ _ _ h1|exact h _ _ h1|exact h1.elim
theorem J3a {s:ByteArray}(hs:s.size<9223372036854775807){gp:Nat}{hp:Hp}{c1v c2v c3v:AV}(hbx:hp ⟨0,5,0⟩= .box gp [c1v,c2v,c3v] false):
  ∃v hp',SemH P0 0 45 [tv s,.fn 46 [.ptr ⟨0,5,0⟩ gp 0]] hp v hp'/\RX s hp gp v hp':=by
 obtain⟨c0,c1,c2,c3,d5,d6,d7,x,d8,d9,hb⟩: ∃c0 c1 c2 c3 d5 d6 d7 x d8 d9,Tryz.f45.body=some (.seq c0 (.seq c1 (.seq c2 (.seq c3 (.seq d5 (.seq d6 (.seq (.seq d7 (.cond x d8 .skip)) (.seq d9 .ret)))))))):=⟨_,_,_,_,_,_,_,_,_,_,rfl⟩
 obtain⟨T,hT,hW⟩:=D0a hb hs (gp:=gp) (hp:=hp)
 obtain⟨e1,s1,hW1,h1⟩:=Wch.pick _ hW
 rcases h1 with⟨rfl,h1⟩|⟨hne,h1⟩
 ·obtain⟨v,hp',hRR,hbody⟩:=D1a hb hT (st:=⟨setd s1.fr (some 20) .any,s1.hp⟩) (hp:=hp) (s:=s) (gp:=gp) ⟨by simpa using h1.f0,by simpa using h1.f1,by simpa using h1.f4,by simpa using h1.f5,by simpa using h1.f6,h1.low,h1.lx,h1.u25,h1.up⟩ hbx
  refine⟨v,hp',?_,hRR⟩
  intro hok I K m w us G ha
  refine calls_of_wp_defers Tryz.func45 hb ?_
  refine Wch.wp A9 Be Lm46_ok (fun s2 a' w' hh S=>?_) (fun e s2 a' w' hne hh S=>(hne hh.1).elim) (fun v hp' a' w' h=>nomatch h.1) [c0,c1,c2] hW1 (Bi hb).1 (N8 G ha)
  obtain⟨rfl,_⟩:=hh
  obtain⟨I1,m1,G1,E1,hf1,hs1,hd1⟩:=S
  have R4:=hf1 4
  have R5:=hf1 5
  rw[h1.f4.1] at R4
  rw[h1.f5.1] at R5
  have R4':=R4
  have R5':=R5
  simp only[Rep] at R4' R5'
  obtain⟨b4,n4,_,e4⟩:=R4'.2.2 _ _ h1.f4.2
  obtain⟨b5,n5,_,e5⟩:=R5'.2.2 _ _ h1.f5.2
  refine wp_seq (read_c3 hb hs1 ?_)
  have S':StR 1 41 K ⟨I1,m1,s2.hp,w',[offD (.pointer (some ⟨b4,0,none⟩)) (.pointer (some ⟨b5,0,none⟩))]⟩ ⟨setd s2.fr (some 20) .any,s2.hp⟩ {(a'.put (some 20) (.func (.func 72) #[] #[a'.eval (.tmp 4),a'.eval (.tmp 5)])) with defers:={target:= .fn (.func 72) #[a'.eval (.tmp 4),a'.eval (.tmp 5)],args:= #[]}::a'.defers} w':=by
   refine⟨I1,m1,G1,.refl _ _ _ _ _,fun t=>?_,?_,?_⟩
   ·show Rep 1 I1 m1 s2.hp w' (setd s2.fr (some 20) .any t) ((a'.put (some 20) _).eval (.tmp t))
    rw[T8 _ _ _ _ Zo]
    by_cases h:t=20
    ·subst h;simp[Rep]
    ·simp only[if_neg h]
     have:setd s2.fr (some 20) .any t=s2.fr t:=by simp[setd,h]
     rw[this];exact hf1 t
   ·show(a'.put (some 20) _).tmps.size=41
    rw[Kp];exact hs1
   ·show _::a'.defers=_
    rw[hd1,e4,e5];rfl
  refine wp_mono (hbody I1 K m1 w' _ _ _ S' (by rw[e4] at R4;simpa[h1.f4.1] using R4) (by rw[e5] at R5;simpa[h1.f5.1] using R5)) (O4 ?_)
  rintro e w'' ⟨u,he,I',m',hS⟩
  exact⟨u,he,I',m',hS.1,E1.trans hS.2.1,hS.2.2⟩
 ·cases e1 with
  |normal=>exact(hne rfl).elim
  |exit i=>exact h1.elim
  |panic v=>exact h1.elim
  |ret=>
   obtain⟨v,hp',hl,a,e,rfl,he,hns,hlow⟩:=h1
   exact⟨_,hp',Xd hb hW1 hl,⟨a,e,rfl,.inr ⟨he,_,(hlow 5 0).trans hbx⟩,fun i c _=>hlow i c⟩,fun hF=>(hns hF.1).elim⟩
def RhR (k f:Nat)(a:List AV)(hp:Hp)(v:AV)(hp':Hp):Prop:=k=0/\f=45/\ ∃s gp,a=[tv s,.fn 46 [.ptr ⟨0,5,0⟩ gp 0]]/\RX s hp gp v hp'
noncomputable def X47 :Orc:=semX P0 (fun _ _ _=>False) RhR
theorem X47_ok :A4 P0 X47:=B3a _ _ _
theorem An (f:Nat)(a:List AV):X47.dat f a=none:=Jq fun _ h=>h
theorem Aj {k d f:Nat}{a:List AV}{hp:Hp}(h:f≠45):X47.hpc k d f a hp=none:=Pq fun _ _ h'=>h h'.2.1
theorem Lm47_ok :A4 P0 (Lm X47):=Ll A9 Be X47_ok
theorem read_rx {d:Nat}{s:ByteArray}(hs:s.size<9223372036854775807){gp:Nat}{hp:Hp}{c1v c2v c3v:AV}(hbx:hp ⟨0,5,0⟩= .box gp [c1v,c2v,c3v] false):
  ∃v hp',(Lm X47).hpc 0 d 45 [tv s,.fn 46 [.ptr ⟨0,5,0⟩ gp 0]] hp=some (v,hp')/\RX s hp gp v hp':=by
 obtain⟨v,hp',h1,h2⟩:=J3a hs hbx
 obtain⟨v',hp'',h3,_,_,s',gp',h4,h5⟩:=Hla (d:=d) (Rd:=fun _ _ _=>False) (Rh:=RhR) h1 ⟨rfl,rfl,s,gp,rfl,h2⟩
 simp only[List.cons.injEq,AV.sc.injEq,Value.string.injEq,AV.fn.injEq,AV.ptr.injEq,and_true,true_and] at h4
 obtain⟨rfl,rfl⟩:=h4
 exact⟨v',hp'',Se h3,h5⟩
theorem read_w {d:Nat}{s:ByteArray}(hs:s.size<9223372036854775807){gp:Nat}{hp:Hp}{c1v c2v c3v:AV}(hbx:hp ⟨0,5,0⟩= .box gp [c1v,c2v,c3v] false):
  ∃v hp',(Lm X47).hpc 0 d 45 [tv s,.fn 46 [.ptr ⟨0,5,0⟩ gp 0]] hp=some (v,hp')/\RR hp gp v hp':=by
 obtain⟨v,hp',h1,h2⟩:=read_rx (d:=d) hs hbx
 exact⟨v,hp',h1,h2.1⟩
end
section
open Go Go.Ab Go.Ab.Sy
def E2 :Cfg:={eq:=fun t=>t==25,hp:=fun f=>f==35,yl:=fun _=>false,ws:=70}
@[simp] theorem E2_eq (t:Nat):E2.eq t=(t==25):=rfl
@[simp] theorem E2_hp (f:Nat):E2.hp f=(f==35):=rfl
@[simp] theorem E2_off :E2.off=0:=rfl
@[simp] theorem E2_ws :E2.ws=70:=rfl
@[simp] theorem E2_cl :E2.cl=false:=rfl
@[simp] theorem E2_frz (f:Nat):E2.frz f=false:=rfl
@[simp] theorem E2_inl (f:Nat):E2.inl f=false:=rfl
@[simp] theorem E2_bx (t:Nat):E2.bx t=false:=rfl
theorem E2_law :ELaw P0 E2:=by
 refine⟨fun t ht w x y us vs b h1 h2 h=>?_,fun _=>rfl⟩
 simp only[E2_eq,beq_iff_eq] at ht
 subst ht
 exact Rg Zf Zf Zf w x y us vs b h1 h2 h
attribute [-simp] Prog.bind getCs putCs
attribute [local simp ↓] run_bind
attribute [local simp ↓] Au
attribute [local simp] Ar Am facetsC Ax At
theorem build_n {X:Orc}(m n:Q.D4)(give src c:ByteArray)(e:Int)(hX: ∀a,X.dat 8 a=none)(hd:(lim P0 E2 X).dat 12 [tv src]=some [.agg n.row])(hs:(lim P0 E2 X).dat 19 [tv src]=some [tv c,iv e])(hne:n≠m):(lim P0 E2 X).dat 8 [.agg [iv 4,.sl false 1 [],tv ⟨#[]⟩,iv 0,uv m.d0,uv m.d1,uv m.d2,uv m.d3,tv give],tv src]=some [tv c,iv e]:=by
 refine fnW (P:=P0) (E:=E2) (X:=X) Tryz.func8 (hX _) rfl V9 rfl rtys_8 rvs_8 ?_
 unfold Q.D4.row at hd
 repeat' (first|refine ZN ?_|refine Z2 ?_ ?_|(intro h h';try simp[*,-h] at h'))
 all_goals first
  |rfl
  |(exfalso;apply hne;cases n;cases m;simp_all)
end
end Go.Proofs.YtpmoibjpjlhcgaaGreatDoor
