/- A part of the proof: We. -/
import Derived.Test.YtggghdmdjpianaaGreatDoorC10
import Derived.Test.YtggghdmdjpianaaGreatDoorC11
import Derived.Test.YtggghdmdjpianaaGreatDoorC12
import Derived.WalkKit
set_option linter.unusedSimpArgs false
set_option linter.unusedVariables false
set_option maxRecDepth 200000
set_option maxHeartbeats 8000000
namespace Go.Proofs.YtggghdmdjpianaaGreatDoor
section
open Go Go.Ab Go.Ab.Sy Go.RowKit
variable {a:Int}{g4 g5:Nat}
theorem Wk :Tryz.f218.ntmps=13:=rfl
theorem Vp :Tryz.f218.results= #[]:=rfl
theorem Awa (p q:Addr)(w:World):
  CallsD P0 218 #[.pointer (some p),.pointer (some q)] .returning w fun e u' w'=>e= .returned (.tuple #[])/\u'= .returning/\w'=w:=by
 refine Adr Tryz.func218 rfl fun c₀ cs hu=>?_
 apply wpS_seq;apply Ad9;simp[wpOpsS,go_sem,recoverD,hu,Wk,Exit.thenS];refine Aeo (Aem ?_);refine nM (vA ?_);simp[wpOps,Oper.wp,Oper.upon,go_sem,Exit.then];left;refine wp_cond_true ?_ ?_
 ·simp[Act.eval,Array.replicate]
 refine vA ?_;simp[wpOps,Oper.wp,Oper.upon,go_sem,Exit.then];left
 cases c₀
 simp_all[bodyPostS,results,Vp]
theorem An :P0.follows .mixedOrders=true:=Zf
theorem Cc :dS P0 Un:=⟨fun t h=>by simp at h,fun _=>rfl⟩
theorem EI :Av P0 bX:=⟨(fun f a rs h=>nomatch h),(fun k d f a hp v hp' h=>nomatch h)⟩
theorem eR :Av P0 (Lm bX):=Fl An Cc EI
def frW (g4 g5:Nat)(a:Int):Nat->AV:=fun t=>if t=0 then .ptr ⟨1,4,0⟩ g4 0 else if t=1 then .ptr ⟨1,5,0⟩ g5 0 else if t=9 then bv true else if t=10 then .agg [iv a] else .any
def oR (a:Int)(g4 g5:Nat)(hp:Hp):Hp:=Ur (Ur (Ur hp ⟨2,3,0⟩ (.box ((hp ⟨2,3,0⟩).gen+1) [iv a] false)) ⟨1,4,0⟩ (.box g4 [iv a] false)) ⟨1,5,0⟩ (.box g5 [iv 3] false)
def CW (I K:Nat->Prop)(m:Mp)(hp:Hp)(w:World)(a:Int)(g4 g5:Nat)(e:Ending)(u':FrameMode)(w':World):Prop:=e= .returned (.tuple #[])/\u'= .panicking [{v:=qZ a,recovered:=true}]/\
   ∃I' m',Uj I' K m' (oR a g4 g5 hp) w'/\aL I K m hp w I' m' (oR a g4 g5 hp) w'
@[simp] theorem frW_0 :frW g4 g5 a 0= .ptr ⟨1,4,0⟩ g4 0:=rfl
@[simp] theorem frW_1 :frW g4 g5 a 1= .ptr ⟨1,5,0⟩ g5 0:=rfl
@[simp] theorem frW_9 :frW g4 g5 a 9=bv true:=rfl
@[simp] theorem frW_10 :frW g4 g5 a 10= .agg [iv a]:=rfl
def CR (a:Int)(g4 g5:Nat)(hp:Hp)(e:Ab.Ex)(s:AS):Prop:=e= .normal/\s.hp=oR a g4 g5 hp
theorem X0 {I K:Nat->Prop}{m:Mp}{hp:Hp}{w:World}{x4 x5:AV}{p q:Value}(G:Uj I K m hp w)(h4:Ie 1 I m hp w (.ptr ⟨1,4,0⟩ g4 0) p)(h5:Ie 1 I m hp w (.ptr ⟨1,5,0⟩ g5 0) q)
  (b4:hp ⟨1,4,0⟩= .box g4 [x4] false) (b5:hp ⟨1,5,0⟩= .box g5 [x5] false):
  CallsD P0 218 #[p,q] (.panicking (iN (qZ a))) w (CW I K m hp w a g4 g5):=by
 refine Adr Tryz.func218 rfl fun c₀ cs hu=>?_
 apply wpS_seq;apply Ad9;simp[wpOpsS,go_sem,recoverD,hu,iN,Wk,Exit.thenS];refine Aeo (Aem ?_);refine nM (vA ?_);simp[wpOps,Oper.wp,Oper.upon,go_sem,Exit.then,qZ];left;refine Aek ?_ ?_
 ·simp[Act.eval,Array.replicate]
 refine nM (vA ?_);simp[wpOps,Oper.wp,Oper.upon,go_sem,Exit.then,Instr.typeAssert];left;left;left;refine W.wp (N:=13) (k:=2) (K:=K) (B:=⟨I,m,hp,w,[]⟩) (E:=Un) (call:=Lm bX) (st:=⟨frW g4 g5 a,hp⟩) An Cc eR (R:=CR a g4 g5 hp) ?_ Zf ?_ ?_ ?_
 ·repeat' first|refine ZN ?_|refine Z2 ?_ ?_|intro h h';try simp[*,-h] at h'
  exact⟨rfl,rfl⟩
 ·refine⟨I,m,G,.refl _ _ _ _ _,fun t=>?_,Zi,rfl⟩
  show Ie 2 I m hp w (frW g4 g5 a t) _;by_cases e0:t=0
  ·subst e0;simpa[Act.eval] using Ie.depth (uY 1) _ _ h4
  by_cases e1:t=1
  ·subst e1;simpa[Act.eval] using Ie.depth (uY 1) _ _ h5
  by_cases e2:t=9
  ·subst e2;simp[Act.eval,Ie]
  by_cases e3:t=10
  ·subst e3;simp[Act.eval,Ie,bM]
  simp[frW,e0,e1,e2,e3,Ie]
 ·rintro e s a' w' ⟨rfl,rh⟩ ⟨I1,m1,G1,E1,_,_,hd⟩
  rw[rh] at G1 E1;refine⟨hd,_,rfl,?_⟩;refine⟨.tuple #[],by simp[results,Vp],?_⟩;exact⟨rfl,rfl,I1,m1,G1,E1⟩
 ·rintro v hp' a' w' ⟨h,_⟩
  exact nomatch h
end
end Go.Proofs.YtggghdmdjpianaaGreatDoor
