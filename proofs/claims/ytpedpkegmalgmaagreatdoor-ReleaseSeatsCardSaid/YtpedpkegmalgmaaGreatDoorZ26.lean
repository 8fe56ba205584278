/- A part of the proof: I17, I18, I19, I20, I21, J0, J1. -/
import Derived.Test.YtpedpkegmalgmaaGreatDoorZ25
import Derived.Test.YtpedpkegmalgmaaGreatDoorZ09
import Derived.Shelf.Abstract
import Derived.RangeFuncBox
import Derived.RangeFuncLeaves
import Derived.WalkKit
import Derived.OwnWalkIn
import Derived.TacticsInMore
import Derived.LoopNIn
import Derived.LoopIn
import Derived.Maps.AppendAt
import Derived.Sort.QuietIn
import Derived.Test.YtpedpkegmalgmaaGreatDoorProg
set_option linter.unusedSimpArgs false
set_option linter.unusedVariables false
set_option maxRecDepth 200000
set_option maxHeartbeats 8000000
namespace Go.Proofs.YtpedpkegmalgmaaGreatDoor.M
section
open Go Go.Ab Go.Ma
attribute [-simp] Prog.bind getCs putCs
attribute [local simp ↓] run_bind
attribute [local simp ↓] runF_bind
attribute [local simp] run_getCsN runF_getCsN facetsC putCs_one run_putCsN
attribute [local simp] take1 bx_len bx_2 bx_19 bx_20 bx_21 bx_22 bx_23 bx_24 bx_25 bx_reg bs_2 bs_19 bs_20 bs_22 bs_23 bs_24 bs_25 bs_reg bx_regg bg_2 bg_19 bg_20 bg_21 bg_22 bg_23 bg_24 bg_25
theorem w284 {code:List Int}{inp:ByteArray}{s:PS}{go gm:Nat}(hs:Ma.Ok inp.size s)(hml:s.mem.length≤1048576)(hil:inp.size≤1048576)(hcl:code.length≤1048576)(fuel:Int)(hf:fuel≤4611686018427387904)(hst:s.steps≤1048576)(hcU: ∀x∈code,Ma.U x)
  {hp0':Hp} (M:Mst code inp s go gm hp0') (h16:hp0' ⟨0,16,2⟩= .box 1 [.ptr ⟨0,13,0⟩ 1 0] false) (l:Nat):
  ∃c,Tryz.f191.body=some c∧W Tryz.prog (E0y l) 1 (lim Tryz.prog E00 X00) c ⟨frame0 [.sc (.func (.yield l) #[] #[]),.dp [iv fuel] 0,.ptr ⟨0,16,2⟩ 1 0],hp0'⟩
   (fun e q=>(e= .normal∨e= .ret)∧ ∃go gm,Mst code inp (runP code (inpF inp) fuel.toNat s) go gm q.hp∧ ∀y:Nm,y.d=0→y.i≠13→q.hp y=hp0' y):=by
 refine⟨_,rfl,?_⟩
 repeat' (first|(refine ZN ?_)|(refine Z2 ?_ ?_)|(intro h h';try simp[*,-h] at h'))
 refine W_loopS (n:=fuel.toNat+1) (fun s0 m q=> ∃k t go gm,m=fuel.toNat+1 - k∧Ma.Run code (inpF inp) inp.size fuel.toNat s k t∧Mst code inp t go gm q.hp∧q.fr 4=iv k∧q.fr 0=s0.fr 0∧q.fr 1=s0.fr 1∧q.fr 2=s0.fr 2∧ ∀y:Nm,y.d=0→y.i≠13→q.hp y=s0.hp y) ⟨0,s,go,gm,by simp,.start _ hs,by simpa using M,by simp,by simp,by simp,by simp,fun y h0 h1=>rfl⟩ ?_
 rintro m ⟨fr,hp⟩ ⟨k,t,go',gm',rfl,R,M',hs4,hs0,hs1,hs2,hoth⟩
 simp at hs4 hs0 hs1 hs2
 dsimp only at M' hoth
 have h16':hp ⟨0,16,2⟩= .box 1 [.ptr ⟨0,13,0⟩ 1 0] false:=(hoth ⟨0,16,2⟩ rfl (by decide)).trans h16
 have hx:=M'.bx
 have hrl:=R.ok.rl
 have hkF:=R.le
 have hmt:=R.mem
 have hstt:=R.st
 have h285:=fun d hp hx=>m285 (code:=code) (inp:=inp) (pc:=t.pc) (rg:=t.rg) (M:=memA t.own gm' t.mem) (rd:=t.rd) (steps:=t.steps) (en:=t.en) (o:=t.own) (go:=go') (no:=t.out.length) hrl d hp hx
 have h286:=fun d hp hx=>m286 (code:=code) (inp:=inp) (pc:=t.pc) (rg:=t.rg) (M:=memA t.own gm' t.mem) (rd:=t.rd) (steps:=t.steps) (en:=t.en) (o:=t.own) (go:=go') (no:=t.out.length) hrl d hp hx
 have hw:=wrapN (k:=k) (by omega)
 by_cases hlt:(k:Int)<fuel
 ·by_cases he:t.en=0
  ·have hb:=beq_dec t.en 0
   simp only[he,decide_true] at hb
   have hnx:=R.next (by omega) he (by omega) hcU (inpF_spec inp)
   have hok:=R.ok
   clear R
   repeat' (first|(refine ZN ?_)|(refine Z2 ?_ ?_)|(intro h h';try simp[*,-h] at h'))
   all_goals
    refine Wo_step (s:=t) hok he (by omega) hil hcl (by omega) hcU (code:=code) (inp:=inp) (go:=go') (gm:=gm') ⟨by simp[*,M'.bx],by simp[M'.out],fun h=>by simp[M'.mem h]⟩ (by simp) ?_
    intro b hp2 go2 gm2 M2 h32
    cases b
    all_goals
     repeat' (first|(refine ZN ?_)|(refine Z2 ?_ ?_)|(intro h h';try simp[*,-h] at h'))
     exact⟨_,by omega,k+1,_,go2,gm2,rfl,hnx,by simpa using M2,by simp[*],by simp[*],by simp[*],by simp[*],fun y h0 h1=>(h32 y h0 h1).trans (hoth y h0 h1)⟩
  ·have hb:=beq_dec t.en 0
   simp only[he,decide_false] at hb
   have HD:=Lib.hid (R.done (.inr he))
   clear R
   repeat' (first|(refine ZN ?_)|(refine Z2 ?_ ?_)|(intro h h';try simp[*,-h] at h'))
   all_goals
    have hd:=HD.out
    subst hd
    exact⟨.inl rfl,go',gm',by simpa using M',fun y h0 h1=>hoth y h0 h1⟩
 ·have HD:=Lib.hid (R.done (.inl (by omega)))
  clear R
  repeat' (first|(refine ZN ?_)|(refine Z2 ?_ ?_)|(intro h h';try simp[*,-h] at h'))
  all_goals
   have hd:=HD.out
   subst hd
   exact⟨.inl rfl,go',gm',by simpa using M',fun y h0 h1=>hoth y h0 h1⟩
end
section
open Go Go.Ab Go.Ma
attribute [-simp] Prog.bind getCs putCs
attribute [local simp ↓] run_bind
attribute [local simp ↓] runF_bind
attribute [local simp] run_getCsN runF_getCsN facetsC putCs_one run_putCsN
theorem m211 {code mem:List Int}{inp:ByteArray}{data:Int}(hp1:Hp)(h0:hp1 ⟨0,13,0⟩= .no 0)(h1:hp1 ⟨0,13,26⟩= .no 0):
  ∃hp',(lim Tryz.prog E00 X00).hpc 0 13 154 [.agg [.sl false 1 (rowW code),iv data],.sc (.string inp),.agg [iv 0,uv 0,uv 0,uv 0,uv 0,uv 0,uv 0,uv 0,uv 0,uv 0,uv 0,uv 0,uv 0,uv 0,uv 0,uv 0,uv 0,.sl false 1 (rowW mem),iv 0,.sc (.string ⟨#[]⟩),iv 0,iv 0]] hp1=some (.ptr ⟨0,13,0⟩ 1 0,hp')∧hp' ⟨0,13,0⟩= .box 1 (bxP code inp 0 [0,0,0,0,0,0,0,0,0,0,0,0,0,0,0,0] (.sl false 1 (rowW mem)) 0 0 0 false 1 0) false∧hp' ⟨0,13,26⟩= .arr 1 1 5 [] false∧ ∀y:Nm,y.d=0→y.i≠13→hp' y=hp1 y:=by
 refine hpcZ Tryz.func154 rfl rfl bodyOk_154 rfl rfl ?_
 repeat' (first|(refine ZN ?_)|(refine Z2 ?_ ?_)|(intro h h';try simp[*,-h] at h'))
 all_goals refine⟨by simp,?_⟩
 all_goals (with_reducible apply ex2)
 all_goals first
  |((conv=>lhs;simp -implicitDefEqProofs [*,lowerRes,lowerV,resultV,lowerC,escC,escL,moveB,lowerL,lowerAll])<;>exact rfl)
  |exact⟨rfl,by simp[bxP],by simp,fun y h0 h1=>(by have e1: ∀k i c,y≠⟨k+1,i,c⟩:=fun k i c e=>(by subst e;simp at h0);have e2: ∀i c,y≠⟨1,i,c⟩:=fun i c=>e1 0 i c;have e6: ∀c,y≠⟨0,13,c⟩:=fun c=>ne13 h1 rfl;simp[*])⟩
theorem m212 {cells:List AV}{fuel:Int}(hp1:Hp)(h0:hp1 ⟨0,13,0⟩= .box 1 cells false)(h1:hp1 ⟨0,16,2⟩= .no 0):
  ∃hp',(lim Tryz.prog E00 X00).hpc 0 16 155 [.ptr ⟨0,13,0⟩ 1 0,iv fuel] hp1=some (.fn 191 [.dp [iv fuel] 0,.ptr ⟨0,16,2⟩ 1 0],hp')∧hp' ⟨0,16,2⟩= .box 1 [.ptr ⟨0,13,0⟩ 1 0] false∧ ∀y:Nm,y.d=0→y≠⟨0,16,2⟩→hp' y=hp1 y:=by
 refine hpcZ Tryz.func155 rfl rfl bodyOk_155 rfl rfl ?_
 repeat' (first|(refine ZN ?_)|(refine Z2 ?_ ?_)|(intro h h';try simp[*,-h] at h'))
 all_goals refine⟨by simp,?_⟩
 all_goals (with_reducible apply ex2)
 all_goals first
  |((conv=>lhs;simp -implicitDefEqProofs [*,lowerRes,lowerV,resultV,lowerC,escC,escL,moveB,lowerL,lowerAll])<;>exact rfl)
  |exact⟨rfl,by simp,fun y h0 h1=>(by have e1: ∀k i c,y≠⟨k+1,i,c⟩:=fun k i c e=>(by subst e;simp at h0);have e2: ∀i c,y≠⟨1,i,c⟩:=fun i c=>e1 0 i c;simp[*])⟩
end
section
open Go Go.Ab Go.Ma
attribute [-simp] Prog.bind getCs putCs
attribute [local simp ↓] run_bind
attribute [local simp ↓] runF_bind
attribute [local simp] run_getCsN runF_getCsN facetsC putCs_one run_putCsN
theorem empty_app (b:ByteArray):(⟨#[]⟩:ByteArray)++b=b:=by
 apply ByteArray.ext
 simp[ByteArray.data_append]
def outT (out:List Int):ByteArray:=⟨⟨toBytes out⟩⟩
attribute [local simp] empty_app empty_size bytes_rowB
theorem m213se {code mem out:List Int}{inp:ByteArray}{pc rd steps en:Int}{x0 x1 x2 x3 x4 x5 x6 x7 x8 x9 x10 x11 x12 x13 x14 x15:Int}{gm go:Nat}(hp1:Hp)(hx:hp1 ⟨0,13,0⟩= .box 1 (bxP code inp pc [x0,x1,x2,x3,x4,x5,x6,x7,x8,x9,x10,x11,x12,x13,x14,x15] (.sl false 1 (rowW mem)) rd steps en false go 0) false)(hmo:hp1 ⟨0,13,26⟩= .arr go 1 5 [] false):
  ∃hp',(lim Tryz.prog E00 X00).hpc 0 19 156 [.ptr ⟨0,13,0⟩ 1 0] hp1=some (.agg (iv pc::uv x0::uv x1::uv x2::uv x3::uv x4::uv x5::uv x6::uv x7::uv x8::uv x9::uv x10::uv x11::uv x12::uv x13::uv x14::uv x15:: .sl false 1 (rowW mem)::iv rd:: .sc (.string (outT []))::iv steps::iv en::[]),hp')∧ ∀y:Nm,y.d=0→y.i≠13→y.i≠19→hp' y=hp1 y:=by
 refine hpcZ Tryz.func156 rfl rfl bodyOk_156 rfl rfl ?_
 unfold bxP at hx
 simp only[List.map_cons,List.map_nil,List.cons_append,List.nil_append] at hx
 repeat' (first|(refine ZN ?_)|(refine Z2 ?_ ?_)|(intro h h';try simp[*,-h] at h'))
 all_goals refine⟨by simp,?_⟩
 all_goals (with_reducible apply ex2)
 all_goals first
  |((conv=>lhs;simp -implicitDefEqProofs [*,lowerRes,lowerV,resultV,lowerC,escC,escL,moveB,lowerL,lowerAll])<;>exact rfl)
  |exact⟨by simp[outT,toBytes],fun y h0 h1 h2=>(by have e1: ∀k i c,y≠⟨k+1,i,c⟩:=fun k i c e=>(by subst e;simp at h0);have e2: ∀i c,y≠⟨1,i,c⟩:=fun i c=>e1 0 i c;have e6: ∀c,y≠⟨0,13,c⟩:=fun c=>ne13 h1 rfl;have e7: ∀c,y≠⟨0,19,c⟩:=fun c e=>h2 (by rw[e]);simp[*])⟩
theorem m213sn {code mem out:List Int}{inp:ByteArray}{pc rd steps en:Int}{x0 x1 x2 x3 x4 x5 x6 x7 x8 x9 x10 x11 x12 x13 x14 x15:Int}{gm go:Nat}(hp1:Hp)(hx:hp1 ⟨0,13,0⟩= .box 1 (bxP code inp pc [x0,x1,x2,x3,x4,x5,x6,x7,x8,x9,x10,x11,x12,x13,x14,x15] (.sl false 1 (rowW mem)) rd steps en false go out.length) false)(hmo:hp1 ⟨0,13,26⟩= .arr go 1 5 (rowB out) false)(hout:0<out.length)(hol:out.length≤65536):
  ∃hp',(lim Tryz.prog E00 X00).hpc 0 19 156 [.ptr ⟨0,13,0⟩ 1 0] hp1=some (.agg (iv pc::uv x0::uv x1::uv x2::uv x3::uv x4::uv x5::uv x6::uv x7::uv x8::uv x9::uv x10::uv x11::uv x12::uv x13::uv x14::uv x15:: .sl false 1 (rowW mem)::iv rd:: .sc (.string (outT out))::iv steps::iv en::[]),hp')∧ ∀y:Nm,y.d=0→y.i≠13→y.i≠19→hp' y=hp1 y:=by
 refine hpcZ Tryz.func156 rfl rfl bodyOk_156 rfl rfl ?_
 unfold bxP at hx
 simp only[List.map_cons,List.map_nil,List.cons_append,List.nil_append] at hx
 have v0:(0:Int)<out.length:=by omega
 have v1:out.length≤9223372036854775807:=by omega
 have v2:(⟨⟨toBytes out⟩⟩:ByteArray).size=out.length:=by show(toBytes out).length=_;simp[toBytes]
 have v3:(rowB out).take out.length=rowB out:=List.take_of_length_le (by simp)
 have v4:bytesOfRows (rowB out)=some (toBytes out):=bytes_rowB out
 have v5:(rowB out).length=out.length:=List.length_map ..
 have v6:rowB out≠[]:=fun h=>by rw[h] at v5;simp at v5;omega
 generalize rowB out=RB at*
 repeat' (first|(refine ZN ?_)|(refine Z2 ?_ ?_)|(intro h h';try simp[*,-h] at h'))
 all_goals refine⟨by simp,?_⟩
 all_goals (with_reducible apply ex2)
 all_goals first
  |((conv=>lhs;simp -implicitDefEqProofs [*,lowerRes,lowerV,resultV,lowerC,escC,escL,moveB,lowerL,lowerAll])<;>exact rfl)
  |exact⟨by simp[outT,toBytes],fun y h0 h1 h2=>(by have e1: ∀k i c,y≠⟨k+1,i,c⟩:=fun k i c e=>(by subst e;simp at h0);have e2: ∀i c,y≠⟨1,i,c⟩:=fun i c=>e1 0 i c;have e6: ∀c,y≠⟨0,13,c⟩:=fun c=>ne13 h1 rfl;have e7: ∀c,y≠⟨0,19,c⟩:=fun c e=>h2 (by rw[e]);simp[*])⟩
theorem m213we {code mem out:List Int}{inp:ByteArray}{pc rd steps en:Int}{x0 x1 x2 x3 x4 x5 x6 x7 x8 x9 x10 x11 x12 x13 x14 x15:Int}{gm go:Nat}(hp1:Hp)(hx:hp1 ⟨0,13,0⟩= .box 1 (bxP code inp pc [x0,x1,x2,x3,x4,x5,x6,x7,x8,x9,x10,x11,x12,x13,x14,x15] (.own ⟨0,13,20⟩ gm mem.length) rd steps en true go 0) false)(hmo:hp1 ⟨0,13,26⟩= .arr go 1 5 [] false)(hm:hp1 ⟨0,13,20⟩= .arr gm 1 22 (rowW mem) false)(h19:hp1 ⟨0,19,18⟩= .no 0):
  ∃hp',(lim Tryz.prog E00 X00).hpc 0 19 156 [.ptr ⟨0,13,0⟩ 1 0] hp1=some (.agg (iv pc::uv x0::uv x1::uv x2::uv x3::uv x4::uv x5::uv x6::uv x7::uv x8::uv x9::uv x10::uv x11::uv x12::uv x13::uv x14::uv x15:: .own ⟨0,19,18⟩ 1 mem.length::iv rd:: .sc (.string (outT []))::iv steps::iv en::[]),hp')∧hp' ⟨0,19,18⟩= .arr 1 1 22 (rowW mem) false∧ ∀y:Nm,y.d=0→y.i≠13→y.i≠19→hp' y=hp1 y:=by
 refine hpcZ Tryz.func156 rfl rfl bodyOk_156 rfl rfl ?_
 unfold bxP at hx
 simp only[List.map_cons,List.map_nil,List.cons_append,List.nil_append] at hx
 have w5:(rowW mem).length=mem.length:=List.length_map ..
 generalize rowW mem=RM at*
 repeat' (first|(refine ZN ?_)|(refine Z2 ?_ ?_)|(intro h h';try simp[*,-h] at h'))
 all_goals refine⟨by simp,?_⟩
 all_goals (with_reducible apply ex2)
 all_goals first
  |((conv=>lhs;simp -implicitDefEqProofs [*,lowerRes,lowerV,resultV,lowerC,escC,escL,moveB,lowerL,lowerAll])<;>exact rfl)
  |exact⟨by simp[outT,toBytes],by simp,fun y h0 h1 h2=>(by have e1: ∀k i c,y≠⟨k+1,i,c⟩:=fun k i c e=>(by subst e;simp at h0);have e2: ∀i c,y≠⟨1,i,c⟩:=fun i c=>e1 0 i c;have e6: ∀c,y≠⟨0,13,c⟩:=fun c=>ne13 h1 rfl;have e7: ∀c,y≠⟨0,19,c⟩:=fun c e=>h2 (by rw[e]);simp[*])⟩
theorem m213wn {code mem out:List Int}{inp:ByteArray}{pc rd steps en:Int}{x0 x1 x2 x3 x4 x5 x6 x7 x8 x9 x10 x11 x12 x13 x14 x15:Int}{gm go:Nat}(hp1:Hp)(hx:hp1 ⟨0,13,0⟩= .box 1 (bxP code inp pc [x0,x1,x2,x3,x4,x5,x6,x7,x8,x9,x10,x11,x12,x13,x14,x15] (.own ⟨0,13,20⟩ gm mem.length) rd steps en true go out.length) false)(hmo:hp1 ⟨0,13,26⟩= .arr go 1 5 (rowB out) false)(hout:0<out.length)(hol:out.length≤65536)(hm:hp1 ⟨0,13,20⟩= .arr gm 1 22 (rowW mem) false)(h19:hp1 ⟨0,19,18⟩= .no 0):
  ∃hp',(lim Tryz.prog E00 X00).hpc 0 19 156 [.ptr ⟨0,13,0⟩ 1 0] hp1=some (.agg (iv pc::uv x0::uv x1::uv x2::uv x3::uv x4::uv x5::uv x6::uv x7::uv x8::uv x9::uv x10::uv x11::uv x12::uv x13::uv x14::uv x15:: .own ⟨0,19,18⟩ 1 mem.length::iv rd:: .sc (.string (outT out))::iv steps::iv en::[]),hp')∧hp' ⟨0,19,18⟩= .arr 1 1 22 (rowW mem) false∧ ∀y:Nm,y.d=0→y.i≠13→y.i≠19→hp' y=hp1 y:=by
 refine hpcZ Tryz.func156 rfl rfl bodyOk_156 rfl rfl ?_
 unfold bxP at hx
 simp only[List.map_cons,List.map_nil,List.cons_append,List.nil_append] at hx
 have v0:(0:Int)<out.length:=by omega
 have v1:out.length≤9223372036854775807:=by omega
 have v2:(⟨⟨toBytes out⟩⟩:ByteArray).size=out.length:=by show(toBytes out).length=_;simp[toBytes]
 have v3:(rowB out).take out.length=rowB out:=List.take_of_length_le (by simp)
 have v4:bytesOfRows (rowB out)=some (toBytes out):=bytes_rowB out
 have v5:(rowB out).length=out.length:=List.length_map ..
 have v6:rowB out≠[]:=fun h=>by rw[h] at v5;simp at v5;omega
 generalize rowB out=RB at*
 have w5:(rowW mem).length=mem.length:=List.length_map ..
 generalize rowW mem=RM at*
 repeat' (first|(refine ZN ?_)|(refine Z2 ?_ ?_)|(intro h h';try simp[*,-h] at h'))
 all_goals refine⟨by simp,?_⟩
 all_goals (with_reducible apply ex2)
 all_goals first
  |((conv=>lhs;simp -implicitDefEqProofs [*,lowerRes,lowerV,resultV,lowerC,escC,escL,moveB,lowerL,lowerAll])<;>exact rfl)
  |exact⟨by simp[outT,toBytes],by simp,fun y h0 h1 h2=>(by have e1: ∀k i c,y≠⟨k+1,i,c⟩:=fun k i c e=>(by subst e;simp at h0);have e2: ∀i c,y≠⟨1,i,c⟩:=fun i c=>e1 0 i c;have e6: ∀c,y≠⟨0,13,c⟩:=fun c=>ne13 h1 rfl;have e7: ∀c,y≠⟨0,19,c⟩:=fun c e=>h2 (by rw[e]);simp[*])⟩
end
section
open Go Go.Ab Go.Ma
attribute [-simp] Prog.bind getCs putCs
attribute [local simp ↓] run_bind
attribute [local simp ↓] runF_bind
attribute [local simp] run_getCsN runF_getCsN facetsC putCs_one run_putCsN
theorem exH {α β:Type}{p:Option (α×β)}{v:α}{h:β}(e:p=some (v,h)): ∃h,p=some (v,h):=⟨h,e⟩
def startM (mem:List Int):PS:=⟨0,[0,0,0,0,0,0,0,0,0,0,0,0,0,0,0,0],mem,0,[],0,0,false⟩
def stA (mem:List Int):List AV:=[iv 0,uv 0,uv 0,uv 0,uv 0,uv 0,uv 0,uv 0,uv 0,uv 0,uv 0,uv 0,uv 0,uv 0,uv 0,uv 0,uv 0,.sl false 1 (rowW mem),iv 0,.sc (.string ⟨#[]⟩),iv 0,iv 0]
def resS (s:PS):AV:= .agg (iv s.pc::(s.rg.map uv++[if s.own then .vec 1 (rowW s.mem) else .sl false 1 (rowW s.mem),iv s.rd,.sc (.string (outT s.out)),iv s.steps,iv s.en]))
theorem Wo_new {code mem:List Int}{inp:ByteArray}{data:Int}{all:Array Oper}{os:List Oper}{fr:Nat→AV}{hp:Hp}{Q:AS→Prop}{PQ:Value→Hp→Prop}{ats:Array TypeId}{ty:TypeId}{pos:String}{aft:Array Edge}(h0:hp ⟨0,13,0⟩= .no 0)(h1:hp ⟨0,13,26⟩= .no 0)
  (h10:fr 10= .agg [.sl false 1 (rowW code),iv data]) (h11:fr 11= .sc (.string inp)) (h12:fr 12= .agg (stA mem))
  (rest: ∀hp',hp' ⟨0,13,0⟩= .box 1 (bxP code inp 0 [0,0,0,0,0,0,0,0,0,0,0,0,0,0,0,0] (.sl false 1 (rowW mem)) 0 0 0 false 1 0) false→hp' ⟨0,13,26⟩= .arr 1 1 5 [] false→(∀y:Nm,y.d=0→y.i≠13→hp' y=hp y)→Wo Tryz.prog E00 0 (lim Tryz.prog E00 X00) all os ⟨setd fr (some 13) (.ptr ⟨0,13,0⟩ 1 0),hp'⟩ Q PQ):
  Wo Tryz.prog E00 0 (lim Tryz.prog E00 X00) all (⟨some 13,.call {callee:= .value (.func 154),args:= #[.tmp 10,.tmp 11,.tmp 12],argTypes:=ats},ty,pos,aft,none⟩::os) ⟨fr,hp⟩ Q PQ:=by
 obtain⟨hp',e1,e2,e3,e4⟩:=m211 (code:=code) (mem:=mem) (inp:=inp) (data:=data) hp h0 h1
 refine Wo_u ?_ (rest hp' e2 e3 e4)
 refine(call_run rfl okFn_154 (by decide) (by simp) (by simp only[List.map_cons,List.map_nil,opA,List.append_nil,h10,h11,h12];exact rfl)).trans ?_
 unfold stA
 simp[Prog.run,e1]
theorem Wo_steps {cells:List AV}{fuel:Int}{all:Array Oper}{os:List Oper}{fr:Nat→AV}{hp:Hp}{Q:AS→Prop}{PQ:Value→Hp→Prop}{ats:Array TypeId}{ty:TypeId}{pos:String}{aft:Array Edge}(h0:hp ⟨0,13,0⟩= .box 1 cells false)(h1:hp ⟨0,16,2⟩= .no 0)
  (h14:fr 14= .ptr ⟨0,13,0⟩ 1 0) (h15:fr 15=iv fuel)
  (rest: ∀hp',hp' ⟨0,16,2⟩= .box 1 [.ptr ⟨0,13,0⟩ 1 0] false→(∀y:Nm,y.d=0→y≠⟨0,16,2⟩→hp' y=hp y)→Wo Tryz.prog E00 0 (lim Tryz.prog E00 X00) all os ⟨setd fr (some 16) (.fn 191 [.dp [iv fuel] 0,.ptr ⟨0,16,2⟩ 1 0]),hp'⟩ Q PQ):
  Wo Tryz.prog E00 0 (lim Tryz.prog E00 X00) all (⟨some 16,.call {callee:= .value (.func 155),args:= #[.tmp 14,.tmp 15],argTypes:=ats},ty,pos,aft,none⟩::os) ⟨fr,hp⟩ Q PQ:=by
 obtain⟨hp',e1,e2,e3⟩:=m212 (cells:=cells) (fuel:=fuel) hp h0 h1
 refine Wo_u ?_ (rest hp' e2 e3)
 refine(call_run rfl okFn_155 (by decide) (by simp) (by simp only[List.map_cons,List.map_nil,opA,List.append_nil,h14,h15];exact rfl)).trans ?_
 simp[Prog.run,e1]
structure Go1 (code mem:List Int)(inp:ByteArray)(fuel:Int)(q:AS):Prop where
 f16:q.fr 16= .fn 191 [.dp [iv fuel] 0,.ptr ⟨0,16,2⟩ 1 0]
 f9:q.fr 9= .ptr ⟨0,13,0⟩ 1 0
 f8:q.fr 8= .ptr ⟨0,8,0⟩ 1 0
 bx:Mst code inp (startM mem) 1 0 q.hp
 b16:q.hp ⟨0,16,2⟩= .box 1 [.ptr ⟨0,13,0⟩ 1 0] false
 b8: ∃gz,q.hp ⟨0,8,0⟩= .box 1 [.sc (.int .i64 0),.sc (.int .u32 0),.sc (.int .u32 0),.sc (.int .u32 0),.sc (.int .u32 0),.sc (.int .u32 0),.sc (.int .u32 0),.sc (.int .u32 0),.sc (.int .u32 0),.sc (.int .u32 0),.sc (.int .u32 0),.sc (.int .u32 0),.sc (.int .u32 0),.sc (.int .u32 0),.sc (.int .u32 0),.sc (.int .u32 0),.sc (.int .u32 0),.own ⟨0,8,18⟩ gz 0,.sc (.int .i64 0),.sc (.string ⟨#[]⟩),.sc (.int .i64 0),.sc (.int .i64 0)] false
 n19:q.hp ⟨0,19,18⟩= .no 0
theorem w155a {code mem:List Int}{inp:ByteArray}{data fuel:Int}: ∃R0 R1 R2 R3,Tryz.f128.body=some (.seq R0 (.seq R1 (.seq (.seq R2 (.block 0 (.rangeFunc (.tmp 16) #[17] .skip (.block 1 .skip)))) (.seq R3 .ret))))∧
  W Tryz.prog E00 0 (lim Tryz.prog E00 X00) (.seq R0 (.seq R1 R2)) ⟨frame0 [.agg [.sl false 1 (rowW code),iv data],.sc (.string inp),.agg (stA mem),iv fuel],hp0⟩ (fun e q=>e= .normal∧Go1 code mem inp fuel q):=by
 refine⟨_,_,_,_,rfl,?_⟩
 have hp00: ∀y,hp0 y= .no 0:=fun _=>rfl
 generalize hST:stA mem=SA
 have hSA:SA=[iv 0,uv 0,uv 0,uv 0,uv 0,uv 0,uv 0,uv 0,uv 0,uv 0,uv 0,uv 0,uv 0,uv 0,uv 0,uv 0,uv 0,.sl false 1 (rowW mem),iv 0,.sc (.string ⟨#[]⟩),iv 0,iv 0]:=hST.symm
 clear hST
 repeat' (first|(refine ZN ?_)|(refine Z2 ?_ ?_)|(intro h h';try simp[*,-h] at h'))
 all_goals
  refine Wo_new (code:=code) (mem:=mem) (inp:=inp) (data:=data) (by simp[hp00]) (by simp[hp00]) (by simp[hSA]) (by simp) (by simp[hSA,stA]) ?_
  intro hp1 hx hmo hoth
  have h16:hp1 ⟨0,16,2⟩= .no 0:=by rw[hoth _ rfl (by decide)];simp[hp00]
  have h19:hp1 ⟨0,19,18⟩= .no 0:=by rw[hoth _ rfl (by decide)];simp[hp00]
  have h8:=hoth ⟨0,8,0⟩ rfl (by decide)
  simp[hp00] at h8
  clear hoth hp00
  repeat' (first|(refine ZN ?_)|(refine Z2 ?_ ?_)|(intro h h';try simp[*,-h] at h'))
  all_goals
   refine Wo_steps (cells:=bxP code inp 0 [0,0,0,0,0,0,0,0,0,0,0,0,0,0,0,0] (.sl false 1 (rowW mem)) 0 0 0 false 1 0) (fuel:=fuel) (by simp[hx]) (by simp[h16]) (by simp) (by simp) ?_
   intro hp2 hb16 hoth2
   have hx2:=(hoth2 ⟨0,13,0⟩ rfl (by decide)).trans hx
   have hmo2:=(hoth2 ⟨0,13,26⟩ rfl (by decide)).trans hmo
   have h82:=(hoth2 ⟨0,8,0⟩ rfl (by decide)).trans h8
   have h192:=(hoth2 ⟨0,19,18⟩ rfl (by decide)).trans h19
   clear hoth2 hx hmo h8 h19 h16
   repeat' (first|(refine ZN ?_)|(refine Z2 ?_ ?_)|(intro h h';try simp[*,-h] at h'))
   all_goals exact⟨rfl,⟨by simp,by simp,by simp,⟨by simpa[startM,memA] using hx2,by simpa[startM] using hmo2,fun h=>by simp[startM] at h⟩,hb16,⟨_,h82⟩,h192⟩⟩
theorem w155b {code:List Int}{inp:ByteArray}{s:PS}{go gm gz:Nat}{fr:Nat→AV}{hp:Hp}(M:Mst code inp s go gm hp)(hrl:s.rg.length=16)(hol:s.out.length≤65536)(f9:fr 9= .ptr ⟨0,13,0⟩ 1 0)(f8:fr 8= .ptr ⟨0,8,0⟩ 1 0)(h8:hp ⟨0,8,0⟩= .box 1 [.sc (.int .i64 0),.sc (.int .u32 0),.sc (.int .u32 0),.sc (.int .u32 0),.sc (.int .u32 0),.sc (.int .u32 0),.sc (.int .u32 0),.sc (.int .u32 0),.sc (.int .u32 0),.sc (.int .u32 0),.sc (.int .u32 0),.sc (.int .u32 0),.sc (.int .u32 0),.sc (.int .u32 0),.sc (.int .u32 0),.sc (.int .u32 0),.sc (.int .u32 0),.own ⟨0,8,18⟩ gz 0,.sc (.int .i64 0),.sc (.string ⟨#[]⟩),.sc (.int .i64 0),.sc (.int .i64 0)] false)(h19:hp ⟨0,19,18⟩= .no 0)
  {R0 R1 R2 R3:Code} (hb:Tryz.f128.body=some (.seq R0 (.seq R1 (.seq (.seq R2 (.block 0 (.rangeFunc (.tmp 16) #[17] .skip (.block 1 .skip)))) (.seq R3 .ret))))):
  W Tryz.prog E00 0 (lim Tryz.prog E00 X00) (.seq R3 .ret) ⟨fr,hp⟩ (fun e q=>e= .ret∧ ∃hpf,(resultsP Tryz.prog q.fr Tryz.f128.resultTypes.toList Tryz.f128.results.toList).run q.hp=some ([resS s],hpf)):=by
 have hb':=Option.some.inj hb
 simp only[Code.seq.injEq] at hb'
 obtain⟨-,-,-,rfl,-⟩:=hb'
 clear hb
 obtain⟨pc,rg,mem,rd,out,steps,en,own⟩:=s
 obtain⟨x0,x1,x2,x3,x4,x5,x6,x7,x8,x9,x10,x11,x12,x13,x14,x15,rfl⟩:=reg16 hrl
 have hx:=M.bx
 have hmo:=M.out
 have hm:=M.mem
 simp only at hx hmo hm hol
 have key: ∃M1 hp',(lim Tryz.prog E00 X00).hpc 0 19 156 [.ptr ⟨0,13,0⟩ 1 0] hp=some (.agg (iv pc::uv x0::uv x1::uv x2::uv x3::uv x4::uv x5::uv x6::uv x7::uv x8::uv x9::uv x10::uv x11::uv x12::uv x13::uv x14::uv x15::M1::iv rd:: .sc (.string (outT out))::iv steps::iv en::[]),hp')∧(own=false→M1= .sl false 1 (rowW mem))∧(own=true→M1= .own ⟨0,19,18⟩ 1 mem.length∧hp' ⟨0,19,18⟩= .arr 1 1 22 (rowW mem) false)∧ ∀y:Nm,y.d=0→y.i≠13→y.i≠19→hp' y=hp y:=by
  rcases Nat.eq_zero_or_pos out.length with h0|h0
  ·obtain rfl:=List.eq_nil_of_length_eq_zero h0
   cases own with
   |false=>
    obtain⟨hp',e1,e2⟩:=m213se (gm:=gm) (out:=[]) hp hx hmo
    exact⟨_,hp',e1,fun _=>rfl,fun h=>(nomatch h),e2⟩
   |true=>
    obtain⟨hp',e1,e2,e3⟩:=m213we (out:=[]) hp hx hmo (hm rfl) h19
    exact⟨_,hp',e1,fun h=>(nomatch h),fun _=>⟨rfl,e2⟩,e3⟩
  ·cases own with
   |false=>
    obtain⟨hp',e1,e2⟩:=m213sn (gm:=gm) hp hx hmo h0 hol
    exact⟨_,hp',e1,fun _=>rfl,fun h=>(nomatch h),e2⟩
   |true=>
    obtain⟨hp',e1,e2,e3⟩:=m213wn hp hx hmo h0 hol (hm rfl) h19
    exact⟨_,hp',e1,fun h=>(nomatch h),fun _=>⟨rfl,e2⟩,e3⟩
 obtain⟨M1,hp',e1,e2,e3,e4⟩:=key
 have h82:=(e4 ⟨0,8,0⟩ rfl (by decide) (by decide)).trans h8
 clear e4 hx hmo hm M h8 h19 hol
 unfold resS
 simp only[List.map_cons,List.map_nil,List.cons_append,List.nil_append]
 have hml:(rowW mem).length=mem.length:=List.length_map ..
 have htk:(rowW mem).take mem.length=rowW mem:=List.take_of_length_le (by simp)
 generalize rowW mem=RM at*
 cases own
 ·have e5:=e2 rfl
  subst e5
  clear e2 e3
  repeat' (first|(refine ZN ?_)|(refine Z2 ?_ ?_)|(intro h h';try simp[*,-h] at h'))
  all_goals refine⟨rfl,?_⟩
  all_goals rw[show Tryz.f128.resultTypes.toList=[201] from rfl,show Tryz.f128.results.toList=[.cell 8 201] from rfl]
  all_goals (with_reducible apply exH)
  all_goals exact Zc
 ·obtain⟨e5,e6⟩:=e3 rfl
  subst e5
  clear e2 e3
  repeat' (first|(refine ZN ?_)|(refine Z2 ?_ ?_)|(intro h h';try simp[*,-h] at h'))
  all_goals refine⟨rfl,?_⟩
  all_goals rw[show Tryz.f128.resultTypes.toList=[201] from rfl,show Tryz.f128.results.toList=[.cell 8 201] from rfl]
  all_goals (with_reducible apply exH)
  all_goals exact Zc
end
section
open Go Go.Ab Go.Ma
theorem X00_ok :OrcOk Tryz.prog X00:=⟨fun f args rs h=>by simp[X00] at h,fun k d f args hp v hp' h=>by simp[X00] at h⟩
theorem mixed6 :Tryz.prog.follows .mixedOrders=true:=by kernel_rfl
theorem E00_law :EqLaw Tryz.prog E00.eq:=fun t h=>by simp at h
theorem E00_all :ELaw Tryz.prog E00:=⟨E00_law,fun _=>rfl⟩
theorem E0y_law (l:Nat):EqLaw Tryz.prog (E0y l).eq:=fun t h=>by simp at h
theorem L0_ok :OrcOk Tryz.prog (lim Tryz.prog E00 X00):=lim_ok mixed6 E00_all X00_ok
theorem startM_ok {n:Nat}{mem:List Int}(h: ∀x∈mem,Ma.U x):Ma.Ok n (startM mem):=
 {pc0:=Int.le_refl 0,pc1:=(by decide:(0:Int)≤4294967296),rl:=rfl
  ru:=fun x hx=>by simp[startM] at hx;subst hx;exact⟨by decide,by decide⟩
  mu:=h,rd:=Nat.zero_le _,ou:=fun x hx=>by simp[startM] at hx,ol:=Nat.zero_le _,en0:=Int.le_refl 0,en1:=(by decide:(0:Int)≤8)}
theorem go_calls {code mem:List Int}{inp:ByteArray}{data fuel:Int}(hcU: ∀x∈code,Ma.U x)(hmU: ∀x∈mem,Ma.U x)(hml:mem.length≤1048576)(hil:inp.size≤1048576)(hcl:code.length≤1048576)(hf:fuel≤4611686018427387904)
  {I:Nat→Prop} {w:World} {us:List Value} (hI: ∀b,I b→b<w.heap.size) (hgl:GlOk I w) (ha:AllR (RepA I w) [.agg [.sl false 1 (rowW code),iv data],.sc (.string inp),.agg (stA mem),iv fuel] us):
  Calls Tryz.prog 128 ⟨us⟩ w (fun e w'=> ∃u,e= .returned u∧CallPost Tryz.prog I w (rtys Tryz.prog 128) [resS (runP code (inpF inp) fuel.toNat (startM mem))] u w'):=by
 obtain⟨R0,R1,R2,R3,hb,hW⟩:=w155a (code:=code) (mem:=mem) (inp:=inp) (data:=data) (fuel:=fuel)
 have hsl:slotsIn Tryz.f128.ntmps (.seq R0 (.seq R1 (.seq (.seq R2 (.block 0 (.rangeFunc (.tmp 16) #[17] .skip (.block 1 .skip)))) (.seq R3 .ret))))=true:=by
  have h:=bodyOk_128
  unfold bodyOk at h
  rw[hb] at h
  simp only[Bool.and_eq_true] at h
  exact h.1.1
 simp only[slotsIn,Bool.and_eq_true] at hsl
 obtain⟨hs0,hs1,⟨hs2,_⟩,hs3,_⟩:=hsl
 refine fnM_ok Tryz.func128 hb bodyOk_128 rfl hI hgl ha fun a S0=>?_
 refine wpIn_seq (W.wpIn mixed6 E00_all L0_ok (W_seq_inv hW) hs0 S0 ?_)
 rintro e s a1 w1 hR S1
 cases e with
 |exit i=>exact nomatch hR.1
 |ret=>exact nomatch hR.1
 |panic v=>exact nomatch hR.1
 |normal=>
 refine wpIn_seq (W.wpIn mixed6 E00_all L0_ok (W_seq_inv hR) hs1 S1 ?_)
 rintro e s a2 w2 hR S2
 cases e with
 |exit i=>exact nomatch hR.1
 |ret=>exact nomatch hR.1
 |panic v=>exact nomatch hR.1
 |normal=>
 refine wpIn_seq (wpIn_seq (W.wpIn mixed6 E00_all L0_ok hR hs2 S2 ?_))
 rintro e s a3 w3 ⟨rfl,G⟩ S3
 obtain⟨gz,h8⟩:=G.b8
 have hok:Ma.Ok inp.size (startM mem):=startM_ok hmU
 refine wpIn_block (range_idle (g:= .tmp 16) (HP:=fun hp'=> ∃go gm,Mst code inp (runP code (inpF inp) fuel.toNat (startM mem)) go gm hp'∧ ∀y:Nm,y.d=0→y.i≠13→hp' y=s.hp y) Tryz.func191 (Go.Proofs.enters_of Tryz.func191 (by kernel_rfl) rfl) S3 G.f16 (by decide) ?_ ?_)
 ·intro l r I' K' m us' w1' G' ha' hk hL hid
  obtain⟨c,hc,hw⟩:=w284 (code:=code) (inp:=inp) (s:=startM mem) hok hml hil hcl fuel hf (Nat.zero_le _) hcU G.bx G.b16 l
  exact iter_ok (E:=E0y l) (call:=lim Tryz.prog E00 X00) Tryz.func191 hc bodyOk_191 rfl rfl G' ha' mixed6 (E0y_law l) L0_ok (fun l' h=>by
   have e:l'=l:=by simpa using h
   subst e
   exact⟨hk,r,hL,hid⟩) hw
 ·rintro D I' m' hp' a' w' ⟨go',gm',M',hoth⟩ hD hnI hnK hE' S'
  have hrok:=runP_ok (n:=inp.size) (code:=code) (inp:=inpF inp) (by omega) hcU (inpF_spec inp) fuel.toNat hok
  have hw:=w155b M' hrok.rl hrok.ol G.f9 G.f8 ((hoth _ rfl (by decide)).trans h8) ((hoth _ rfl (by decide)).trans G.n19) hb
  refine W.wpIn mixed6 E00_all L0_ok hw (by simp only[slotsIn,Bool.and_eq_true];exact⟨hs3,trivial⟩) S' ?_
  rintro e q a4 w4 ⟨rfl,hpf,hres⟩ S4
  exact⟨.inr rfl,D,I',m',hp',w',q,hpf,hD,hnK,hE',S4,hres⟩
end
end Go.Proofs.YtpedpkegmalgmaaGreatDoor.M
namespace Go.Proofs.YtpedpkegmalgmaaGreatDoor.K
section
open Go Go.RowKit Go.Shelf
attribute [local go_sem] Oper.semAt_some
def upto {α:Type}(f:Nat→α)(k:Nat):List α:=(List.range k).map f
theorem upto_succ {α:Type}(f:Nat→α)(k:Nat):upto f (k+1)=upto f k++[f k]:=by simp[upto,List.range_succ]
theorem upto_length {α:Type}(f:Nat→α)(k:Nat):(upto f k).length=k:=by simp[upto]
def byteAt (s:ByteArray)(i:Nat):Int:=(s.data.toList.getD i 0).toNat
def wordAt (s:ByteArray)(i:Nat):Int:=byteAt s i+256*byteAt s (i+1)+65536*byteAt s (i+2)+16777216*byteAt s (i+3)
theorem byteAt_eq {s:ByteArray}{i:Nat}(h:i<s.size):((s[i]'h).toNat:Int)=byteAt s i:=by
 unfold byteAt
 have hlt:i<s.data.size:=h
 rw[List.getD_eq_getElem?_getD,List.getElem?_eq_getElem (by simpa using hlt)]
 simp
 rfl
theorem byteAt_range (s:ByteArray)(i:Nat):0≤byteAt s i∧byteAt s i<256:=by
 unfold byteAt
 have:=(s.data.toList.getD i 0).toNat_lt
 omega
theorem or_add {x y:Nat}(i:Nat)(h:x<2^i):x|||y*2^i=x+y*2^i:=by
 rw[Nat.or_comm,←Nat.shiftLeft_eq,←Nat.shiftLeft_add_eq_or_of_lt h,Nat.shiftLeft_eq,Nat.add_comm]
theorem bits_or {x y:Nat}(hx:x<4294967296)(hy:y<4294967296):bits .or .u32 (x:Int) (y:Int)=((x|||y:Nat):Int):=by
 have h:(BitVec.ofInt 32 (x:Int)|||BitVec.ofInt 32 (y:Int)).toNat=x|||y:=by
  rw[BitVec.toNat_or,BitVec.ofInt_natCast,BitVec.ofInt_natCast,BitVec.toNat_ofNat,BitVec.toNat_ofNat,Nat.mod_eq_of_lt hx,Nat.mod_eq_of_lt hy]
 show IntKind.u32.wrap ((BitVec.ofInt 32 (x:Int)|||BitVec.ofInt 32 (y:Int)).toNat:Int)=_
 rw[h,IntKind.wrap_u32]
 have:x|||y<2^32:=Nat.or_lt_two_pow (by omega) (by omega)
 omega
theorem word_or {a b c d:Nat}(ha:a<256)(hb:b<256)(hc:c<256)(hd:d<256):
  bits .or .u32 (bits .or .u32 (bits .or .u32 ((a:Int)%4294967296) ((b:Int)%4294967296*256%4294967296)) ((c:Int)%4294967296*65536%4294967296)) ((d:Int)%4294967296*16777216%4294967296)=a+256*b+65536*c+16777216*d:=by
 have e1:(a:Int)%4294967296=(a:Nat):=by omega
 have e2:(b:Int)%4294967296*256%4294967296=((b*2^8:Nat):Int):=by omega
 have e3:(c:Int)%4294967296*65536%4294967296=((c*2^16:Nat):Int):=by omega
 have e4:(d:Int)%4294967296*16777216%4294967296=((d*2^24:Nat):Int):=by omega
 rw[e1,e2,e3,e4,bits_or (by omega) (by omega),or_add 8 (by omega),bits_or (by omega) (by omega),or_add 16 (by omega),bits_or (by omega) (by omega),or_add 24 (by omega)]
 omega
theorem word_bits {s:ByteArray}{i:Nat}(h0:i<s.size)(h1:i+1<s.size)(h2:i+2<s.size)(h3:i+3<s.size):
  bits .or .u32 (bits .or .u32 (bits .or .u32 (((s[i]'h0).toNat:Int)%4294967296) (((s[i+1]'h1).toNat:Int)%4294967296*256%4294967296)) (((s[i+2]'h2).toNat:Int)%4294967296*65536%4294967296)) (((s[i+3]'h3).toNat:Int)%4294967296*16777216%4294967296)=wordAt s i:=by
 rw[word_or (s[i]'h0).toNat_lt (s[i+1]'h1).toNat_lt (s[i+2]'h2).toNat_lt (s[i+3]'h3).toNat_lt]
 unfold wordAt
 rw[←byteAt_eq h0,←byteAt_eq h1,←byteAt_eq h2,←byteAt_eq h3]
def KpB (b:Nat)(A B:World):Prop:=B.heap[b]?=A.heap[b]?
theorem KpB.cell {b i:Nat}{A B:World}(h:KpB b A B):B.cell? ⟨b,i,none⟩=A.cell? ⟨b,i,none⟩:=by
 simp only[World.cell?,show B.heap[b]?=A.heap[b]? from h]
theorem grown_drewN (W:World)(k:Nat):W.grownBy (W.drewN k) none:=⟨rfl,rfl,rfl,Nat.le_refl _,fun _ _ _=>rfl⟩
theorem below_drewN' (B:Nat)(W:World)(k:Nat):Below B W (W.drewN k):=⟨rfl,rfl,rfl,Nat.le_refl _,fun _ _=>rfl⟩
theorem words1_in (F:Fence)(n:Nat)(h36:F.fn 153)(hro:F.round=none)(hn:1≤n)(l Bs:Nat)(s:ByteArray)(hs:s.size≤1048576)(J Jx:List Int→World→Prop)(f:Nat→Int)(hf: ∀k,f k=wordAt s (4*k))(hJ: ∀pre W k,J pre W→J pre (W.drewN k))
  (hY: ∀pre x W,J pre W→pre.length<s.size/4→YieldAt F (n - 1) Tryz.prog l #[.int .u32 x] W fun e W'=>
   (e= .returned (.bool true)∧J (pre++[x]) W'∧KpB Bs W W')∨(e= .returned (.bool false)∧Jx (pre++[x]) W'))
  (W:World) (hBs:W.cell? ⟨Bs,0,none⟩=some (.string s)) (h0:J [] W):
  CallsIn F n Tryz.prog 153 #[.func (.yield l) #[] #[],.pointer (some ⟨Bs,0,none⟩)] W fun e W'=>(∃v,e= .returned v)∧
   ((∃ys,ys=upto f (s.size/4)∧J ys W')∨(∃pre,(∃k,k≤s.size/4∧pre=upto f k)∧Jx pre W')):=by
 refine callsIn_of_wp Tryz.func153 rfl h36 ?_ hro
 simp only[Tryz.ntmps153,List.size_toArray,List.length_cons,List.length_nil,Nat.reduceAdd,Nat.reduceSub,Array.replicate_succ,Array.replicate_zero,List.push_toArray,List.append_toArray,List.nil_append,List.cons_append]
 gi_wp2
 gi_loopw [3] (fun i wr=> ∃k:Nat,k≤s.size/4∧i= .int .i64 (4*(k:Int))∧J (upto f k) wr∧KpB Bs W wr)
  (fun i _=>s.size - (intOf i).toNat)
 case atStart=>exact⟨0,Nat.zero_le _,rfl,h0,rfl⟩
 case round=>
  obtain⟨k,hk,rfl,hJs,hnx⟩:=hrel
  have hcx:wr.cell? ⟨Bs,0,none⟩=some (.string s):=(hnx.cell (i:=0)).trans hBs
  by_cases hlt:k<s.size/4
  ·have hlt4:4*k+4≤s.size:=by omega
   have p0:(0:Int)≤4*(k:Int):=by omega
   have p1:(0:Int)≤4*(k:Int)+1:=by omega
   have p2:(0:Int)≤4*(k:Int)+2:=by omega
   have p3:(0:Int)≤4*(k:Int)+3:=by omega
   have q0:4*(k:Int)<s.size:=by omega
   have q1:4*(k:Int)+1<s.size:=by omega
   have q2:4*(k:Int)+2<s.size:=by omega
   have q3:4*(k:Int)+3<s.size:=by omega
   gi_wp2
   refine wpIn_region_quiet_lit hro (by kernel_rfl) (by kernel_rfl) ?_
   repeat (gi_big_quiet_step (fail))
   refine wpQuietIn_nil ?_
   intro _ hw'
   obtain⟨nq,hw''⟩:=hw'
   subst hw''
   rw[word_bits (by omega) (by omega) (by omega) (by omega),←hf]
   clear hf
   have hJq:=hJ _ _ nq hJs
   have hnq:KpB Bs W (wr.drewN nq):=hnx
   generalize wr.drewN nq=Wq at hJq hnq⊢
   obtain⟨fn,tmps,assign,body,hy,hR⟩:=hY _ (f k) Wq hJq (by rw[upto_length];exact hlt)
   gi_wp2
   refine hR.mono ?_
   rintro e W3 (⟨rfl,hJ3,hk3⟩|⟨rfl,hJx3⟩)
   ·gi_wp2
    go_roundw
    case rel=>exact⟨k+1,by omega,by simp;omega,by rw[upto_succ];exact hJ3,Eq.trans hk3 hnq⟩
    case measure=>simp[intOf];omega
   ·gi_wp2
    refine bodyPost_ret (results_none rfl _ _ _) rfl ?_
    exact⟨⟨_,rfl⟩,.inr ⟨_,⟨k+1,by omega,(upto_succ _ _).symm⟩,hJx3⟩⟩
  ·obtain rfl:k=s.size/4:=by omega
   have p4: ¬4*((s.size/4:Nat):Int)+4≤s.size:=by omega
   gi_wp2
   go_end0
   exact⟨⟨_,rfl⟩,.inl hJs⟩
end
section
open Go Go.RowKit Go.Shelf
attribute [local go_sem] Oper.semAt_some
def wordsOf (s:ByteArray):List Int:=upto (fun k=>wordAt s (4*k)) (s.size/4)
theorem wordsOf_length (s:ByteArray):(wordsOf s).length=s.size/4:=upto_length _ _
theorem upto_take {α:Type}(f:Nat→α){k n:Nat}(h:k≤n):upto f k<+:upto f n:=by
 unfold upto
 rw[←Nat.add_sub_of_le h,List.range_add,List.map_append]
 exact List.prefix_append _ _
theorem words_in (F:Fence)(n:Nat)(h30:F.fn 127)(hro:F.round=none)(s:ByteArray)(w:World):
  CallsIn F n Tryz.prog 127 #[.string s] w fun e w'=>e= .returned (.func (.func 153) #[] #[.pointer (some ⟨w.heap.size,0,none⟩)])∧w'=w.alloc (.cells #[.string s] 9):=by
 refine callsIn_of_wp Tryz.func127 rfl h30 ?_ hro
 simp only[Tryz.ntmps127,List.size_toArray,List.length_cons,List.length_nil,Nat.reduceAdd,Nat.reduceSub,Array.replicate_succ,Array.replicate_zero,List.push_toArray,List.append_toArray,List.nil_append,List.cons_append]
 gi_wp2
 go_ret
 exact⟨rfl,rfl⟩
theorem words_stopsB (F:Fence)(n:Nat)(h36:F.fn 153)(hro:F.round=none)(hn:1≤n)(Bs:Nat)(s:ByteArray)(hs:s.size≤1048576)(w:World)(hBs:Bs<w.heap.size)(hc:w.cell? ⟨Bs,0,none⟩=some (.string s)):
  SeqStopsK F n Tryz.prog 153 #[.pointer (some ⟨Bs,0,none⟩)] (fun x:Int=> #[Value.int .u32 x]) (KpB Bs) (fun ys=>ys=wordsOf s) (fun pre=>pre<+:wordsOf s) (s.size/4) w:=fun l J Jx W hW hJ _ hY h0=>by
 refine(words1_in F n h36 hro hn l Bs s hs J Jx (fun k=>wordAt s (4*k)) (fun _=>rfl) (fun pre W k h=>hJ pre W (W.drewN k) none h (grown_drewN W k) (fun r e=>by cases e)) hY W ((hW.cell (p:=⟨Bs,0,none⟩) hBs).trans hc) h0).mono ?_
 rintro e W' ⟨he,⟨ys,rfl,hj⟩|⟨pre,⟨k,hk,rfl⟩,hj⟩⟩
 ·exact⟨he,.inl ⟨_,rfl,hj⟩⟩
 ·exact⟨he,.inr ⟨_,upto_take _ hk,hj⟩⟩
theorem words_stops (F:Fence)(n:Nat)(h36:F.fn 153)(hro:F.round=none)(hn:1≤n)(Bs n₀:Nat)(s:ByteArray)(hs:s.size≤1048576)(w:World)(hBs:Bs<w.heap.size)(hB0:Bs<n₀)(hn₀:n₀≤w.heap.size)(hc:w.cell? ⟨Bs,0,none⟩=some (.string s)):
  SeqStopsK F n Tryz.prog 153 #[.pointer (some ⟨Bs,0,none⟩)] (fun x:Int=> #[Value.int .u32 x]) (Below n₀) (fun ys=>ys=wordsOf s) (fun pre=>pre<+:wordsOf s) (s.size/4) w:=fun l J Jx W hW hJ hJx hY h0=>
 words_stopsB F n h36 hro hn Bs s hs w hBs hc l J Jx W hW hJ hJx (fun pre x W1 h1 h2=>by
  obtain⟨fn,tmps,assign,body,hy,hR⟩:=hY pre x W1 h1 h2
  refine⟨fn,tmps,assign,body,hy,hR.mono ?_⟩
  rintro e W' (⟨h3,h4,h5⟩|h3)
  ·exact .inl ⟨h3,h4,h5.block Bs hB0⟩
  ·exact .inr h3) h0
theorem info36 :(Tryz.prog.info? 22).map (fun i=>(i.zero,i.size,i.bytes))=some (some (.int .u32 0),1,4):=by kernel_rfl
abbrev wrdF (B:Nat):Value:= .func (.func 153) #[] #[.pointer (some ⟨B,0,none⟩)]
theorem appendSeq_in (F:Fence)(n:Nat)(h35:F.fn 152)(h36:F.fn 153)(hro:F.round=none)(hn:3≤n)(Bs:Nat)(s:ByteArray)(hs:s.size≤1048576)(w:World)(hBs:Bs<w.heap.size)(hc:w.cell? ⟨Bs,0,none⟩=some (.string s)):
  CallsIn F n Tryz.prog 152 #[.slice none 0 0,wrdF Bs] w fun e W'=> ∃v,e= .returned v∧W'.ownsRow w.heap.size 22 1 v (wordsOf s).length ((wordsOf s).map (Value.int .u32))∧Below w.heap.size w W':=by
 have h1:1≤n:=by omega
 have hwl:=wordsOf_length s
 obtain⟨i0,hi,hz0,hz1,hz2⟩:=info_parts info36
 refine callsIn_of_wp_marks Tryz.func152 rfl h35 ?_ hro
 simp only[Tryz.ntmps152,List.size_toArray,List.length_cons,List.length_nil,Nat.reduceAdd,Nat.reduceSub,Array.replicate_succ,Array.replicate_zero,List.push_toArray,List.append_toArray,List.nil_append,List.cons_append]
 gi_wp2
 have bO:=Boxed.new w 85 (.slice none 0 0)
 have hB0:Below w.heap.size w (w.alloc (.cells #[.slice none 0 0] 85)):=(Below.refl _ w).alloc (Nat.le_refl _) _
 refine wpIn_rangeFunc_ownG hro h1 (gf:=153) (lb:= #[.pointer (some ⟨Bs,0,none⟩)]) rfl h36 (enters_of Tryz.func153 (by kernel_rfl) rfl)
  (words_stops F (n - 1) h36 hro (by omega) Bs w.heap.size s hs _ (by simp;omega) hBs (by simp) ((hB0.cell (p:=⟨Bs,0,none⟩) hBs).trans hc)) belowK_t (belowK_b (by simp)) (Below.refl _ _) (fun _=>rfl)
  (fun pre W=>(∃v,Boxed W w.heap.size 85 v∧W.ownsRow w.heap.size 22 1 v pre.length (pre.map (Value.int .u32))∧True)∧Below w.heap.size w W)
  (fun _ _ _=>False)
  (OwnFrom.and (Own.from (holdsRow_own w.heap.size w.heap.size 85 22 1 (fun pre:List Int=>pre.length) (fun pre:List Int=>pre.map (Value.int .u32)) (fun _ _=>True)) _) (ownFrom_below (Nat.le_refl _) (by simp<;>omega)))
  (fun _ _ _ _ _ hs _ _=>hs)
  ⟨⟨_,bO,World.ownsRow_nil _ _ _ _,trivial⟩,hB0⟩
  (fun x=>{tmps:= #[.slice none 0 0,wrdF Bs,.pointer (some ⟨w.heap.size,0,none⟩),undef,.slice none 0 0,.int .u32 x,wrdF Bs,.int .u32 x,undef,undef,undef,undef,undef],defers:=[]}) ?assign ?body ?done ?stop
 case assign=>
  intro l x W K hK
  gi_wp2
  exact hK
 case body=>
  rintro l pre x W ⟨⟨v,hv,hrow,_⟩,hB⟩ hlt
  have hc:=hv.cell
  have hmx:pre.length+1≤maxLen:=by unfold maxLen;omega
  gi_wp2_with (gi_at_builtin;refine wpListIn_append_own _ rfl _ _ 85 rfl w.heap.size 22 i0 (.int .u32 0) 1 4 Tryz.underlying85 hi hz0 hz1 hz2 rfl (by decide) _ _ _ rfl (hrow.alloc _) ⟨W.heap.size,0,none⟩ 1 1 [.int .u32 x] rfl rfl (cell_one_new _ _ _) (by simp[Value.oneCell']) (by omega) (by omega) (by have:=hB.size;simp;omega) ?_;intro v' w1 hown' hgrow _;obtain⟨g',cap',rfl⟩:=ownsRow_succ hown';obtain⟨hv1,hv2,hr2,hk2,hb2⟩:=hv.appended (by decide) hrow hB.size (Nat.le_refl _) hown' hgrow;have hc1:=hv1.cell;have hf1:=hv1.frozen)
  exact⟨hk2.from _,hb2,⟨_,hv2,by simpa using hr2,trivial⟩,hB.trans hb2⟩
 case done=>
  rintro D ys W hD rfl ⟨⟨v,hv,hrow,_⟩,hB⟩ hK
  have hc:=hv.cell
  gi_wp2
  refine⟨by simp,.inl ⟨_,_,rfl,run_takeDeferred hK,?_⟩⟩
  exact⟨_,results_tmp rfl _ _ _,v,rfl,ownsRow_putObj hrow _ hK rfl,hB.trans (belowK_b (w:=w) (Nat.le_refl _) W D _ _ (by simp at hD;omega) hK rfl rfl)⟩
 case stop=>
  rintro D c pre W _ _ h _
  exact h.elim
end
end Go.Proofs.YtpedpkegmalgmaaGreatDoor.K
