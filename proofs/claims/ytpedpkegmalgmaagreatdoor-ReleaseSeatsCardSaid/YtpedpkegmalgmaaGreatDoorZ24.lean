/- A part of the proof: I7, I8, I9, I10, I11. -/
import Derived.Test.YtpedpkegmalgmaaGreatDoorZ23
set_option linter.unusedSimpArgs false
set_option linter.unusedVariables false
set_option maxRecDepth 200000
set_option maxHeartbeats 8000000
namespace Go.Proofs.YtpedpkegmalgmaaGreatDoor.M
section
open Go Go.Ab Go.Ma
attribute [-simp] Prog.bind getCs putCs
attribute [local simp ↓] run_bind
attribute [local simp ↓] runF_bind
attribute [local simp] run_getCsN runF_getCsN facetsC putCs_one run_putCsN
attribute [local simp] take1 bx_len bx_2 bx_19 bx_20 bx_21 bx_22 bx_23 bx_24 bx_25 bx_reg bs_2 bs_19 bs_20 bs_22 bs_23 bs_24 bs_25 bs_reg bx_regg bg_2 bg_19 bg_20 bg_21 bg_22 bg_23 bg_24 bg_25
variable {code:List Int}{inp:ByteArray}{pc:Int}{rg:List Int}{M:AV}{rd steps en:Int}{o:Bool}{go no:Nat}
theorem rowW_set (l:List Int)(i:Nat)(x:Int):(rowW l).set i [uv x]=rowW (l.set i x):=by simp[List.map_set]
theorem rowW_len (l:List Int):(rowW l).length=l.length:=List.length_map ..
theorem m413 (x0:Int)(l:List Int)(hl:l.length+1≤1048576):(lim Tryz.prog E00 X00).dat 344 [.sl false 1 ([uv x0]::rowW l)]=some [.vec 1 ([uv x0]::rowW l)]:=by
 refine fnW Tryz.func344 rfl rfl bodyOk_344 rfl rtys_344 rfl ?_
 have n1:(l.length+1)*4≤140737488355328:=by omega
 have n2:l.length≤9223372036854775806:=by omega
 have n3:l.length+1≤9223372036854775807:=by omega
 repeat' (first|(refine ZN ?_)|(refine Z2 ?_ ?_)|(intro h h';try simp[*,-h] at h'))
 all_goals rfl
theorem m413' (l:List Int)(h0:0<l.length)(hl:l.length≤1048576):(lim Tryz.prog E00 X00).dat 344 [.sl false 1 (rowW l)]=some [.vec 1 (rowW l)]:=by
 match l,h0 with
 |x::l,_=>exact m413 x l (by simpa using hl)
theorem m400_27i (na nb nc at_:Nat)(xb:Int)(hnc:nc≤65535)(hat:(xb+nc)%4294967296=at_)(x:Int)(hcx:code[at_]?=some x)(hrl:rg.length=16)(d:Nat)(hp1:Hp)(hx:hp1 ⟨0,13,0⟩= .box 1 (bxP code inp pc rg M rd steps en o go no) false)(ha:na<16)(hb16:nb<16)(hgb:rg[nb]?=some xb):
  ∃hp',(lim Tryz.prog E00 X00).hpc 3 d 316 [.ptr ⟨0,13,0⟩ 1 0,.agg [iv 27,iv na,iv nb,iv nc]] hp1=some (bv true,hp')∧hp' ⟨0,13,0⟩= .box 1 (bxP code inp pc (rg.set na x) M rd steps en o go no) false∧ ∀y:Nm,y.d=0→y≠⟨0,13,0⟩→hp' y=hp1 y:=by
 refine hpcZ Tryz.func316 rfl rfl bodyOk_316 rfl rfl ?_
 have hA:=regA ha
 have hB:=regA hb16
 have hgb':=getV hgb
 have w0:IntKind.u32.wrap (nc:Int)=nc:=by rw[IntKind.wrap_u32];omega
 have w1:IntKind.u32.wrap (xb+nc)=(at_:Int):=by rw[IntKind.wrap_u32];exact hat
 have w2:IntKind.i64.wrap (at_:Int)=at_:=wrap64 (by omega) (by omega)
 clear hat
 have q1: ¬(code.length:Int)≤at_:=by have:=(List.getElem?_eq_some_iff.1 hcx).1;omega
 have q2:at_<code.length:=(List.getElem?_eq_some_iff.1 hcx).1
 have q3:=getV hcx
 repeat' (first|(refine ZN ?_)|(refine Z2 ?_ ?_)|(intro h h';try simp[*,-h] at h'))
 all_goals exact⟨by simp,_,_,rfl,rfl,by simp[*],Zya⟩
theorem m400_27o (na nb nc at_:Nat)(xb:Int)(hnc:nc≤65535)(hat:(xb+nc)%4294967296=at_)(hcx:code.length≤at_)(hrl:rg.length=16)(d:Nat)(hp1:Hp)(hx:hp1 ⟨0,13,0⟩= .box 1 (bxP code inp pc rg M rd steps en o go no) false)(ha:na<16)(hb16:nb<16)(hgb:rg[nb]?=some xb):
  ∃hp',(lim Tryz.prog E00 X00).hpc 3 d 316 [.ptr ⟨0,13,0⟩ 1 0,.agg [iv 27,iv na,iv nb,iv nc]] hp1=some (bv false,hp')∧hp' ⟨0,13,0⟩= .box 1 (bxP code inp pc rg M rd steps en o go no) false∧ ∀y:Nm,y.d=0→y≠⟨0,13,0⟩→hp' y=hp1 y:=by
 refine hpcZ Tryz.func316 rfl rfl bodyOk_316 rfl rfl ?_
 have hA:=regA ha
 have hB:=regA hb16
 have hgb':=getV hgb
 have w0:IntKind.u32.wrap (nc:Int)=nc:=by rw[IntKind.wrap_u32];omega
 have w1:IntKind.u32.wrap (xb+nc)=(at_:Int):=by rw[IntKind.wrap_u32];exact hat
 have w2:IntKind.i64.wrap (at_:Int)=at_:=wrap64 (by omega) (by omega)
 clear hat
 have q1:(code.length:Int)≤at_:=by omega
 repeat' (first|(refine ZN ?_)|(refine Z2 ?_ ?_)|(intro h h';try simp[*,-h] at h'))
 all_goals exact⟨by simp,_,_,rfl,rfl,by simp[*],Zya⟩
theorem m400_16is (na nb nc at_:Nat)(xb:Int)(hnc:nc≤65535)(hat:(xb+nc)%4294967296=at_)(mem:List Int)(gm:Nat)(hM:M= .sl false 1 (rowW mem))(x:Int)(hcx:mem[at_]?=some x)(hrl:rg.length=16)(d:Nat)(hp1:Hp)(hx:hp1 ⟨0,13,0⟩= .box 1 (bxP code inp pc rg M rd steps en o go no) false)(ha:na<16)(hb16:nb<16)(hgb:rg[nb]?=some xb):
  ∃hp',(lim Tryz.prog E00 X00).hpc 3 d 316 [.ptr ⟨0,13,0⟩ 1 0,.agg [iv 16,iv na,iv nb,iv nc]] hp1=some (bv true,hp')∧hp' ⟨0,13,0⟩= .box 1 (bxP code inp pc (rg.set na x) M rd steps en o go no) false∧ ∀y:Nm,y.d=0→y≠⟨0,13,0⟩→hp' y=hp1 y:=by
 refine hpcZ Tryz.func316 rfl rfl bodyOk_316 rfl rfl ?_
 have hA:=regA ha
 have hB:=regA hb16
 have hgb':=getV hgb
 subst hM
 have hml:=rowW_len mem
 have w0:IntKind.u32.wrap (nc:Int)=nc:=by rw[IntKind.wrap_u32];omega
 have w1:IntKind.u32.wrap (xb+nc)=(at_:Int):=by rw[IntKind.wrap_u32];exact hat
 have w2:IntKind.i64.wrap (at_:Int)=at_:=wrap64 (by omega) (by omega)
 clear hat
 have q1: ¬(mem.length:Int)≤at_:=by have:=(List.getElem?_eq_some_iff.1 hcx).1;omega
 have q2:at_<mem.length:=(List.getElem?_eq_some_iff.1 hcx).1
 have q3:=getV hcx
 repeat' (first|(refine ZN ?_)|(refine Z2 ?_ ?_)|(intro h h';try simp[*,-h] at h'))
 all_goals exact⟨by simp,_,_,rfl,rfl,by simp[*],Zya⟩
theorem m400_16os (na nb nc at_:Nat)(xb:Int)(hnc:nc≤65535)(hat:(xb+nc)%4294967296=at_)(mem:List Int)(gm:Nat)(hM:M= .sl false 1 (rowW mem))(hcx:mem.length≤at_)(hrl:rg.length=16)(d:Nat)(hp1:Hp)(hx:hp1 ⟨0,13,0⟩= .box 1 (bxP code inp pc rg M rd steps en o go no) false)(ha:na<16)(hb16:nb<16)(hgb:rg[nb]?=some xb):
  ∃hp',(lim Tryz.prog E00 X00).hpc 3 d 316 [.ptr ⟨0,13,0⟩ 1 0,.agg [iv 16,iv na,iv nb,iv nc]] hp1=some (bv false,hp')∧hp' ⟨0,13,0⟩= .box 1 (bxP code inp pc rg M rd steps en o go no) false∧ ∀y:Nm,y.d=0→y≠⟨0,13,0⟩→hp' y=hp1 y:=by
 refine hpcZ Tryz.func316 rfl rfl bodyOk_316 rfl rfl ?_
 have hA:=regA ha
 have hB:=regA hb16
 have hgb':=getV hgb
 subst hM
 have hml:=rowW_len mem
 have w0:IntKind.u32.wrap (nc:Int)=nc:=by rw[IntKind.wrap_u32];omega
 have w1:IntKind.u32.wrap (xb+nc)=(at_:Int):=by rw[IntKind.wrap_u32];exact hat
 have w2:IntKind.i64.wrap (at_:Int)=at_:=wrap64 (by omega) (by omega)
 clear hat
 have q1:(mem.length:Int)≤at_:=by omega
 repeat' (first|(refine ZN ?_)|(refine Z2 ?_ ?_)|(intro h h';try simp[*,-h] at h'))
 all_goals exact⟨by simp,_,_,rfl,rfl,by simp[*],Zya⟩
theorem m400_17os (na nb nc at_:Nat)(xb:Int)(hnc:nc≤65535)(hat:(xb+nc)%4294967296=at_)(mem:List Int)(gm:Nat)(hM:M= .sl false 1 (rowW mem))(hcx:mem.length≤at_)(hrl:rg.length=16)(d:Nat)(hp1:Hp)(hx:hp1 ⟨0,13,0⟩= .box 1 (bxP code inp pc rg M rd steps en o go no) false)(ha:na<16)(hb16:nb<16)(hgb:rg[nb]?=some xb):
  ∃hp',(lim Tryz.prog E00 X00).hpc 3 d 316 [.ptr ⟨0,13,0⟩ 1 0,.agg [iv 17,iv na,iv nb,iv nc]] hp1=some (bv false,hp')∧hp' ⟨0,13,0⟩= .box 1 (bxP code inp pc rg M rd steps en o go no) false∧ ∀y:Nm,y.d=0→y≠⟨0,13,0⟩→hp' y=hp1 y:=by
 refine hpcZ Tryz.func316 rfl rfl bodyOk_316 rfl rfl ?_
 have hA:=regA ha
 have hB:=regA hb16
 have hgb':=getV hgb
 subst hM
 have hml:=rowW_len mem
 have w0:IntKind.u32.wrap (nc:Int)=nc:=by rw[IntKind.wrap_u32];omega
 have w1:IntKind.u32.wrap (xb+nc)=(at_:Int):=by rw[IntKind.wrap_u32];exact hat
 have w2:IntKind.i64.wrap (at_:Int)=at_:=wrap64 (by omega) (by omega)
 clear hat
 have q1:(mem.length:Int)≤at_:=by omega
 repeat' (first|(refine ZN ?_)|(refine Z2 ?_ ?_)|(intro h h';try simp[*,-h] at h'))
 all_goals exact⟨by simp,_,_,rfl,rfl,by simp[*],Zya⟩
theorem m400_16iw (na nb nc at_:Nat)(xb:Int)(hnc:nc≤65535)(hat:(xb+nc)%4294967296=at_)(mem:List Int)(gm:Nat)(hM:M= .own ⟨0,13,20⟩ gm mem.length)(x:Int)(hcx:mem[at_]?=some x)(hrl:rg.length=16)(d:Nat)(hp1:Hp)(hx:hp1 ⟨0,13,0⟩= .box 1 (bxP code inp pc rg M rd steps en o go no) false)(ha:na<16)(hb16:nb<16)(hgb:rg[nb]?=some xb)(hm:hp1 ⟨0,13,20⟩= .arr gm 1 22 (rowW mem) false):
  ∃hp',(lim Tryz.prog E00 X00).hpc 3 d 316 [.ptr ⟨0,13,0⟩ 1 0,.agg [iv 16,iv na,iv nb,iv nc]] hp1=some (bv true,hp')∧hp' ⟨0,13,0⟩= .box 1 (bxP code inp pc (rg.set na x) M rd steps en o go no) false∧ ∀y:Nm,y.d=0→y≠⟨0,13,0⟩→hp' y=hp1 y:=by
 refine hpcZ Tryz.func316 rfl rfl bodyOk_316 rfl rfl ?_
 have hA:=regA ha
 have hB:=regA hb16
 have hgb':=getV hgb
 subst hM
 have hml:=rowW_len mem
 have htk:(rowW mem).take mem.length=rowW mem:=List.take_of_length_le (by simp)
 have w0:IntKind.u32.wrap (nc:Int)=nc:=by rw[IntKind.wrap_u32];omega
 have w1:IntKind.u32.wrap (xb+nc)=(at_:Int):=by rw[IntKind.wrap_u32];exact hat
 have w2:IntKind.i64.wrap (at_:Int)=at_:=wrap64 (by omega) (by omega)
 clear hat
 have q1: ¬(mem.length:Int)≤at_:=by have:=(List.getElem?_eq_some_iff.1 hcx).1;omega
 have q2:at_<mem.length:=(List.getElem?_eq_some_iff.1 hcx).1
 have q3:=getV hcx
 repeat' (first|(refine ZN ?_)|(refine Z2 ?_ ?_)|(intro h h';try simp[*,-h] at h'))
 all_goals exact⟨by simp,_,_,rfl,rfl,by simp[*],Zya⟩
theorem m400_16ow (na nb nc at_:Nat)(xb:Int)(hnc:nc≤65535)(hat:(xb+nc)%4294967296=at_)(mem:List Int)(gm:Nat)(hM:M= .own ⟨0,13,20⟩ gm mem.length)(hcx:mem.length≤at_)(hrl:rg.length=16)(d:Nat)(hp1:Hp)(hx:hp1 ⟨0,13,0⟩= .box 1 (bxP code inp pc rg M rd steps en o go no) false)(ha:na<16)(hb16:nb<16)(hgb:rg[nb]?=some xb)(hm:hp1 ⟨0,13,20⟩= .arr gm 1 22 (rowW mem) false):
  ∃hp',(lim Tryz.prog E00 X00).hpc 3 d 316 [.ptr ⟨0,13,0⟩ 1 0,.agg [iv 16,iv na,iv nb,iv nc]] hp1=some (bv false,hp')∧hp' ⟨0,13,0⟩= .box 1 (bxP code inp pc rg M rd steps en o go no) false∧ ∀y:Nm,y.d=0→y≠⟨0,13,0⟩→hp' y=hp1 y:=by
 refine hpcZ Tryz.func316 rfl rfl bodyOk_316 rfl rfl ?_
 have hA:=regA ha
 have hB:=regA hb16
 have hgb':=getV hgb
 subst hM
 have hml:=rowW_len mem
 have htk:(rowW mem).take mem.length=rowW mem:=List.take_of_length_le (by simp)
 have w0:IntKind.u32.wrap (nc:Int)=nc:=by rw[IntKind.wrap_u32];omega
 have w1:IntKind.u32.wrap (xb+nc)=(at_:Int):=by rw[IntKind.wrap_u32];exact hat
 have w2:IntKind.i64.wrap (at_:Int)=at_:=wrap64 (by omega) (by omega)
 clear hat
 have q1:(mem.length:Int)≤at_:=by omega
 repeat' (first|(refine ZN ?_)|(refine Z2 ?_ ?_)|(intro h h';try simp[*,-h] at h'))
 all_goals exact⟨by simp,_,_,rfl,rfl,by simp[*],Zya⟩
theorem m400_17ow (na nb nc at_:Nat)(xb:Int)(hnc:nc≤65535)(hat:(xb+nc)%4294967296=at_)(mem:List Int)(gm:Nat)(hM:M= .own ⟨0,13,20⟩ gm mem.length)(hcx:mem.length≤at_)(hrl:rg.length=16)(d:Nat)(hp1:Hp)(hx:hp1 ⟨0,13,0⟩= .box 1 (bxP code inp pc rg M rd steps en o go no) false)(ha:na<16)(hb16:nb<16)(hgb:rg[nb]?=some xb)(hm:hp1 ⟨0,13,20⟩= .arr gm 1 22 (rowW mem) false):
  ∃hp',(lim Tryz.prog E00 X00).hpc 3 d 316 [.ptr ⟨0,13,0⟩ 1 0,.agg [iv 17,iv na,iv nb,iv nc]] hp1=some (bv false,hp')∧hp' ⟨0,13,0⟩= .box 1 (bxP code inp pc rg M rd steps en o go no) false∧ ∀y:Nm,y.d=0→y≠⟨0,13,0⟩→hp' y=hp1 y:=by
 refine hpcZ Tryz.func316 rfl rfl bodyOk_316 rfl rfl ?_
 have hA:=regA ha
 have hB:=regA hb16
 have hgb':=getV hgb
 subst hM
 have hml:=rowW_len mem
 have htk:(rowW mem).take mem.length=rowW mem:=List.take_of_length_le (by simp)
 have w0:IntKind.u32.wrap (nc:Int)=nc:=by rw[IntKind.wrap_u32];omega
 have w1:IntKind.u32.wrap (xb+nc)=(at_:Int):=by rw[IntKind.wrap_u32];exact hat
 have w2:IntKind.i64.wrap (at_:Int)=at_:=wrap64 (by omega) (by omega)
 clear hat
 have q1:(mem.length:Int)≤at_:=by omega
 repeat' (first|(refine ZN ?_)|(refine Z2 ?_ ?_)|(intro h h';try simp[*,-h] at h'))
 all_goals exact⟨by simp,_,_,rfl,rfl,by simp[*],Zya⟩
end
section
open Go Go.Ab Go.Ma
attribute [-simp] Prog.bind getCs putCs
attribute [local simp ↓] run_bind
attribute [local simp ↓] runF_bind
attribute [local simp] run_getCsN runF_getCsN facetsC putCs_one run_putCsN
attribute [local simp] take1 bx_len bx_2 bx_19 bx_20 bx_21 bx_22 bx_23 bx_24 bx_25 bx_reg bs_2 bs_19 bs_20 bs_22 bs_23 bs_24 bs_25 bs_reg bx_regg bg_2 bg_19 bg_20 bg_21 bg_22 bg_23 bg_24 bg_25
variable {code:List Int}{inp:ByteArray}{pc:Int}{rg:List Int}{M:AV}{rd steps en:Int}{o:Bool}{go no:Nat}
theorem m400_17is (na nb nc at_:Nat)(xa xb:Int)(hnc:nc≤65535)(hat:(xb+nc)%4294967296=at_)(mem:List Int)(gm:Nat)(hM:M= .sl false 1 (rowW mem))(ho:o=false)(hml0:mem.length≤1048576)(hcx:at_<mem.length)(hrl:rg.length=16)(d:Nat)(hp1:Hp)(hx:hp1 ⟨0,13,0⟩= .box 1 (bxP code inp pc rg M rd steps en o go no) false)(ha:na<16)(hb16:nb<16)(hga:rg[na]?=some xa)(hgb:rg[nb]?=some xb):
  ∃hp',(lim Tryz.prog E00 X00).hpc 3 d 316 [.ptr ⟨0,13,0⟩ 1 0,.agg [iv 17,iv na,iv nb,iv nc]] hp1=some (bv true,hp')∧hp' ⟨0,13,0⟩= .box 1 (bxP code inp pc rg (.own ⟨0,13,20⟩ ((hp1 ⟨0,13,20⟩).gen+1) mem.length) rd steps en true go no) false∧hp' ⟨0,13,20⟩= .arr ((hp1 ⟨0,13,20⟩).gen+1) 1 22 (rowW (mem.set at_ xa)) false∧ ∀y:Nm,y.d=0→y≠⟨0,13,0⟩→y≠⟨0,13,20⟩→hp' y=hp1 y:=by
 refine hpcZ Tryz.func316 rfl rfl bodyOk_316 rfl rfl ?_
 have hA:=regA ha
 have hB:=regA hb16
 have hga':=getV hga
 have hgb':=getV hgb
 subst hM ho
 have hml:=rowW_len mem
 have htk:(rowW mem).take mem.length=rowW mem:=List.take_of_length_le (by simp)
 have h413:=m413' mem (by omega) hml0
 have hrs:=rowW_set mem at_ xa
 have w0:IntKind.u32.wrap (nc:Int)=nc:=by rw[IntKind.wrap_u32];omega
 have w1:IntKind.u32.wrap (xb+nc)=(at_:Int):=by rw[IntKind.wrap_u32];exact hat
 have w2:IntKind.i64.wrap (at_:Int)=at_:=wrap64 (by omega) (by omega)
 clear hat
 have q1: ¬(mem.length:Int)≤at_:=by omega
 have hrm:(rowW mem)[at_]?=some [uv mem[at_]]:=by rw[List.getElem?_map,List.getElem?_eq_getElem hcx];rfl
 have q3: ∀h,(rowW mem)[at_]'h=[uv mem[at_]]:=fun h=>by rw[List.getElem?_eq_getElem h] at hrm;exact Option.some.inj hrm
 generalize rowW mem=RW at*
 repeat' (first|(refine ZN ?_)|(refine Z2 ?_ ?_)|(intro h h';try simp[*,-h] at h'))
 all_goals exact⟨by simp,_,_,rfl,rfl,by simp[*],by simp[*],Zya⟩
theorem m400_17iw (na nb nc at_:Nat)(xa xb:Int)(hnc:nc≤65535)(hat:(xb+nc)%4294967296=at_)(mem:List Int)(gm:Nat)(hM:M= .own ⟨0,13,20⟩ gm mem.length)(ho:o=true)(hml0:mem.length≤1048576)(hcx:at_<mem.length)(hrl:rg.length=16)(d:Nat)(hp1:Hp)(hx:hp1 ⟨0,13,0⟩= .box 1 (bxP code inp pc rg M rd steps en o go no) false)(ha:na<16)(hb16:nb<16)(hga:rg[na]?=some xa)(hgb:rg[nb]?=some xb)(hm:hp1 ⟨0,13,20⟩= .arr gm 1 22 (rowW mem) false):
  ∃hp',(lim Tryz.prog E00 X00).hpc 3 d 316 [.ptr ⟨0,13,0⟩ 1 0,.agg [iv 17,iv na,iv nb,iv nc]] hp1=some (bv true,hp')∧hp' ⟨0,13,0⟩= .box 1 (bxP code inp pc rg (.own ⟨0,13,20⟩ gm mem.length) rd steps en true go no) false∧hp' ⟨0,13,20⟩= .arr gm 1 22 (rowW (mem.set at_ xa)) false∧ ∀y:Nm,y.d=0→y≠⟨0,13,0⟩→y≠⟨0,13,20⟩→hp' y=hp1 y:=by
 refine hpcZ Tryz.func316 rfl rfl bodyOk_316 rfl rfl ?_
 have hA:=regA ha
 have hB:=regA hb16
 have hga':=getV hga
 have hgb':=getV hgb
 subst hM ho
 have hml:=rowW_len mem
 have htk:(rowW mem).take mem.length=rowW mem:=List.take_of_length_le (by simp)
 have hrs:=rowW_set mem at_ xa
 have w0:IntKind.u32.wrap (nc:Int)=nc:=by rw[IntKind.wrap_u32];omega
 have w1:IntKind.u32.wrap (xb+nc)=(at_:Int):=by rw[IntKind.wrap_u32];exact hat
 have w2:IntKind.i64.wrap (at_:Int)=at_:=wrap64 (by omega) (by omega)
 clear hat
 have q1: ¬(mem.length:Int)≤at_:=by omega
 have hrm:(rowW mem)[at_]?=some [uv mem[at_]]:=by rw[List.getElem?_map,List.getElem?_eq_getElem hcx];rfl
 have q3: ∀h,(rowW mem)[at_]'h=[uv mem[at_]]:=fun h=>by rw[List.getElem?_eq_getElem h] at hrm;exact Option.some.inj hrm
 generalize rowW mem=RW at*
 repeat' (first|(refine ZN ?_)|(refine Z2 ?_ ?_)|(intro h h';try simp[*,-h] at h'))
 all_goals exact⟨by simp,_,_,rfl,rfl,by simp[*],by simp[*],Zya⟩
theorem m401_o (na rdn:Nat)(hrd:rd=rdn)(hr1:inp.size≤rdn)(hrl:rg.length=16)(d:Nat)(hp1:Hp)(hx:hp1 ⟨0,13,0⟩= .box 1 (bxP code inp pc rg M rd steps en o go no) false)(ha:na<16):
  ∃hp',(lim Tryz.prog E00 X00).hpc 3 d 317 [.ptr ⟨0,13,0⟩ 1 0,iv na] hp1=some (.tup [],hp')∧hp' ⟨0,13,0⟩= .box 1 (bxP code inp pc (rg.set na 256) M rd steps en o go no) false∧ ∀y:Nm,y.d=0→y≠⟨0,13,0⟩→hp' y=hp1 y:=by
 refine hpcZ Tryz.func317 rfl rfl bodyOk_317 rfl rfl ?_
 have hA:=regA ha
 subst hrd
 have q0: ¬(rdn:Int)<0:=by omega
 have q1:(inp.size:Int)≤rdn:=by omega
 repeat' (first|(refine ZN ?_)|(refine Z2 ?_ ?_)|(intro h h';try simp[*,-h] at h'))
 all_goals exact⟨by simp,_,_,rfl,rfl,by simp[*],Zya⟩
theorem m401_i (na rdn:Nat)(hrd:rd=rdn)(b:UInt8)(hbb:inp.data[rdn]?=some b)(hsz:inp.size≤1048576)(hrl:rg.length=16)(d:Nat)(hp1:Hp)(hx:hp1 ⟨0,13,0⟩= .box 1 (bxP code inp pc rg M rd steps en o go no) false)(ha:na<16):
  ∃hp',(lim Tryz.prog E00 X00).hpc 3 d 317 [.ptr ⟨0,13,0⟩ 1 0,iv na] hp1=some (.tup [],hp')∧hp' ⟨0,13,0⟩= .box 1 (bxP code inp pc (rg.set na (b.toNat:Int)) M ((rdn:Int)+1) steps en o go no) false∧ ∀y:Nm,y.d=0→y≠⟨0,13,0⟩→hp' y=hp1 y:=by
 refine hpcZ Tryz.func317 rfl rfl bodyOk_317 rfl rfl ?_
 have hA:=regA ha
 subst hrd
 have hlt:rdn<inp.size:=(Array.getElem?_eq_some_iff.1 hbb).1
 have q0: ¬(rdn:Int)<0:=by omega
 have q1: ¬(inp.size:Int)≤rdn:=by omega
 have q2:rdn<inp.data.size:=hlt
 have q3: ∀h,inp.data[rdn]'h=b:=fun h=>by rw[Array.getElem?_eq_getElem h] at hbb;exact Option.some.inj hbb
 have q4:IntKind.u32.wrap (b.toNat:Int)=b.toNat:=by have:=b.toNat_lt;rw[IntKind.wrap_u32];omega
 have q5:=wrapN (k:=rdn) (by omega)
 repeat' (first|(refine ZN ?_)|(refine Z2 ?_ ?_)|(intro h h';try simp[*,-h] at h'))
 all_goals exact⟨by simp,_,_,rfl,rfl,by simp[*],Zya⟩
end
section
open Go Go.Ab Go.Ma
attribute [-simp] Prog.bind getCs putCs
attribute [local simp ↓] run_bind
attribute [local simp ↓] runF_bind
attribute [local simp] run_getCsN runF_getCsN facetsC putCs_one run_putCsN
attribute [local simp] take1 bx_len bx_2 bx_19 bx_20 bx_21 bx_22 bx_23 bx_24 bx_25 bx_reg bs_2 bs_19 bs_20 bs_22 bs_23 bs_24 bs_25 bs_reg bx_regg bg_2 bg_19 bg_20 bg_21 bg_22 bg_23 bg_24 bg_25
variable {code:List Int}{inp:ByteArray}{pc:Int}{rg:List Int}{M:AV}{rd steps en:Int}{o:Bool}{go no:Nat}
theorem m363_1 (na nb nc:Nat)(hnc:nc≤65535)(hpc0:0≤pc)(hpc1:pc≤4294967296)(hrl:rg.length=16)(d:Nat)(hp1:Hp)(hx:hp1 ⟨0,13,0⟩= .box 1 (bxP code inp pc rg M rd steps en o go no) false)(ha:na<16):
  ∃hp',(lim Tryz.prog E00 X00).hpc 2 d 248 [.ptr ⟨0,13,0⟩ 1 0,.agg [iv 1,iv na,iv nb,iv nc]] hp1=some (iv 0,hp')∧hp' ⟨0,13,0⟩= .box 1 (bxP code inp (pc+1) (rg.set na (nc:Int)) M rd steps en o go no) false∧ ∀y:Nm,y.d=0→y≠⟨0,13,0⟩→hp' y=hp1 y:=by
 refine hpcZ Tryz.func248 rfl rfl bodyOk_248 rfl rfl ?_
 have hA:=regA ha
 have hw:IntKind.i64.wrap (pc+1)=pc+1:=wrap64 (by omega) (by omega)
 have w0:IntKind.u32.wrap (nc:Int)=nc:=by rw[IntKind.wrap_u32];omega
 repeat' (first|(refine ZN ?_)|(refine Z2 ?_ ?_)|(intro h h';try simp[*,-h] at h'))
 all_goals exact⟨by simp,_,_,rfl,rfl,by simp[*],Zya⟩
theorem m363_2 (na nb nc:Nat)(xa:Int)(hxa:Ma.U xa)(hnc:nc≤65535)(hpc0:0≤pc)(hpc1:pc≤4294967296)(hrl:rg.length=16)(d:Nat)(hp1:Hp)(hx:hp1 ⟨0,13,0⟩= .box 1 (bxP code inp pc rg M rd steps en o go no) false)(ha:na<16)(hga:rg[na]?=some xa):
  ∃hp',(lim Tryz.prog E00 X00).hpc 2 d 248 [.ptr ⟨0,13,0⟩ 1 0,.agg [iv 2,iv na,iv nb,iv nc]] hp1=some (iv 0,hp')∧hp' ⟨0,13,0⟩= .box 1 (bxP code inp (pc+1) (rg.set na (xa%65536+(nc:Int)*65536)) M rd steps en o go no) false∧ ∀y:Nm,y.d=0→y≠⟨0,13,0⟩→hp' y=hp1 y:=by
 refine hpcZ Tryz.func248 rfl rfl bodyOk_248 rfl rfl ?_
 have hA:=regA ha
 have hga':=getV hga
 have hw:IntKind.i64.wrap (pc+1)=pc+1:=wrap64 (by omega) (by omega)
 have w0:IntKind.u32.wrap (nc:Int)=nc:=by rw[IntKind.wrap_u32];omega
 have w1:IntKind.u32.wrap (((xa%2^IntKind.u32.bits).toNat&&&65535%2^IntKind.u32.bits:Nat):Int)=xa%65536:=by have h:=(U_and hxa).2;rw[and_form] at h;exact h
 have w2:IntKind.u32.wrap ((nc:Int)*2^min 16 IntKind.u32.bits)=(nc:Int)*65536:=by rw[show(2:Int)^min 16 IntKind.u32.bits=65536 from rfl,IntKind.wrap_u32];omega
 have w2b:IntKind.u32.wrap ((nc:Int)*65536)=(nc:Int)*65536:=by rw[IntKind.wrap_u32];omega
 have w3:IntKind.u32.wrap (((xa%65536%2^IntKind.u32.bits).toNat|||((nc:Int)*65536%2^IntKind.u32.bits).toNat:Nat):Int)=xa%65536+(nc:Int)*65536:=by
  have h:=orW_lui (x:=xa%65536) (c:=nc) ⟨by omega,by omega⟩ ⟨by omega,by omega⟩
  rw[or_form] at h
  refine Eq.trans (congrArg _ h) ?_
  rw[IntKind.wrap_u32]
  omega
 clear hxa
 repeat' (first|(refine ZN ?_)|(refine Z2 ?_ ?_)|(intro h h';try simp[*,-h] at h'))
 all_goals exact⟨by simp,_,_,rfl,rfl,by simp[*],Zya⟩
theorem m363_3 (na nb nc:Nat)(xb:Int)(hpc0:0≤pc)(hpc1:pc≤4294967296)(hrl:rg.length=16)(d:Nat)(hp1:Hp)(hx:hp1 ⟨0,13,0⟩= .box 1 (bxP code inp pc rg M rd steps en o go no) false)(ha:na<16)(hb16:nb<16)(hgb:rg[nb]?=some xb):
  ∃hp',(lim Tryz.prog E00 X00).hpc 2 d 248 [.ptr ⟨0,13,0⟩ 1 0,.agg [iv 3,iv na,iv nb,iv nc]] hp1=some (iv 0,hp')∧hp' ⟨0,13,0⟩= .box 1 (bxP code inp (pc+1) (rg.set na xb) M rd steps en o go no) false∧ ∀y:Nm,y.d=0→y≠⟨0,13,0⟩→hp' y=hp1 y:=by
 refine hpcZ Tryz.func248 rfl rfl bodyOk_248 rfl rfl ?_
 have hA:=regA ha
 have hB:=regA hb16
 have hgb':=getV hgb
 have hw:IntKind.i64.wrap (pc+1)=pc+1:=wrap64 (by omega) (by omega)
 repeat' (first|(refine ZN ?_)|(refine Z2 ?_ ?_)|(intro h h';try simp[*,-h] at h'))
 all_goals exact⟨by simp,_,_,rfl,rfl,by simp[*],Zya⟩
theorem m363_26 (na nb nc:Nat)(hpc0:0≤pc)(hpc1:pc≤4294967296)(hrl:rg.length=16)(d:Nat)(hp1:Hp)(hx:hp1 ⟨0,13,0⟩= .box 1 (bxP code inp pc rg M rd steps en o go no) false):
  ∃hp',(lim Tryz.prog E00 X00).hpc 2 d 248 [.ptr ⟨0,13,0⟩ 1 0,.agg [iv 26,iv na,iv nb,iv nc]] hp1=some (iv 1,hp')∧hp' ⟨0,13,0⟩= .box 1 (bxP code inp pc rg M rd steps en o go no) false∧ ∀y:Nm,y.d=0→y≠⟨0,13,0⟩→hp' y=hp1 y:=by
 refine hpcZ Tryz.func248 rfl rfl bodyOk_248 rfl rfl ?_
 repeat' (first|(refine ZN ?_)|(refine Z2 ?_ ?_)|(intro h h';try simp[*,-h] at h'))
 all_goals exact⟨by simp,_,_,rfl,rfl,by simp[*],Zya⟩
theorem m363_25i (na nb nc:Nat)(xa:Int)(hnc:nc≤65535)(hcx:(xa<(nc:Int)))(hpc0:0≤pc)(hpc1:pc≤4294967296)(hrl:rg.length=16)(d:Nat)(hp1:Hp)(hx:hp1 ⟨0,13,0⟩= .box 1 (bxP code inp pc rg M rd steps en o go no) false)(ha:na<16)(hga:rg[na]?=some xa):
  ∃hp',(lim Tryz.prog E00 X00).hpc 2 d 248 [.ptr ⟨0,13,0⟩ 1 0,.agg [iv 25,iv na,iv nb,iv nc]] hp1=some (iv 0,hp')∧hp' ⟨0,13,0⟩= .box 1 (bxP code inp (pc+1) rg M rd steps en o go no) false∧ ∀y:Nm,y.d=0→y≠⟨0,13,0⟩→hp' y=hp1 y:=by
 refine hpcZ Tryz.func248 rfl rfl bodyOk_248 rfl rfl ?_
 have hA:=regA ha
 have hga':=getV hga
 have hw:IntKind.i64.wrap (pc+1)=pc+1:=wrap64 (by omega) (by omega)
 have w0:IntKind.u32.wrap (nc:Int)=nc:=by rw[IntKind.wrap_u32];omega
 have q1: ¬(nc:Int)≤xa:=by omega
 repeat' (first|(refine ZN ?_)|(refine Z2 ?_ ?_)|(intro h h';try simp[*,-h] at h'))
 all_goals exact⟨by simp,_,_,rfl,rfl,by simp[*],Zya⟩
theorem m363_25o (na nb nc:Nat)(xa:Int)(hnc:nc≤65535)(hcx:((nc:Int)≤xa))(hpc0:0≤pc)(hpc1:pc≤4294967296)(hrl:rg.length=16)(d:Nat)(hp1:Hp)(hx:hp1 ⟨0,13,0⟩= .box 1 (bxP code inp pc rg M rd steps en o go no) false)(ha:na<16)(hga:rg[na]?=some xa):
  ∃hp',(lim Tryz.prog E00 X00).hpc 2 d 248 [.ptr ⟨0,13,0⟩ 1 0,.agg [iv 25,iv na,iv nb,iv nc]] hp1=some (iv 3,hp')∧hp' ⟨0,13,0⟩= .box 1 (bxP code inp pc rg M rd steps en o go no) false∧ ∀y:Nm,y.d=0→y≠⟨0,13,0⟩→hp' y=hp1 y:=by
 refine hpcZ Tryz.func248 rfl rfl bodyOk_248 rfl rfl ?_
 have hA:=regA ha
 have hga':=getV hga
 have hw:IntKind.i64.wrap (pc+1)=pc+1:=wrap64 (by omega) (by omega)
 have w0:IntKind.u32.wrap (nc:Int)=nc:=by rw[IntKind.wrap_u32];omega
 repeat' (first|(refine ZN ?_)|(refine Z2 ?_ ?_)|(intro h h';try simp[*,-h] at h'))
 all_goals exact⟨by simp,_,_,rfl,rfl,by simp[*],Zya⟩
end
section
open Go Go.Ab Go.Ma
attribute [-simp] Prog.bind getCs putCs
attribute [local simp ↓] run_bind
attribute [local simp ↓] runF_bind
attribute [local simp] run_getCsN runF_getCsN facetsC putCs_one run_putCsN
attribute [local simp] take1 bx_len bx_2 bx_19 bx_20 bx_21 bx_22 bx_23 bx_24 bx_25 bx_reg bs_2 bs_19 bs_20 bs_22 bs_23 bs_24 bs_25 bs_reg bx_regg bg_2 bg_19 bg_20 bg_21 bg_22 bg_23 bg_24 bg_25
variable {code:List Int}{inp:ByteArray}{pc:Int}{rg:List Int}{M:AV}{rd steps en:Int}{o:Bool}{go no:Nat}
theorem empty_size :(⟨#[]⟩:ByteArray).size=0:=rfl
attribute [local simp] empty_size
def snocB (l:List Int)(x:Int):List (List AV):=rowB (l++[x])
theorem m363_24o (na nb nc:Nat)(hol:65536≤no)(hol2:no≤1000000)(out:List Int)(hno:no=out.length)(hpc0:0≤pc)(hpc1:pc≤4294967296)(hrl:rg.length=16)(d:Nat)(hp1:Hp)(hx:hp1 ⟨0,13,0⟩= .box 1 (bxP code inp pc rg M rd steps en o go no) false)(ha:na<16)(hmo:hp1 ⟨0,13,26⟩= .arr go 1 5 (rowB out) false):
  ∃hp',(lim Tryz.prog E00 X00).hpc 2 d 248 [.ptr ⟨0,13,0⟩ 1 0,.agg [iv 24,iv na,iv nb,iv nc]] hp1=some (iv 4,hp')∧hp' ⟨0,13,0⟩= .box 1 (bxP code inp pc rg M rd steps en o go no) false∧ ∀y:Nm,y.d=0→y≠⟨0,13,0⟩→hp' y=hp1 y:=by
 refine hpcZ Tryz.func248 rfl rfl bodyOk_248 rfl rfl ?_
 have hA:=regA ha
 have hw:IntKind.i64.wrap (pc+1)=pc+1:=wrap64 (by omega) (by omega)
 subst hno
 have v0:(65536:Int)≤out.length:=by omega
 have v1:IntKind.i64.wrap (out.length:Int)=out.length:=wrap64 (by omega) (by omega)
 repeat' (first|(refine ZN ?_)|(refine Z2 ?_ ?_)|(intro h h';try simp[*,-h] at h'))
 all_goals exact⟨by simp,_,_,rfl,rfl,by simp[*],Zya⟩
theorem m363_24i (na nb nc:Nat)(xa:Int)(hxa:Ma.U xa)(hol:no<65536)(out:List Int)(hno:no=out.length)(hpc0:0≤pc)(hpc1:pc≤4294967296)(hrl:rg.length=16)(d:Nat)(hp1:Hp)(hx:hp1 ⟨0,13,0⟩= .box 1 (bxP code inp pc rg M rd steps en o go no) false)(ha:na<16)(hga:rg[na]?=some xa)(hmo:hp1 ⟨0,13,26⟩= .arr go 1 5 (rowB out) false):
  ∃hp',(lim Tryz.prog E00 X00).hpc 2 d 248 [.ptr ⟨0,13,0⟩ 1 0,.agg [iv 24,iv na,iv nb,iv nc]] hp1=some (iv 0,hp')∧hp' ⟨0,13,0⟩= .box 1 (bxP code inp (pc+1) rg M rd steps en o (go+1) (no+1)) false∧hp' ⟨0,13,26⟩= .arr (go+1) 1 5 (snocB out (xa%256)) false∧ ∀y:Nm,y.d=0→y≠⟨0,13,0⟩→y≠⟨0,13,26⟩→hp' y=hp1 y:=by
 refine hpcZ Tryz.func248 rfl rfl bodyOk_248 rfl rfl ?_
 have hA:=regA ha
 have hga':=getV hga
 have hw:IntKind.i64.wrap (pc+1)=pc+1:=wrap64 (by omega) (by omega)
 subst hno
 have v0: ¬(65536:Int)≤out.length:=by omega
 have v1:IntKind.i64.wrap (out.length:Int)=out.length:=wrap64 (by omega) (by omega)
 have u2:IntKind.u8.wrap xa=xa%256:=by rw[IntKind.wrap_u8]
 have u4:out.length+1≤140737488355328:=by omega
 have u5:out.length≤9223372036854775806:=by omega
 have u6:rowB out++[[.sc (.int .u8 (xa%256))]]=snocB out (xa%256):=by simp[snocB]
 have u7:(rowB out).length=out.length:=List.length_map ..
 clear hxa
 generalize snocB out (xa%256)=SB at*
 generalize rowB out=RB at*
 repeat' (first|(refine ZN ?_)|(refine Z2 ?_ ?_)|(intro h h';try simp[*,-h] at h'))
 all_goals exact⟨by simp,_,_,rfl,rfl,by simp[*],by simp[*],Zya⟩
end
section
open Go Go.Ab Go.Ma
attribute [-simp] Prog.bind getCs putCs
attribute [local simp ↓] run_bind
attribute [local simp ↓] runF_bind
attribute [local simp] run_getCsN runF_getCsN facetsC putCs_one run_putCsN
attribute [local simp] take1 bx_len bx_2 bx_19 bx_20 bx_21 bx_22 bx_23 bx_24 bx_25 bx_reg bs_2 bs_19 bs_20 bs_22 bs_23 bs_24 bs_25 bs_reg bx_regg bg_2 bg_19 bg_20 bg_21 bg_22 bg_23 bg_24 bg_25
variable {code:List Int}{inp:ByteArray}{pc:Int}{rg:List Int}{M:AV}{rd steps en:Int}{o:Bool}{go no:Nat}
theorem m363_18 (na nb nc:Nat)(hpc0:0≤pc)(hpc1:pc≤4294967296)(hrl:rg.length=16)(d:Nat)(hp1:Hp)(hx:hp1 ⟨0,13,0⟩= .box 1 (bxP code inp pc rg M rd steps en o go no) false):
  ∃hp',(lim Tryz.prog E00 X00).hpc 2 d 248 [.ptr ⟨0,13,0⟩ 1 0,.agg [iv 18,iv na,iv nb,iv nc]] hp1=some (iv 0,hp')∧hp' ⟨0,13,0⟩= .box 1 (bxP code inp (nc:Int) rg M rd steps en o go no) false∧ ∀y:Nm,y.d=0→y≠⟨0,13,0⟩→hp' y=hp1 y:=by
 refine hpcZ Tryz.func248 rfl rfl bodyOk_248 rfl rfl ?_
 obtain⟨F,hF⟩:=skol (fun d hp (hc:hp ⟨0,13,0⟩= .box 1 (bxP code inp pc rg M rd steps en o go no) false)=>m399_18 na nb nc hpc0 hpc1 hrl d hp hc)
 have f1:=fun d hp hc=>(hF d hp hc).1
 have f2:=fun d hp hc=>(hF d hp hc).2.1
 have f3:=fun d hp hc=>(hF d hp hc).2.2
 clear hF
 repeat' (first|(refine ZN ?_)|(refine Z2 ?_ ?_)|(intro h h';try simp[*,-h] at h'))
 all_goals exact⟨by simp,_,_,rfl,rfl,by simp[*],Zyb⟩
theorem m363_19 (na nb nc:Nat)(xa:Int)(hpc0:0≤pc)(hpc1:pc≤4294967296)(hrl:rg.length=16)(d:Nat)(hp1:Hp)(hx:hp1 ⟨0,13,0⟩= .box 1 (bxP code inp pc rg M rd steps en o go no) false)(ha:na<16)(hga:rg[na]?=some xa):
  ∃hp',(lim Tryz.prog E00 X00).hpc 2 d 248 [.ptr ⟨0,13,0⟩ 1 0,.agg [iv 19,iv na,iv nb,iv nc]] hp1=some (iv 0,hp')∧hp' ⟨0,13,0⟩= .box 1 (bxP code inp (if xa=0 then(nc:Int) else pc+1) rg M rd steps en o go no) false∧ ∀y:Nm,y.d=0→y≠⟨0,13,0⟩→hp' y=hp1 y:=by
 refine hpcZ Tryz.func248 rfl rfl bodyOk_248 rfl rfl ?_
 have hA:=regA ha
 have hga':=getV hga
 obtain⟨F,hF⟩:=skol (fun d hp (hc:hp ⟨0,13,0⟩= .box 1 (bxP code inp pc rg M rd steps en o go no) false)=>m399_19 na nb nc xa hpc0 hpc1 hrl d hp hc ha hga)
 have f1:=fun d hp hc=>(hF d hp hc).1
 have f2:=fun d hp hc=>(hF d hp hc).2.1
 have f3:=fun d hp hc=>(hF d hp hc).2.2
 clear hF
 repeat' (first|(refine ZN ?_)|(refine Z2 ?_ ?_)|(intro h h';try simp[*,-h] at h'))
 all_goals exact⟨by simp,_,_,rfl,rfl,by simp[*],Zyb⟩
theorem m363_20 (na nb nc:Nat)(xa:Int)(hpc0:0≤pc)(hpc1:pc≤4294967296)(hrl:rg.length=16)(d:Nat)(hp1:Hp)(hx:hp1 ⟨0,13,0⟩= .box 1 (bxP code inp pc rg M rd steps en o go no) false)(ha:na<16)(hga:rg[na]?=some xa):
  ∃hp',(lim Tryz.prog E00 X00).hpc 2 d 248 [.ptr ⟨0,13,0⟩ 1 0,.agg [iv 20,iv na,iv nb,iv nc]] hp1=some (iv 0,hp')∧hp' ⟨0,13,0⟩= .box 1 (bxP code inp (if xa≠0 then(nc:Int) else pc+1) rg M rd steps en o go no) false∧ ∀y:Nm,y.d=0→y≠⟨0,13,0⟩→hp' y=hp1 y:=by
 refine hpcZ Tryz.func248 rfl rfl bodyOk_248 rfl rfl ?_
 have hA:=regA ha
 have hga':=getV hga
 obtain⟨F,hF⟩:=skol (fun d hp (hc:hp ⟨0,13,0⟩= .box 1 (bxP code inp pc rg M rd steps en o go no) false)=>m399_20 na nb nc xa hpc0 hpc1 hrl d hp hc ha hga)
 have f1:=fun d hp hc=>(hF d hp hc).1
 have f2:=fun d hp hc=>(hF d hp hc).2.1
 have f3:=fun d hp hc=>(hF d hp hc).2.2
 clear hF
 repeat' (first|(refine ZN ?_)|(refine Z2 ?_ ?_)|(intro h h';try simp[*,-h] at h'))
 all_goals exact⟨by simp,_,_,rfl,rfl,by simp[*],Zyb⟩
theorem m363_21 (na nb nc:Nat)(hpc0:0≤pc)(hpc1:pc≤4294967296)(hrl:rg.length=16)(d:Nat)(hp1:Hp)(hx:hp1 ⟨0,13,0⟩= .box 1 (bxP code inp pc rg M rd steps en o go no) false)(ha:na<16):
  ∃hp',(lim Tryz.prog E00 X00).hpc 2 d 248 [.ptr ⟨0,13,0⟩ 1 0,.agg [iv 21,iv na,iv nb,iv nc]] hp1=some (iv 0,hp')∧hp' ⟨0,13,0⟩= .box 1 (bxP code inp (nc:Int) (rg.set na ((pc+1)%4294967296)) M rd steps en o go no) false∧ ∀y:Nm,y.d=0→y≠⟨0,13,0⟩→hp' y=hp1 y:=by
 refine hpcZ Tryz.func248 rfl rfl bodyOk_248 rfl rfl ?_
 have hA:=regA ha
 obtain⟨F,hF⟩:=skol (fun d hp (hc:hp ⟨0,13,0⟩= .box 1 (bxP code inp pc rg M rd steps en o go no) false)=>m399_21 na nb nc hpc0 hpc1 hrl d hp hc ha)
 have f1:=fun d hp hc=>(hF d hp hc).1
 have f2:=fun d hp hc=>(hF d hp hc).2.1
 have f3:=fun d hp hc=>(hF d hp hc).2.2
 clear hF
 repeat' (first|(refine ZN ?_)|(refine Z2 ?_ ?_)|(intro h h';try simp[*,-h] at h'))
 all_goals exact⟨by simp,_,_,rfl,rfl,by simp[*],Zyb⟩
theorem m363_22 (na nb nc:Nat)(xa:Int)(hxa:Ma.U xa)(hpc0:0≤pc)(hpc1:pc≤4294967296)(hrl:rg.length=16)(d:Nat)(hp1:Hp)(hx:hp1 ⟨0,13,0⟩= .box 1 (bxP code inp pc rg M rd steps en o go no) false)(ha:na<16)(hga:rg[na]?=some xa):
  ∃hp',(lim Tryz.prog E00 X00).hpc 2 d 248 [.ptr ⟨0,13,0⟩ 1 0,.agg [iv 22,iv na,iv nb,iv nc]] hp1=some (iv 0,hp')∧hp' ⟨0,13,0⟩= .box 1 (bxP code inp xa rg M rd steps en o go no) false∧ ∀y:Nm,y.d=0→y≠⟨0,13,0⟩→hp' y=hp1 y:=by
 refine hpcZ Tryz.func248 rfl rfl bodyOk_248 rfl rfl ?_
 have hA:=regA ha
 have hga':=getV hga
 obtain⟨F,hF⟩:=skol (fun d hp (hc:hp ⟨0,13,0⟩= .box 1 (bxP code inp pc rg M rd steps en o go no) false)=>m399_22 na nb nc xa hxa hpc0 hpc1 hrl d hp hc ha hga)
 have f1:=fun d hp hc=>(hF d hp hc).1
 have f2:=fun d hp hc=>(hF d hp hc).2.1
 have f3:=fun d hp hc=>(hF d hp hc).2.2
 clear hF
 repeat' (first|(refine ZN ?_)|(refine Z2 ?_ ?_)|(intro h h';try simp[*,-h] at h'))
 all_goals exact⟨by simp,_,_,rfl,rfl,by simp[*],Zyb⟩
end
end Go.Proofs.YtpedpkegmalgmaaGreatDoor.M
