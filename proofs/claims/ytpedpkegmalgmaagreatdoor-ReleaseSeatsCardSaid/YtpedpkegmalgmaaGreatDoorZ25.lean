/- A part of the proof: I12, I13, I14, I15, I2, I16. -/
import Derived.Test.YtpedpkegmalgmaaGreatDoorZ24
import Derived.Test.YtpedpkegmalgmaaGreatDoorZ23
import Derived.Test.YtpedpkegmalgmaaGreatDoorZ09
set_option linter.unusedSimpArgs false
set_option linter.unusedVariables false
set_option maxRecDepth 200000
set_option maxHeartbeats 8000000
namespace Go.Proofs.YtpedpkegmalgmaaGreatDoor.M
section
open Go Go.Ab Go.Ma
attribute [-simp] Prog.bind getCs putCs
attribute [local simp ↓] run_bind
attribute [local simp ↓] runF_bind
attribute [local simp] run_getCsN runF_getCsN facetsC putCs_one run_putCsN
attribute [local simp] take1 bx_len bx_2 bx_19 bx_20 bx_21 bx_22 bx_23 bx_24 bx_25 bx_reg bs_2 bs_19 bs_20 bs_22 bs_23 bs_24 bs_25 bs_reg bx_regg bg_2 bg_19 bg_20 bg_21 bg_22 bg_23 bg_24 bg_25
variable {code:List Int}{inp:ByteArray}{pc:Int}{rg:List Int}{M:AV}{rd steps en:Int}{o:Bool}{go no:Nat}
theorem m363_27i (na nb nc at_:Nat)(xb:Int)(hnc:nc≤65535)(hat:(xb+nc)%4294967296=at_)(x:Int)(hcx:code[at_]?=some x)(hpc0:0≤pc)(hpc1:pc≤4294967296)(hrl:rg.length=16)(d:Nat)(hp1:Hp)(hx:hp1 ⟨0,13,0⟩= .box 1 (bxP code inp pc rg M rd steps en o go no) false)(ha:na<16)(hb16:nb<16)(hgb:rg[nb]?=some xb):
  ∃hp',(lim Tryz.prog E00 X00).hpc 2 d 248 [.ptr ⟨0,13,0⟩ 1 0,.agg [iv 27,iv na,iv nb,iv nc]] hp1=some (iv 0,hp')∧hp' ⟨0,13,0⟩= .box 1 (bxP code inp (pc+1) (rg.set na x) M rd steps en o go no) false∧ ∀y:Nm,y.d=0→y≠⟨0,13,0⟩→hp' y=hp1 y:=by
 refine hpcZ Tryz.func248 rfl rfl bodyOk_248 rfl rfl ?_
 have hA:=regA ha
 have hB:=regA hb16
 have hgb':=getV hgb
 have hw:IntKind.i64.wrap (pc+1)=pc+1:=wrap64 (by omega) (by omega)
 obtain⟨F,hF⟩:=skol (C:=fun hp=>hp ⟨0,13,0⟩= .box 1 (bxP code inp pc rg M rd steps en o go no) false) (fun d hp (hc:hp ⟨0,13,0⟩= .box 1 (bxP code inp pc rg M rd steps en o go no) false)=>m400_27i na nb nc at_ xb hnc hat x hcx hrl d hp hc ha hb16 hgb)
 have f1:=fun d hp hc=>(hF d hp hc).1
 have f2:=fun d hp hc=>(hF d hp hc).2.1
 have f3:=fun d hp hc=>(hF d hp hc).2.2
 clear hF
 repeat' (first|(refine ZN ?_)|(refine Z2 ?_ ?_)|(intro h h';try simp[*,-h] at h'))
 all_goals exact⟨by simp,_,_,rfl,rfl,by simp[*],Zyb⟩
theorem m363_27o (na nb nc at_:Nat)(xb:Int)(hnc:nc≤65535)(hat:(xb+nc)%4294967296=at_)(hcx:code.length≤at_)(hpc0:0≤pc)(hpc1:pc≤4294967296)(hrl:rg.length=16)(d:Nat)(hp1:Hp)(hx:hp1 ⟨0,13,0⟩= .box 1 (bxP code inp pc rg M rd steps en o go no) false)(ha:na<16)(hb16:nb<16)(hgb:rg[nb]?=some xb):
  ∃hp',(lim Tryz.prog E00 X00).hpc 2 d 248 [.ptr ⟨0,13,0⟩ 1 0,.agg [iv 27,iv na,iv nb,iv nc]] hp1=some (iv 8,hp')∧hp' ⟨0,13,0⟩= .box 1 (bxP code inp pc rg M rd steps en o go no) false∧ ∀y:Nm,y.d=0→y≠⟨0,13,0⟩→hp' y=hp1 y:=by
 refine hpcZ Tryz.func248 rfl rfl bodyOk_248 rfl rfl ?_
 have hA:=regA ha
 have hB:=regA hb16
 have hgb':=getV hgb
 have hw:IntKind.i64.wrap (pc+1)=pc+1:=wrap64 (by omega) (by omega)
 obtain⟨F,hF⟩:=skol (C:=fun hp=>hp ⟨0,13,0⟩= .box 1 (bxP code inp pc rg M rd steps en o go no) false) (fun d hp (hc:hp ⟨0,13,0⟩= .box 1 (bxP code inp pc rg M rd steps en o go no) false)=>m400_27o na nb nc at_ xb hnc hat hcx hrl d hp hc ha hb16 hgb)
 have f1:=fun d hp hc=>(hF d hp hc).1
 have f2:=fun d hp hc=>(hF d hp hc).2.1
 have f3:=fun d hp hc=>(hF d hp hc).2.2
 clear hF
 repeat' (first|(refine ZN ?_)|(refine Z2 ?_ ?_)|(intro h h';try simp[*,-h] at h'))
 all_goals exact⟨by simp,_,_,rfl,rfl,by simp[*],Zyb⟩
theorem m363_16is (na nb nc at_:Nat)(xb:Int)(hnc:nc≤65535)(hat:(xb+nc)%4294967296=at_)(mem:List Int)(gm:Nat)(hM:M= .sl false 1 (rowW mem))(x:Int)(hcx:mem[at_]?=some x)(hpc0:0≤pc)(hpc1:pc≤4294967296)(hrl:rg.length=16)(d:Nat)(hp1:Hp)(hx:hp1 ⟨0,13,0⟩= .box 1 (bxP code inp pc rg M rd steps en o go no) false)(ha:na<16)(hb16:nb<16)(hgb:rg[nb]?=some xb):
  ∃hp',(lim Tryz.prog E00 X00).hpc 2 d 248 [.ptr ⟨0,13,0⟩ 1 0,.agg [iv 16,iv na,iv nb,iv nc]] hp1=some (iv 0,hp')∧hp' ⟨0,13,0⟩= .box 1 (bxP code inp (pc+1) (rg.set na x) M rd steps en o go no) false∧ ∀y:Nm,y.d=0→y≠⟨0,13,0⟩→hp' y=hp1 y:=by
 refine hpcZ Tryz.func248 rfl rfl bodyOk_248 rfl rfl ?_
 have hA:=regA ha
 have hB:=regA hb16
 have hgb':=getV hgb
 have hw:IntKind.i64.wrap (pc+1)=pc+1:=wrap64 (by omega) (by omega)
 obtain⟨F,hF⟩:=skol (C:=fun hp=>hp ⟨0,13,0⟩= .box 1 (bxP code inp pc rg M rd steps en o go no) false) (fun d hp (hc:hp ⟨0,13,0⟩= .box 1 (bxP code inp pc rg M rd steps en o go no) false)=>m400_16is na nb nc at_ xb hnc hat mem gm hM x hcx hrl d hp hc ha hb16 hgb)
 have f1:=fun d hp hc=>(hF d hp hc).1
 have f2:=fun d hp hc=>(hF d hp hc).2.1
 have f3:=fun d hp hc=>(hF d hp hc).2.2
 clear hF
 repeat' (first|(refine ZN ?_)|(refine Z2 ?_ ?_)|(intro h h';try simp[*,-h] at h'))
 all_goals exact⟨by simp,_,_,rfl,rfl,by simp[*],Zyb⟩
theorem m363_16os (na nb nc at_:Nat)(xb:Int)(hnc:nc≤65535)(hat:(xb+nc)%4294967296=at_)(mem:List Int)(gm:Nat)(hM:M= .sl false 1 (rowW mem))(hcx:mem.length≤at_)(hpc0:0≤pc)(hpc1:pc≤4294967296)(hrl:rg.length=16)(d:Nat)(hp1:Hp)(hx:hp1 ⟨0,13,0⟩= .box 1 (bxP code inp pc rg M rd steps en o go no) false)(ha:na<16)(hb16:nb<16)(hgb:rg[nb]?=some xb):
  ∃hp',(lim Tryz.prog E00 X00).hpc 2 d 248 [.ptr ⟨0,13,0⟩ 1 0,.agg [iv 16,iv na,iv nb,iv nc]] hp1=some (iv 8,hp')∧hp' ⟨0,13,0⟩= .box 1 (bxP code inp pc rg M rd steps en o go no) false∧ ∀y:Nm,y.d=0→y≠⟨0,13,0⟩→hp' y=hp1 y:=by
 refine hpcZ Tryz.func248 rfl rfl bodyOk_248 rfl rfl ?_
 have hA:=regA ha
 have hB:=regA hb16
 have hgb':=getV hgb
 have hw:IntKind.i64.wrap (pc+1)=pc+1:=wrap64 (by omega) (by omega)
 obtain⟨F,hF⟩:=skol (C:=fun hp=>hp ⟨0,13,0⟩= .box 1 (bxP code inp pc rg M rd steps en o go no) false) (fun d hp (hc:hp ⟨0,13,0⟩= .box 1 (bxP code inp pc rg M rd steps en o go no) false)=>m400_16os na nb nc at_ xb hnc hat mem gm hM hcx hrl d hp hc ha hb16 hgb)
 have f1:=fun d hp hc=>(hF d hp hc).1
 have f2:=fun d hp hc=>(hF d hp hc).2.1
 have f3:=fun d hp hc=>(hF d hp hc).2.2
 clear hF
 repeat' (first|(refine ZN ?_)|(refine Z2 ?_ ?_)|(intro h h';try simp[*,-h] at h'))
 all_goals exact⟨by simp,_,_,rfl,rfl,by simp[*],Zyb⟩
theorem m363_17os (na nb nc at_:Nat)(xb:Int)(hnc:nc≤65535)(hat:(xb+nc)%4294967296=at_)(mem:List Int)(gm:Nat)(hM:M= .sl false 1 (rowW mem))(hcx:mem.length≤at_)(hpc0:0≤pc)(hpc1:pc≤4294967296)(hrl:rg.length=16)(d:Nat)(hp1:Hp)(hx:hp1 ⟨0,13,0⟩= .box 1 (bxP code inp pc rg M rd steps en o go no) false)(ha:na<16)(hb16:nb<16)(hgb:rg[nb]?=some xb):
  ∃hp',(lim Tryz.prog E00 X00).hpc 2 d 248 [.ptr ⟨0,13,0⟩ 1 0,.agg [iv 17,iv na,iv nb,iv nc]] hp1=some (iv 8,hp')∧hp' ⟨0,13,0⟩= .box 1 (bxP code inp pc rg M rd steps en o go no) false∧ ∀y:Nm,y.d=0→y≠⟨0,13,0⟩→hp' y=hp1 y:=by
 refine hpcZ Tryz.func248 rfl rfl bodyOk_248 rfl rfl ?_
 have hA:=regA ha
 have hB:=regA hb16
 have hgb':=getV hgb
 have hw:IntKind.i64.wrap (pc+1)=pc+1:=wrap64 (by omega) (by omega)
 obtain⟨F,hF⟩:=skol (C:=fun hp=>hp ⟨0,13,0⟩= .box 1 (bxP code inp pc rg M rd steps en o go no) false) (fun d hp (hc:hp ⟨0,13,0⟩= .box 1 (bxP code inp pc rg M rd steps en o go no) false)=>m400_17os na nb nc at_ xb hnc hat mem gm hM hcx hrl d hp hc ha hb16 hgb)
 have f1:=fun d hp hc=>(hF d hp hc).1
 have f2:=fun d hp hc=>(hF d hp hc).2.1
 have f3:=fun d hp hc=>(hF d hp hc).2.2
 clear hF
 repeat' (first|(refine ZN ?_)|(refine Z2 ?_ ?_)|(intro h h';try simp[*,-h] at h'))
 all_goals exact⟨by simp,_,_,rfl,rfl,by simp[*],Zyb⟩
theorem m363_17is (na nb nc at_:Nat)(xa xb:Int)(hnc:nc≤65535)(hat:(xb+nc)%4294967296=at_)(mem:List Int)(gm:Nat)(hM:M= .sl false 1 (rowW mem))(ho:o=false)(hml0:mem.length≤1048576)(hcx:at_<mem.length)(hpc0:0≤pc)(hpc1:pc≤4294967296)(hrl:rg.length=16)(d:Nat)(hp1:Hp)(hx:hp1 ⟨0,13,0⟩= .box 1 (bxP code inp pc rg M rd steps en o go no) false)(ha:na<16)(hb16:nb<16)(hga:rg[na]?=some xa)(hgb:rg[nb]?=some xb):
  ∃hp',(lim Tryz.prog E00 X00).hpc 2 d 248 [.ptr ⟨0,13,0⟩ 1 0,.agg [iv 17,iv na,iv nb,iv nc]] hp1=some (iv 0,hp')∧hp' ⟨0,13,0⟩= .box 1 (bxP code inp (pc+1) rg (.own ⟨0,13,20⟩ ((hp1 ⟨0,13,20⟩).gen+1) mem.length) rd steps en true go no) false∧hp' ⟨0,13,20⟩= .arr ((hp1 ⟨0,13,20⟩).gen+1) 1 22 (rowW (mem.set at_ xa)) false∧ ∀y:Nm,y.d=0→y≠⟨0,13,0⟩→y≠⟨0,13,20⟩→hp' y=hp1 y:=by
 refine hpcZ Tryz.func248 rfl rfl bodyOk_248 rfl rfl ?_
 have hA:=regA ha
 have hB:=regA hb16
 have hga':=getV hga
 have hgb':=getV hgb
 have hw:IntKind.i64.wrap (pc+1)=pc+1:=wrap64 (by omega) (by omega)
 obtain⟨F,hF⟩:=skol (C:=fun hp=>hp ⟨0,13,0⟩= .box 1 (bxP code inp pc rg M rd steps en o go no) false) (fun d hp (hc:hp ⟨0,13,0⟩= .box 1 (bxP code inp pc rg M rd steps en o go no) false)=>m400_17is na nb nc at_ xa xb hnc hat mem gm hM ho hml0 hcx hrl d hp hc ha hb16 hga hgb)
 have f1:=fun d hp hc=>(hF d hp hc).1
 have f2:=fun d hp hc=>(hF d hp hc).2.1
 have f4:=fun d hp hc=>(hF d hp hc).2.2.1
 have f3:=fun d hp hc=>(hF d hp hc).2.2.2
 clear hF
 repeat' (first|(refine ZN ?_)|(refine Z2 ?_ ?_)|(intro h h';try simp[*,-h] at h'))
 all_goals exact⟨by simp,_,_,rfl,rfl,by simp[*],by simp[*],Zyd⟩
theorem m363_16iw (na nb nc at_:Nat)(xb:Int)(hnc:nc≤65535)(hat:(xb+nc)%4294967296=at_)(mem:List Int)(gm:Nat)(hM:M= .own ⟨0,13,20⟩ gm mem.length)(x:Int)(hcx:mem[at_]?=some x)(hpc0:0≤pc)(hpc1:pc≤4294967296)(hrl:rg.length=16)(d:Nat)(hp1:Hp)(hx:hp1 ⟨0,13,0⟩= .box 1 (bxP code inp pc rg M rd steps en o go no) false)(ha:na<16)(hb16:nb<16)(hgb:rg[nb]?=some xb)(hm:hp1 ⟨0,13,20⟩= .arr gm 1 22 (rowW mem) false):
  ∃hp',(lim Tryz.prog E00 X00).hpc 2 d 248 [.ptr ⟨0,13,0⟩ 1 0,.agg [iv 16,iv na,iv nb,iv nc]] hp1=some (iv 0,hp')∧hp' ⟨0,13,0⟩= .box 1 (bxP code inp (pc+1) (rg.set na x) M rd steps en o go no) false∧ ∀y:Nm,y.d=0→y≠⟨0,13,0⟩→hp' y=hp1 y:=by
 refine hpcZ Tryz.func248 rfl rfl bodyOk_248 rfl rfl ?_
 have hA:=regA ha
 have hB:=regA hb16
 have hgb':=getV hgb
 have hw:IntKind.i64.wrap (pc+1)=pc+1:=wrap64 (by omega) (by omega)
 obtain⟨F,hF⟩:=skol (C:=fun hp=>hp ⟨0,13,0⟩= .box 1 (bxP code inp pc rg M rd steps en o go no) false∧hp ⟨0,13,20⟩= .arr gm 1 22 (rowW mem) false) (fun d hp (hc:hp ⟨0,13,0⟩= .box 1 (bxP code inp pc rg M rd steps en o go no) false∧hp ⟨0,13,20⟩= .arr gm 1 22 (rowW mem) false)=>m400_16iw na nb nc at_ xb hnc hat mem gm hM x hcx hrl d hp hc.1 ha hb16 hgb hc.2)
 have f1:=fun d hp hc=>(hF d hp hc).1
 have f2:=fun d hp hc=>(hF d hp hc).2.1
 have f3:=fun d hp hc=>(hF d hp hc).2.2
 clear hF
 repeat' (first|(refine ZN ?_)|(refine Z2 ?_ ?_)|(intro h h';try simp[*,-h] at h'))
 all_goals exact⟨by simp,_,_,rfl,rfl,by simp[*],Zyb⟩
theorem m363_16ow (na nb nc at_:Nat)(xb:Int)(hnc:nc≤65535)(hat:(xb+nc)%4294967296=at_)(mem:List Int)(gm:Nat)(hM:M= .own ⟨0,13,20⟩ gm mem.length)(hcx:mem.length≤at_)(hpc0:0≤pc)(hpc1:pc≤4294967296)(hrl:rg.length=16)(d:Nat)(hp1:Hp)(hx:hp1 ⟨0,13,0⟩= .box 1 (bxP code inp pc rg M rd steps en o go no) false)(ha:na<16)(hb16:nb<16)(hgb:rg[nb]?=some xb)(hm:hp1 ⟨0,13,20⟩= .arr gm 1 22 (rowW mem) false):
  ∃hp',(lim Tryz.prog E00 X00).hpc 2 d 248 [.ptr ⟨0,13,0⟩ 1 0,.agg [iv 16,iv na,iv nb,iv nc]] hp1=some (iv 8,hp')∧hp' ⟨0,13,0⟩= .box 1 (bxP code inp pc rg M rd steps en o go no) false∧ ∀y:Nm,y.d=0→y≠⟨0,13,0⟩→hp' y=hp1 y:=by
 refine hpcZ Tryz.func248 rfl rfl bodyOk_248 rfl rfl ?_
 have hA:=regA ha
 have hB:=regA hb16
 have hgb':=getV hgb
 have hw:IntKind.i64.wrap (pc+1)=pc+1:=wrap64 (by omega) (by omega)
 obtain⟨F,hF⟩:=skol (C:=fun hp=>hp ⟨0,13,0⟩= .box 1 (bxP code inp pc rg M rd steps en o go no) false∧hp ⟨0,13,20⟩= .arr gm 1 22 (rowW mem) false) (fun d hp (hc:hp ⟨0,13,0⟩= .box 1 (bxP code inp pc rg M rd steps en o go no) false∧hp ⟨0,13,20⟩= .arr gm 1 22 (rowW mem) false)=>m400_16ow na nb nc at_ xb hnc hat mem gm hM hcx hrl d hp hc.1 ha hb16 hgb hc.2)
 have f1:=fun d hp hc=>(hF d hp hc).1
 have f2:=fun d hp hc=>(hF d hp hc).2.1
 have f3:=fun d hp hc=>(hF d hp hc).2.2
 clear hF
 repeat' (first|(refine ZN ?_)|(refine Z2 ?_ ?_)|(intro h h';try simp[*,-h] at h'))
 all_goals exact⟨by simp,_,_,rfl,rfl,by simp[*],Zyb⟩
theorem m363_17ow (na nb nc at_:Nat)(xb:Int)(hnc:nc≤65535)(hat:(xb+nc)%4294967296=at_)(mem:List Int)(gm:Nat)(hM:M= .own ⟨0,13,20⟩ gm mem.length)(hcx:mem.length≤at_)(hpc0:0≤pc)(hpc1:pc≤4294967296)(hrl:rg.length=16)(d:Nat)(hp1:Hp)(hx:hp1 ⟨0,13,0⟩= .box 1 (bxP code inp pc rg M rd steps en o go no) false)(ha:na<16)(hb16:nb<16)(hgb:rg[nb]?=some xb)(hm:hp1 ⟨0,13,20⟩= .arr gm 1 22 (rowW mem) false):
  ∃hp',(lim Tryz.prog E00 X00).hpc 2 d 248 [.ptr ⟨0,13,0⟩ 1 0,.agg [iv 17,iv na,iv nb,iv nc]] hp1=some (iv 8,hp')∧hp' ⟨0,13,0⟩= .box 1 (bxP code inp pc rg M rd steps en o go no) false∧ ∀y:Nm,y.d=0→y≠⟨0,13,0⟩→hp' y=hp1 y:=by
 refine hpcZ Tryz.func248 rfl rfl bodyOk_248 rfl rfl ?_
 have hA:=regA ha
 have hB:=regA hb16
 have hgb':=getV hgb
 have hw:IntKind.i64.wrap (pc+1)=pc+1:=wrap64 (by omega) (by omega)
 obtain⟨F,hF⟩:=skol (C:=fun hp=>hp ⟨0,13,0⟩= .box 1 (bxP code inp pc rg M rd steps en o go no) false∧hp ⟨0,13,20⟩= .arr gm 1 22 (rowW mem) false) (fun d hp (hc:hp ⟨0,13,0⟩= .box 1 (bxP code inp pc rg M rd steps en o go no) false∧hp ⟨0,13,20⟩= .arr gm 1 22 (rowW mem) false)=>m400_17ow na nb nc at_ xb hnc hat mem gm hM hcx hrl d hp hc.1 ha hb16 hgb hc.2)
 have f1:=fun d hp hc=>(hF d hp hc).1
 have f2:=fun d hp hc=>(hF d hp hc).2.1
 have f3:=fun d hp hc=>(hF d hp hc).2.2
 clear hF
 repeat' (first|(refine ZN ?_)|(refine Z2 ?_ ?_)|(intro h h';try simp[*,-h] at h'))
 all_goals exact⟨by simp,_,_,rfl,rfl,by simp[*],Zyb⟩
theorem m363_17iw (na nb nc at_:Nat)(xa xb:Int)(hnc:nc≤65535)(hat:(xb+nc)%4294967296=at_)(mem:List Int)(gm:Nat)(hM:M= .own ⟨0,13,20⟩ gm mem.length)(ho:o=true)(hml0:mem.length≤1048576)(hcx:at_<mem.length)(hpc0:0≤pc)(hpc1:pc≤4294967296)(hrl:rg.length=16)(d:Nat)(hp1:Hp)(hx:hp1 ⟨0,13,0⟩= .box 1 (bxP code inp pc rg M rd steps en o go no) false)(ha:na<16)(hb16:nb<16)(hga:rg[na]?=some xa)(hgb:rg[nb]?=some xb)(hm:hp1 ⟨0,13,20⟩= .arr gm 1 22 (rowW mem) false):
  ∃hp',(lim Tryz.prog E00 X00).hpc 2 d 248 [.ptr ⟨0,13,0⟩ 1 0,.agg [iv 17,iv na,iv nb,iv nc]] hp1=some (iv 0,hp')∧hp' ⟨0,13,0⟩= .box 1 (bxP code inp (pc+1) rg (.own ⟨0,13,20⟩ gm mem.length) rd steps en true go no) false∧hp' ⟨0,13,20⟩= .arr gm 1 22 (rowW (mem.set at_ xa)) false∧ ∀y:Nm,y.d=0→y≠⟨0,13,0⟩→y≠⟨0,13,20⟩→hp' y=hp1 y:=by
 refine hpcZ Tryz.func248 rfl rfl bodyOk_248 rfl rfl ?_
 have hA:=regA ha
 have hB:=regA hb16
 have hga':=getV hga
 have hgb':=getV hgb
 have hw:IntKind.i64.wrap (pc+1)=pc+1:=wrap64 (by omega) (by omega)
 obtain⟨F,hF⟩:=skol (C:=fun hp=>hp ⟨0,13,0⟩= .box 1 (bxP code inp pc rg M rd steps en o go no) false∧hp ⟨0,13,20⟩= .arr gm 1 22 (rowW mem) false) (fun d hp (hc:hp ⟨0,13,0⟩= .box 1 (bxP code inp pc rg M rd steps en o go no) false∧hp ⟨0,13,20⟩= .arr gm 1 22 (rowW mem) false)=>m400_17iw na nb nc at_ xa xb hnc hat mem gm hM ho hml0 hcx hrl d hp hc.1 ha hb16 hga hgb hc.2)
 have f1:=fun d hp hc=>(hF d hp hc).1
 have f2:=fun d hp hc=>(hF d hp hc).2.1
 have f4:=fun d hp hc=>(hF d hp hc).2.2.1
 have f3:=fun d hp hc=>(hF d hp hc).2.2.2
 clear hF
 repeat' (first|(refine ZN ?_)|(refine Z2 ?_ ?_)|(intro h h';try simp[*,-h] at h'))
 all_goals exact⟨by simp,_,_,rfl,rfl,by simp[*],by simp[*],Zyd⟩
theorem m363_23o (na nb nc:Nat)(rdn:Nat)(hrd:rd=rdn)(hr1:inp.size≤rdn)(hpc0:0≤pc)(hpc1:pc≤4294967296)(hrl:rg.length=16)(d:Nat)(hp1:Hp)(hx:hp1 ⟨0,13,0⟩= .box 1 (bxP code inp pc rg M rd steps en o go no) false)(ha:na<16):
  ∃hp',(lim Tryz.prog E00 X00).hpc 2 d 248 [.ptr ⟨0,13,0⟩ 1 0,.agg [iv 23,iv na,iv nb,iv nc]] hp1=some (iv 0,hp')∧hp' ⟨0,13,0⟩= .box 1 (bxP code inp (pc+1) (rg.set na 256) M rd steps en o go no) false∧ ∀y:Nm,y.d=0→y≠⟨0,13,0⟩→hp' y=hp1 y:=by
 refine hpcZ Tryz.func248 rfl rfl bodyOk_248 rfl rfl ?_
 have hA:=regA ha
 have hw:IntKind.i64.wrap (pc+1)=pc+1:=wrap64 (by omega) (by omega)
 obtain⟨F,hF⟩:=skol (C:=fun hp=>hp ⟨0,13,0⟩= .box 1 (bxP code inp pc rg M rd steps en o go no) false) (fun d hp (hc:hp ⟨0,13,0⟩= .box 1 (bxP code inp pc rg M rd steps en o go no) false)=>m401_o na rdn hrd hr1 hrl d hp hc ha)
 have f1:=fun d hp hc=>(hF d hp hc).1
 have f2:=fun d hp hc=>(hF d hp hc).2.1
 have f3:=fun d hp hc=>(hF d hp hc).2.2
 clear hF
 repeat' (first|(refine ZN ?_)|(refine Z2 ?_ ?_)|(intro h h';try simp[*,-h] at h'))
 all_goals exact⟨by simp,_,_,rfl,rfl,by simp[*],Zyb⟩
theorem m363_23i (na nb nc:Nat)(rdn:Nat)(hrd:rd=rdn)(b:UInt8)(hbb:inp.data[rdn]?=some b)(hsz:inp.size≤1048576)(hpc0:0≤pc)(hpc1:pc≤4294967296)(hrl:rg.length=16)(d:Nat)(hp1:Hp)(hx:hp1 ⟨0,13,0⟩= .box 1 (bxP code inp pc rg M rd steps en o go no) false)(ha:na<16):
  ∃hp',(lim Tryz.prog E00 X00).hpc 2 d 248 [.ptr ⟨0,13,0⟩ 1 0,.agg [iv 23,iv na,iv nb,iv nc]] hp1=some (iv 0,hp')∧hp' ⟨0,13,0⟩= .box 1 (bxP code inp (pc+1) (rg.set na (b.toNat:Int)) M ((rdn:Int)+1) steps en o go no) false∧ ∀y:Nm,y.d=0→y≠⟨0,13,0⟩→hp' y=hp1 y:=by
 refine hpcZ Tryz.func248 rfl rfl bodyOk_248 rfl rfl ?_
 have hA:=regA ha
 have hw:IntKind.i64.wrap (pc+1)=pc+1:=wrap64 (by omega) (by omega)
 obtain⟨F,hF⟩:=skol (C:=fun hp=>hp ⟨0,13,0⟩= .box 1 (bxP code inp pc rg M rd steps en o go no) false) (fun d hp (hc:hp ⟨0,13,0⟩= .box 1 (bxP code inp pc rg M rd steps en o go no) false)=>m401_i na rdn hrd b hbb hsz hrl d hp hc ha)
 have f1:=fun d hp hc=>(hF d hp hc).1
 have f2:=fun d hp hc=>(hF d hp hc).2.1
 have f3:=fun d hp hc=>(hF d hp hc).2.2
 clear hF
 repeat' (first|(refine ZN ?_)|(refine Z2 ?_ ?_)|(intro h h';try simp[*,-h] at h'))
 all_goals exact⟨by simp,_,_,rfl,rfl,by simp[*],Zyb⟩
theorem m363_opi (op na nb nc:Nat)(h4:4≤op)(h15:op≤15)(xb xc:Int)(hxb:Ma.U xb)(hxc:Ma.U xc)(v:Int)(hv:apP op xb xc=some v)(hpc0:0≤pc)(hpc1:pc≤4294967296)(hrl:rg.length=16)(d:Nat)(hp1:Hp)(hx:hp1 ⟨0,13,0⟩= .box 1 (bxP code inp pc rg M rd steps en o go no) false)(ha:na<16)(hb16:nb<16)(hc16:nc<16)(hgb:rg[nb]?=some xb)(hgc:rg[nc]?=some xc):
  ∃hp',(lim Tryz.prog E00 X00).hpc 2 d 248 [.ptr ⟨0,13,0⟩ 1 0,.agg [iv op,iv na,iv nb,iv nc]] hp1=some (iv 0,hp')∧hp' ⟨0,13,0⟩= .box 1 (bxP code inp (pc+1) (rg.set na v) M rd steps en o go no) false∧ ∀y:Nm,y.d=0→y≠⟨0,13,0⟩→hp' y=hp1 y:=by
 refine hpcZ Tryz.func248 rfl rfl bodyOk_248 rfl rfl ?_
 have hA:=regA ha
 have hB:=regA hb16
 have hC:=regA hc16
 have hgb':=getV hgb
 have hgc':=getV hgc
 have hw:IntKind.i64.wrap (pc+1)=pc+1:=wrap64 (by omega) (by omega)
 have h402:=m402 op xb xc h4 h15 hxb hxc
 rw[hv] at h402
 simp only[Option.getD_some,Option.getD_none,Option.isSome_some,Option.isSome_none,if_true,if_false,Bool.false_eq_true] at h402
 have e18:((op:Int)==18)=false:=by rw[beq_dec];exact decide_eq_false (by omega)
 have e19:((op:Int)==19)=false:=by rw[beq_dec];exact decide_eq_false (by omega)
 have e20:((op:Int)==20)=false:=by rw[beq_dec];exact decide_eq_false (by omega)
 have e21:((op:Int)==21)=false:=by rw[beq_dec];exact decide_eq_false (by omega)
 have e22:((op:Int)==22)=false:=by rw[beq_dec];exact decide_eq_false (by omega)
 have e1:((op:Int)==1)=false:=by rw[beq_dec];exact decide_eq_false (by omega)
 have e2:((op:Int)==2)=false:=by rw[beq_dec];exact decide_eq_false (by omega)
 have e3:((op:Int)==3)=false:=by rw[beq_dec];exact decide_eq_false (by omega)
 have e16:((op:Int)==16)=false:=by rw[beq_dec];exact decide_eq_false (by omega)
 have e17:((op:Int)==17)=false:=by rw[beq_dec];exact decide_eq_false (by omega)
 have e27:((op:Int)==27)=false:=by rw[beq_dec];exact decide_eq_false (by omega)
 have e23:((op:Int)==23)=false:=by rw[beq_dec];exact decide_eq_false (by omega)
 have e24:((op:Int)==24)=false:=by rw[beq_dec];exact decide_eq_false (by omega)
 have e25:((op:Int)==25)=false:=by rw[beq_dec];exact decide_eq_false (by omega)
 have e26:((op:Int)==26)=false:=by rw[beq_dec];exact decide_eq_false (by omega)
 clear hv hxb hxc h4 h15
 repeat' (first|(refine ZN ?_)|(refine Z2 ?_ ?_)|(intro h h';try simp[*,-h] at h'))
 all_goals exact⟨by simp,_,_,rfl,rfl,by simp[*],Zya⟩
theorem m363_opo (op na nb nc:Nat)(h4:4≤op)(h15:op≤15)(xb xc:Int)(hxb:Ma.U xb)(hxc:Ma.U xc)(hv:apP op xb xc=none)(hpc0:0≤pc)(hpc1:pc≤4294967296)(hrl:rg.length=16)(d:Nat)(hp1:Hp)(hx:hp1 ⟨0,13,0⟩= .box 1 (bxP code inp pc rg M rd steps en o go no) false)(ha:na<16)(hb16:nb<16)(hc16:nc<16)(hgb:rg[nb]?=some xb)(hgc:rg[nc]?=some xc):
  ∃hp',(lim Tryz.prog E00 X00).hpc 2 d 248 [.ptr ⟨0,13,0⟩ 1 0,.agg [iv op,iv na,iv nb,iv nc]] hp1=some (iv 2,hp')∧hp' ⟨0,13,0⟩= .box 1 (bxP code inp pc rg M rd steps en o go no) false∧ ∀y:Nm,y.d=0→y≠⟨0,13,0⟩→hp' y=hp1 y:=by
 refine hpcZ Tryz.func248 rfl rfl bodyOk_248 rfl rfl ?_
 have hA:=regA ha
 have hB:=regA hb16
 have hC:=regA hc16
 have hgb':=getV hgb
 have hgc':=getV hgc
 have hw:IntKind.i64.wrap (pc+1)=pc+1:=wrap64 (by omega) (by omega)
 have h402:=m402 op xb xc h4 h15 hxb hxc
 rw[hv] at h402
 simp only[Option.getD_some,Option.getD_none,Option.isSome_some,Option.isSome_none,if_true,if_false,Bool.false_eq_true] at h402
 have e18:((op:Int)==18)=false:=by rw[beq_dec];exact decide_eq_false (by omega)
 have e19:((op:Int)==19)=false:=by rw[beq_dec];exact decide_eq_false (by omega)
 have e20:((op:Int)==20)=false:=by rw[beq_dec];exact decide_eq_false (by omega)
 have e21:((op:Int)==21)=false:=by rw[beq_dec];exact decide_eq_false (by omega)
 have e22:((op:Int)==22)=false:=by rw[beq_dec];exact decide_eq_false (by omega)
 have e1:((op:Int)==1)=false:=by rw[beq_dec];exact decide_eq_false (by omega)
 have e2:((op:Int)==2)=false:=by rw[beq_dec];exact decide_eq_false (by omega)
 have e3:((op:Int)==3)=false:=by rw[beq_dec];exact decide_eq_false (by omega)
 have e16:((op:Int)==16)=false:=by rw[beq_dec];exact decide_eq_false (by omega)
 have e17:((op:Int)==17)=false:=by rw[beq_dec];exact decide_eq_false (by omega)
 have e27:((op:Int)==27)=false:=by rw[beq_dec];exact decide_eq_false (by omega)
 have e23:((op:Int)==23)=false:=by rw[beq_dec];exact decide_eq_false (by omega)
 have e24:((op:Int)==24)=false:=by rw[beq_dec];exact decide_eq_false (by omega)
 have e25:((op:Int)==25)=false:=by rw[beq_dec];exact decide_eq_false (by omega)
 have e26:((op:Int)==26)=false:=by rw[beq_dec];exact decide_eq_false (by omega)
 clear hv hxb hxc h4 h15
 repeat' (first|(refine ZN ?_)|(refine Z2 ?_ ?_)|(intro h h';try simp[*,-h] at h'))
 all_goals exact⟨by simp,_,_,rfl,rfl,by simp[*],Zya⟩
end
section
open Go Go.Ab Go.Ma
theorem mem_ne {c:Nat}(h:c≠0):(⟨0,13,c⟩:Nm)≠⟨0,13,0⟩:=fun e=>h (by simpa using e)
theorem ne13 {y z:Nm}(h:y.i≠13)(hz:z.i=13):y≠z:=fun e=>h (by rw[e];exact hz)
theorem fin1 {code:List Int}{inp:ByteArray}{s t:PS}{go gm:Nat}{hp1 hp':Hp}(M:Mst code inp s go gm hp1)(hx:hp' ⟨0,13,0⟩= .box 1 (bxP code inp t.pc t.rg (memA t.own gm t.mem) t.rd t.steps t.en t.own go t.out.length) false)
  (ho:t.out=s.out) (hm:t.mem=s.mem) (hw:t.own=s.own) (h3: ∀y:Nm,y.d=0→y≠⟨0,13,0⟩→hp' y=hp1 y):Mst code inp t go gm hp'∧ ∀y:Nm,y.d=0→y.i≠13→hp' y=hp1 y:=
 ⟨⟨hx,by rw[h3 _ rfl (mem_ne (by decide)),M.out,ho],fun h=>by rw[h3 _ rfl (mem_ne (by decide)),hm];exact M.mem (hw▸h)⟩,fun y h0 h1=>h3 y h0 (ne13 h1 rfl)⟩
theorem at_of (x:Int)(n:Nat):(x+n)%4294967296=(((x+n)%4294967296).toNat:Int):=by omega
theorem m363 {code:List Int}{inp:ByteArray}{s:PS}{go gm:Nat}{hp1:Hp}(op na nb nc:Nat)(hs:Ma.Ok inp.size s)(hen:s.en=0)(hr:rightI ⟨op,na,nb,nc⟩=true)(hpc:s.pc≤4294967295)(hml:s.mem.length≤1048576)(hil:inp.size≤1048576)(hst:s.out.length≤65536)
  (M:Mst code inp s go gm hp1) (d:Nat):
  ∃hp' go' gm',(lim Tryz.prog E00 X00).hpc 2 d 248 [.ptr ⟨0,13,0⟩ 1 0,.agg [iv op,iv na,iv nb,iv nc]] hp1=some (iv (doP code (inpF inp) s ⟨op,na,nb,nc⟩).en,hp')∧
   Mst code inp {doP code (inpF inp) s ⟨op,na,nb,nc⟩ with en:=0} go' gm' hp'∧ ∀y:Nm,y.d=0→y.i≠13→hp' y=hp1 y:=by
 obtain⟨⟨o1,o2⟩,⟨_,a1⟩,⟨_,b1⟩,⟨_,c1⟩,c2⟩:=right_bounds hr
 simp only at o1 o2 a1 b1 c1 c2
 have ha:na<16:=by omega
 have hb:nb<16:=by omega
 have hnc:nc≤65535:=by omega
 have hga:=hs.reg (a:=(na:Int)) (by omega) (by omega)
 have hgb:=hs.reg (a:=(nb:Int)) (by omega) (by omega)
 have hrl:=hs.rl
 have hpc0:=hs.pc0
 have hpc1:s.pc≤4294967296:=by omega
 have hol:=hs.ol
 have ho1:(op:Int)≤27:=o2
 obtain⟨pc,rg,mem,rd,out,steps,en,own⟩:=s
 simp only at hen
 subst hen
 simp only[Int.toNat_natCast] at hga hgb
 simp only at hrl hpc0 hpc1 hpc hml hol hst
 obtain⟨xa,hxa⟩: ∃xa,PS.reg ⟨pc,rg,mem,rd,out,steps,0,own⟩ na=xa:=⟨_,rfl⟩
 obtain⟨xb,hxb⟩: ∃xb,PS.reg ⟨pc,rg,mem,rd,out,steps,0,own⟩ nb=xb:=⟨_,rfl⟩
 rw[hxa] at hga
 rw[hxb] at hgb
 obtain⟨at_,hat⟩: ∃at_:Nat,((xb+nc)%4294967296).toNat=at_:=⟨_,rfl⟩
 have hat':(xb+nc)%4294967296=(at_:Int):=by rw[←hat];exact at_of xb nc
 by_cases h415:4≤op∧op≤15
 ·have hc16:nc<16:=by have:=c2 (by omega) (by omega);omega
  have hgc:=hs.reg (a:=(nc:Int)) (by omega) (by omega)
  simp only[Int.toNat_natCast] at hgc
  obtain⟨xc,hxc⟩: ∃xc,PS.reg ⟨pc,rg,mem,rd,out,steps,0,own⟩ nc=xc:=⟨_,rfl⟩
  rw[hxc] at hgc
  have hd:doP code (inpF inp) ⟨pc,rg,mem,rd,out,steps,0,own⟩ ⟨op,na,nb,nc⟩=(apP op xb xc).elim (PS.stop ⟨pc,rg,mem,rd,out,steps,0,own⟩ 2) fun x=>PS.setR ⟨pc,rg,mem,rd,out,steps,0,own⟩ na x:=by
   unfold doP
   simp only[hxb,hxc]
   rw[if_neg (by omega),if_neg (by omega),if_neg (by omega),if_neg (by omega),if_neg (by omega),if_neg (by omega),if_neg (by omega),if_neg (by omega),if_neg (by omega),if_neg (by omega),if_neg (by omega),if_neg (by omega),if_neg (by omega),if_neg (by omega),if_neg (by omega)]
  rw[hd]
  cases hv:apP op xb xc with
  |none=>
   obtain⟨hp',h1,h2,h3⟩:=m363_opo op na nb nc h415.1 h415.2 xb xc hgb.2 hgc.2 hv hpc0 hpc1 hrl d hp1 M.bx ha hb hc16 hgb.1 hgc.1
   exact⟨hp',go,gm,h1,fin1 M h2 rfl rfl rfl h3⟩
  |some v=>
   obtain⟨hp',h1,h2,h3⟩:=m363_opi op na nb nc h415.1 h415.2 xb xc hgb.2 hgc.2 v hv hpc0 hpc1 hrl d hp1 M.bx ha hb hc16 hgb.1 hgc.1
   exact⟨hp',go,gm,h1,fin1 M h2 rfl rfl rfl h3⟩
 have hop:op=1∨op=2∨op=3∨op=16∨op=17∨op=18∨op=19∨op=20∨op=21∨op=22∨op=23∨op=24∨op=25∨op=26∨op=27:=by omega
 rcases hop with rfl|rfl|rfl|rfl|rfl|rfl|rfl|rfl|rfl|rfl|rfl|rfl|rfl|rfl|rfl
 ·obtain⟨hp',h1,h2,h3⟩:=m363_1 na nb nc hnc hpc0 hpc1 hrl d hp1 M.bx ha
  exact⟨hp',go,gm,h1,fin1 M h2 rfl rfl rfl h3⟩
 ·have hd:doP code (inpF inp) ⟨pc,rg,mem,rd,out,steps,0,own⟩ ⟨(2:Nat),na,nb,nc⟩=PS.setR ⟨pc,rg,mem,rd,out,steps,0,own⟩ na (xa%65536+(nc:Int)*65536):=by rw[←hxa];rfl
  rw[hd]
  obtain⟨hp',h1,h2,h3⟩:=m363_2 na nb nc xa hga.2 hnc hpc0 hpc1 hrl d hp1 M.bx ha hga.1
  exact⟨hp',go,gm,h1,fin1 M h2 rfl rfl rfl h3⟩
 ·have hd:doP code (inpF inp) ⟨pc,rg,mem,rd,out,steps,0,own⟩ ⟨(3:Nat),na,nb,nc⟩=PS.setR ⟨pc,rg,mem,rd,out,steps,0,own⟩ na xb:=by rw[←hxb];rfl
  rw[hd]
  obtain⟨hp',h1,h2,h3⟩:=m363_3 na nb nc xb hpc0 hpc1 hrl d hp1 M.bx ha hb hgb.1
  exact⟨hp',go,gm,h1,fin1 M h2 rfl rfl rfl h3⟩
 ·have hd:doP code (inpF inp) ⟨pc,rg,mem,rd,out,steps,0,own⟩ ⟨(16:Nat),na,nb,nc⟩=mem[at_]?.elim (PS.stop ⟨pc,rg,mem,rd,out,steps,0,own⟩ 8) fun x=>PS.setR ⟨pc,rg,mem,rd,out,steps,0,own⟩ na x:=by rw[←hat,←hxb];rfl
  rw[hd]
  cases hv:mem[at_]? with
  |none=>
   have hcx:mem.length≤at_:=List.getElem?_eq_none_iff.1 hv
   cases own with
   |false=>
    obtain⟨hp',h1,h2,h3⟩:=m363_16os na nb nc at_ xb hnc hat' mem gm rfl hcx hpc0 hpc1 hrl d hp1 M.bx ha hb hgb.1
    exact⟨hp',go,gm,h1,fin1 M h2 rfl rfl rfl h3⟩
   |true=>
    obtain⟨hp',h1,h2,h3⟩:=m363_16ow na nb nc at_ xb hnc hat' mem gm rfl hcx hpc0 hpc1 hrl d hp1 M.bx ha hb hgb.1 (M.mem rfl)
    exact⟨hp',go,gm,h1,fin1 M h2 rfl rfl rfl h3⟩
  |some x=>
   cases own with
   |false=>
    obtain⟨hp',h1,h2,h3⟩:=m363_16is na nb nc at_ xb hnc hat' mem gm rfl x hv hpc0 hpc1 hrl d hp1 M.bx ha hb hgb.1
    exact⟨hp',go,gm,h1,fin1 M h2 rfl rfl rfl h3⟩
   |true=>
    obtain⟨hp',h1,h2,h3⟩:=m363_16iw na nb nc at_ xb hnc hat' mem gm rfl x hv hpc0 hpc1 hrl d hp1 M.bx ha hb hgb.1 (M.mem rfl)
    exact⟨hp',go,gm,h1,fin1 M h2 rfl rfl rfl h3⟩
 ·have hd:doP code (inpF inp) ⟨pc,rg,mem,rd,out,steps,0,own⟩ ⟨(17:Nat),na,nb,nc⟩=if at_<mem.length then⟨pc+1,rg,mem.set at_ xa,rd,out,steps,0,true⟩ else PS.stop ⟨pc,rg,mem,rd,out,steps,0,own⟩ 8:=by rw[←hat,←hxb,←hxa];rfl
  rw[hd]
  by_cases hcx:at_<mem.length
  ·rw[if_pos hcx]
   cases own with
   |false=>
    obtain⟨hp',h1,h2,h4,h3⟩:=m363_17is na nb nc at_ xa xb hnc hat' mem gm rfl rfl hml hcx hpc0 hpc1 hrl d hp1 M.bx ha hb hga.1 hgb.1
    refine⟨hp',go,_,h1,⟨?_,?_,fun _=>h4⟩,fun y h0 h1=>h3 y h0 (ne13 h1 rfl) (ne13 h1 rfl)⟩
    ·simpa[memA] using h2
    ·rw[h3 _ rfl (mem_ne (by decide)) (by simp)];exact M.out
   |true=>
    obtain⟨hp',h1,h2,h4,h3⟩:=m363_17iw na nb nc at_ xa xb hnc hat' mem gm rfl rfl hml hcx hpc0 hpc1 hrl d hp1 M.bx ha hb hga.1 hgb.1 (M.mem rfl)
    refine⟨hp',go,gm,h1,⟨?_,?_,fun _=>h4⟩,fun y h0 h1=>h3 y h0 (ne13 h1 rfl) (ne13 h1 rfl)⟩
    ·simpa[memA] using h2
    ·rw[h3 _ rfl (mem_ne (by decide)) (by simp)];exact M.out
  ·rw[if_neg hcx]
   have hcx:mem.length≤at_:=by omega
   cases own with
   |false=>
    obtain⟨hp',h1,h2,h3⟩:=m363_17os na nb nc at_ xb hnc hat' mem gm rfl hcx hpc0 hpc1 hrl d hp1 M.bx ha hb hgb.1
    exact⟨hp',go,gm,h1,fin1 M h2 rfl rfl rfl h3⟩
   |true=>
    obtain⟨hp',h1,h2,h3⟩:=m363_17ow na nb nc at_ xb hnc hat' mem gm rfl hcx hpc0 hpc1 hrl d hp1 M.bx ha hb hgb.1 (M.mem rfl)
    exact⟨hp',go,gm,h1,fin1 M h2 rfl rfl rfl h3⟩
 ·obtain⟨hp',h1,h2,h3⟩:=m363_18 na nb nc hpc0 hpc1 hrl d hp1 M.bx
  exact⟨hp',go,gm,h1,fin1 M h2 rfl rfl rfl h3⟩
 ·have hd:doP code (inpF inp) ⟨pc,rg,mem,rd,out,steps,0,own⟩ ⟨(19:Nat),na,nb,nc⟩=PS.goto ⟨pc,rg,mem,rd,out,steps,0,own⟩ (if xa=0 then(nc:Int) else pc+1):=by rw[←hxa];rfl
  rw[hd]
  obtain⟨hp',h1,h2,h3⟩:=m363_19 na nb nc xa hpc0 hpc1 hrl d hp1 M.bx ha hga.1
  exact⟨hp',go,gm,h1,fin1 M h2 rfl rfl rfl h3⟩
 ·have hd:doP code (inpF inp) ⟨pc,rg,mem,rd,out,steps,0,own⟩ ⟨(20:Nat),na,nb,nc⟩=PS.goto ⟨pc,rg,mem,rd,out,steps,0,own⟩ (if xa≠0 then(nc:Int) else pc+1):=by rw[←hxa];rfl
  rw[hd]
  obtain⟨hp',h1,h2,h3⟩:=m363_20 na nb nc xa hpc0 hpc1 hrl d hp1 M.bx ha hga.1
  exact⟨hp',go,gm,h1,fin1 M h2 rfl rfl rfl h3⟩
 ·obtain⟨hp',h1,h2,h3⟩:=m363_21 na nb nc hpc0 hpc1 hrl d hp1 M.bx ha
  exact⟨hp',go,gm,h1,fin1 M h2 rfl rfl rfl h3⟩
 ·have hd:doP code (inpF inp) ⟨pc,rg,mem,rd,out,steps,0,own⟩ ⟨(22:Nat),na,nb,nc⟩=PS.goto ⟨pc,rg,mem,rd,out,steps,0,own⟩ xa:=by rw[←hxa];rfl
  rw[hd]
  obtain⟨hp',h1,h2,h3⟩:=m363_22 na nb nc xa hga.2 hpc0 hpc1 hrl d hp1 M.bx ha hga.1
  exact⟨hp',go,gm,h1,fin1 M h2 rfl rfl rfl h3⟩
 ·have hd:doP code (inpF inp) ⟨pc,rg,mem,rd,out,steps,0,own⟩ ⟨(23:Nat),na,nb,nc⟩=(inpF inp rd).elim (PS.setR ⟨pc,rg,mem,rd,out,steps,0,own⟩ na 256) fun b=>⟨pc+1,rg.set na b,mem,rd+1,out,steps,0,own⟩:=rfl
  rw[hd]
  unfold inpF
  cases hv:inp.data[rd]? with
  |none=>
   obtain⟨hp',h1,h2,h3⟩:=m363_23o na nb nc rd rfl (by simpa using hv) hpc0 hpc1 hrl d hp1 M.bx ha
   exact⟨hp',go,gm,h1,fin1 M h2 rfl rfl rfl h3⟩
  |some b=>
   obtain⟨hp',h1,h2,h3⟩:=m363_23i na nb nc rd rfl b hv hil hpc0 hpc1 hrl d hp1 M.bx ha
   exact⟨hp',go,gm,h1,fin1 M h2 rfl rfl rfl h3⟩
 ·have hd:doP code (inpF inp) ⟨pc,rg,mem,rd,out,steps,0,own⟩ ⟨(24:Nat),na,nb,nc⟩=if 65536≤out.length then PS.stop ⟨pc,rg,mem,rd,out,steps,0,own⟩ 4 else⟨pc+1,rg,mem,rd,out++[xa%256],steps,0,own⟩:=by rw[←hxa];rfl
  rw[hd]
  by_cases hc:65536≤out.length
  ·rw[if_pos hc]
   obtain⟨hp',h1,h2,h3⟩:=m363_24o na nb nc hc (by omega) out rfl hpc0 hpc1 hrl d hp1 M.bx ha M.out
   exact⟨hp',go,gm,h1,fin1 M h2 rfl rfl rfl h3⟩
  ·rw[if_neg hc]
   obtain⟨hp',h1,h2,h4,h3⟩:=m363_24i na nb nc xa hga.2 (by omega) out rfl hpc0 hpc1 hrl d hp1 M.bx ha hga.1 M.out
   refine⟨hp',go+1,gm,h1,⟨?_,h4,fun h=>?_⟩,fun y h0 h1=>h3 y h0 (ne13 h1 rfl) (ne13 h1 rfl)⟩
   ·simpa using h2
   ·rw[h3 _ rfl (mem_ne (by decide)) (by simp)];exact M.mem h
 ·have hd:doP code (inpF inp) ⟨pc,rg,mem,rd,out,steps,0,own⟩ ⟨(25:Nat),na,nb,nc⟩=if (nc:Int)≤xa then PS.stop ⟨pc,rg,mem,rd,out,steps,0,own⟩ 3 else PS.goto ⟨pc,rg,mem,rd,out,steps,0,own⟩ (pc+1):=by rw[←hxa];rfl
  rw[hd]
  by_cases hc:(nc:Int)≤xa
  ·rw[if_pos hc]
   obtain⟨hp',h1,h2,h3⟩:=m363_25o na nb nc xa hnc hc hpc0 hpc1 hrl d hp1 M.bx ha hga.1
   exact⟨hp',go,gm,h1,fin1 M h2 rfl rfl rfl h3⟩
  ·rw[if_neg hc]
   obtain⟨hp',h1,h2,h3⟩:=m363_25i na nb nc xa hnc (by omega) hpc0 hpc1 hrl d hp1 M.bx ha hga.1
   exact⟨hp',go,gm,h1,fin1 M h2 rfl rfl rfl h3⟩
 ·obtain⟨hp',h1,h2,h3⟩:=m363_26 na nb nc hpc0 hpc1 hrl d hp1 M.bx
  exact⟨hp',go,gm,h1,fin1 M h2 rfl rfl rfl h3⟩
 ·have hd:doP code (inpF inp) ⟨pc,rg,mem,rd,out,steps,0,own⟩ ⟨(27:Nat),na,nb,nc⟩=code[at_]?.elim (PS.stop ⟨pc,rg,mem,rd,out,steps,0,own⟩ 8) fun x=>PS.setR ⟨pc,rg,mem,rd,out,steps,0,own⟩ na x:=by rw[←hat,←hxb];rfl
  rw[hd]
  cases hv:code[at_]? with
  |none=>
   obtain⟨hp',h1,h2,h3⟩:=m363_27o na nb nc at_ xb hnc hat' (List.getElem?_eq_none_iff.1 hv) hpc0 hpc1 hrl d hp1 M.bx ha hb hgb.1
   exact⟨hp',go,gm,h1,fin1 M h2 rfl rfl rfl h3⟩
  |some x=>
   obtain⟨hp',h1,h2,h3⟩:=m363_27i na nb nc at_ xb hnc hat' x hv hpc0 hpc1 hrl d hp1 M.bx ha hb hgb.1
   exact⟨hp',go,gm,h1,fin1 M h2 rfl rfl rfl h3⟩
end
section
open Go Go.Ab Go.Ma
attribute [-simp] Prog.bind getCs putCs
attribute [local simp ↓] run_bind
attribute [local simp ↓] runF_bind
attribute [local simp] run_getCsN runF_getCsN facetsC putCs_one run_putCsN
attribute [local simp] take1 bx_len bx_2 bx_19 bx_20 bx_21 bx_22 bx_23 bx_24 bx_25 bx_reg bs_2 bs_19 bs_20 bs_22 bs_23 bs_24 bs_25 bs_reg bx_regg bg_2 bg_19 bg_20 bg_21 bg_22 bg_23 bg_24 bg_25
variable {code:List Int}{inp:ByteArray}{pc:Int}{rg:List Int}{M:AV}{rd steps en:Int}{o:Bool}{go no:Nat}
theorem Wo_do {code:List Int}{inp:ByteArray}{s:PS}{go gm:Nat}(op na nb nc:Nat)(hs:Ma.Ok inp.size s)(hen:s.en=0)(hr:rightI ⟨op,na,nb,nc⟩=true)(hpc:s.pc≤4294967295)(hml:s.mem.length≤1048576)(hil:inp.size≤1048576)
  {all:Array Oper} {os:List Oper} {fr:Nat→AV} {hp:Hp} {Q:AS→Prop} {PQ:Value→Hp→Prop} {ats:Array TypeId} {ty:TypeId} {pos:String} {aft:Array Edge} (M:Mst code inp s go gm hp) (h65:fr 65= .ptr ⟨0,13,0⟩ 1 0) (h66:fr 66= .agg [iv op,iv na,iv nb,iv nc])
  (rest: ∀hp' go' gm',Mst code inp {doP code (inpF inp) s ⟨op,na,nb,nc⟩ with en:=0} go' gm' hp'→(∀y:Nm,y.d=0→y.i≠13→hp' y=hp y)→Wo Tryz.prog E00 2 (lim Tryz.prog E00 X00) all os ⟨setd fr (some 67) (iv (doP code (inpF inp) s ⟨op,na,nb,nc⟩).en),hp'⟩ Q PQ):
  Wo Tryz.prog E00 2 (lim Tryz.prog E00 X00) all (⟨some 67,.call {callee:= .value (.func 248),args:= #[.tmp 65,.tmp 66],argTypes:=ats},ty,pos,aft,none⟩::os) ⟨fr,hp⟩ Q PQ:=by
 obtain⟨hp',go',gm',h1,M',h3⟩:=m363 op na nb nc hs hen hr hpc hml hil hs.ol M 67
 refine Wo_u ?_ (rest hp' go' gm' M' h3)
 refine(call_run rfl okFn_248 (by decide) (by simp) (by simp only[List.map_cons,List.map_nil,opA,List.append_nil,h65,h66];exact rfl)).trans ?_
 simp[Prog.run,h1]
theorem m287_o (hcx:(code.length:Int)≤pc)(hpc0:0≤pc)(hpc1:pc≤4294967296)(hen:en=0)(hrl:rg.length=16)(d:Nat)(hp1:Hp)(hx:hp1 ⟨0,13,0⟩= .box 1 (bxP code inp pc rg M rd steps en o go no) false):
  ∃hp',(lim Tryz.prog E00 X00).hpc 1 d 194 [.ptr ⟨0,13,0⟩ 1 0] hp1=some (bv false,hp')∧hp' ⟨0,13,0⟩= .box 1 (bxP code inp pc rg M rd steps 7 o go no) false∧ ∀y:Nm,y.d=0→y≠⟨0,13,0⟩→hp' y=hp1 y:=by
 refine hpcZ Tryz.func194 rfl rfl bodyOk_194 rfl rfl ?_
 subst hen
 have q0: ¬pc<0:=by omega
 repeat' (first|(refine ZN ?_)|(refine Z2 ?_ ?_)|(intro h h';try simp[*,-h] at h'))
 all_goals exact⟨by simp,_,_,rfl,rfl,by simp[*],Zya⟩
theorem m287_b (pn:Nat)(hpn:pc=pn)(w:Int)(hw:code[pn]?=some w)(hwU:Ma.U w)(hr:rightI (insW w)=false)(stn:Nat)(hst:steps=stn)(hst1:stn<9223372036854775806)(hpc0:0≤pc)(hpc1:pc≤4294967296)(hen:en=0)(hrl:rg.length=16)(d:Nat)(hp1:Hp)(hx:hp1 ⟨0,13,0⟩= .box 1 (bxP code inp pc rg M rd steps en o go no) false):
  ∃hp',(lim Tryz.prog E00 X00).hpc 1 d 194 [.ptr ⟨0,13,0⟩ 1 0] hp1=some (bv true,hp')∧hp' ⟨0,13,0⟩= .box 1 (bxP code inp pc rg M rd ((stn:Int)+1) 6 o go no) false∧ ∀y:Nm,y.d=0→y≠⟨0,13,0⟩→hp' y=hp1 y:=by
 refine hpcZ Tryz.func194 rfl rfl bodyOk_194 rfl rfl ?_
 subst hen hpn hst
 have q0: ¬(pn:Int)<0:=by omega
 have q1: ¬(code.length:Int)≤pn:=by have:=(List.getElem?_eq_some_iff.1 hw).1;omega
 have q2:pn<code.length:=(List.getElem?_eq_some_iff.1 hw).1
 have q3:=getV hw
 have q4:=wrapN (k:=stn) (by omega)
 have h362:=m362 w hwU
 unfold decP at h362
 rw[hr] at h362
 simp only[Bool.false_eq_true,if_false] at h362
 have q5: ∀h,(rowW code)[pn]'h=[uv w]:=fun h=>by rw[List.getElem_map,q3]
 repeat' (first|(refine ZN ?_)|(refine Z2 ?_ ?_)|(intro h h';try simp[*,-h] at h'))
 all_goals exact⟨by simp,_,_,rfl,rfl,by simp[*],Zya⟩
end
section
open Go Go.Ab Go.Ma
attribute [-simp] Prog.bind getCs putCs
attribute [local simp ↓] run_bind
attribute [local simp ↓] runF_bind
attribute [local simp] run_getCsN runF_getCsN facetsC putCs_one run_putCsN
attribute [local simp] take1 bx_len bx_2 bx_19 bx_20 bx_21 bx_22 bx_23 bx_24 bx_25 bx_reg bs_2 bs_19 bs_20 bs_22 bs_23 bs_24 bs_25 bs_reg bx_regg bg_2 bg_19 bg_20 bg_21 bg_22 bg_23 bg_24 bg_25
theorem m287_d {code:List Int}{inp:ByteArray}{s:PS}{go gm:Nat}(w:Int)(hw:code[s.pc.toNat]?=some w)(hwU:Ma.U w)(hr:rightI (insW w)=true)(hs:Ma.Ok inp.size s)(hen:s.en=0)(hml:s.mem.length≤1048576)(hil:inp.size≤1048576)(hcl:code.length≤1048576)(hst1:s.steps<9223372036854775806)
  {hp1:Hp} (M:Mst code inp s go gm hp1) (hcU: ∀x∈code,Ma.U x) (hin: ∀k b,inpF inp k=some b→k<inp.size∧0≤b∧b<256) (d:Nat):
  ∃hp' go' gm',(lim Tryz.prog E00 X00).hpc 1 d 194 [.ptr ⟨0,13,0⟩ 1 0] hp1=some (bv true,hp')∧Mst code inp (doP code (inpF inp) {s with steps:=s.steps+1} (insW w)) go' gm' hp'∧ ∀y:Nm,y.d=0→y.i≠13→hp' y=hp1 y:=by
 have key: ∃z hp',(lim Tryz.prog E00 X00).hpc 1 d 194 [.ptr ⟨0,13,0⟩ 1 0] hp1=some (z,hp')∧(z=bv true∧ ∃go' gm',Mst code inp (doP code (inpF inp) {s with steps:=s.steps+1} (insW w)) go' gm' hp'∧ ∀y:Nm,y.d=0→y.i≠13→hp' y=hp1 y):=by
  refine lim_hpcW (R:=fun z hp'=>z=bv true∧ ∃go' gm',Mst code inp (doP code (inpF inp) {s with steps:=s.steps+1} (insW w)) go' gm' hp'∧ ∀y:Nm,y.d=0→y.i≠13→hp' y=hp1 y) Tryz.func194 rfl rfl bodyOk_194 rfl rfl ?_
  have hs1:Ma.Ok inp.size {s with steps:=s.steps+1}:={pc0:=hs.pc0,pc1:=hs.pc1,rl:=hs.rl,ru:=hs.ru,mu:=hs.mu,rd:=hs.rd,ou:=hs.ou,ol:=hs.ol,en0:=hs.en0,en1:=hs.en1}
  obtain⟨pn,hpn⟩: ∃pn:Nat,s.pc=pn:=⟨s.pc.toNat,(Int.toNat_of_nonneg hs.pc0).symm⟩
  have hx:=M.bx
  rw[hpn,Int.toNat_natCast] at hw
  rw[hpn,hen] at hx
  have hrl:=hs.rl
  have q0: ¬(pn:Int)<0:=by omega
  have q2:pn<code.length:=(List.getElem?_eq_some_iff.1 hw).1
  have q1: ¬(code.length:Int)≤pn:=by omega
  have q3:=getV hw
  have q4:=wrapN (k:=s.steps) (by omega)
  have h362:=m362 w hwU
  have hins:insW w=⟨((w/16777216).toNat:Int),((w/1048576%16).toNat:Int),((w/65536%16).toNat:Int),((w%65536).toNat:Int)⟩:=by
   unfold insW;unfold Ma.U at hwU
   congr 1<;>omega
  unfold decP at h362
  rw[hr] at h362
  simp only[if_true] at h362
  have hok:Ma.Ok inp.size (doP code (inpF inp) {s with steps:=s.steps+1} (insW w)):=doP_ok hs1 hcU hin hr (by show s.pc+1≤_;omega)
  rw[hins] at h362 hr hok⊢
  simp only at h362
  generalize (w/16777216).toNat=op at*
  generalize (w/1048576%16).toNat=na at*
  generalize (w/65536%16).toNat=nb at*
  generalize (w%65536).toNat=nc at*
  clear hins
  have q5: ∀h,(rowW code)[pn]'h=[uv w]:=fun h=>by rw[List.getElem_map,q3]
  have hMo:=M.out
  repeat' (first|(refine ZN ?_)|(refine Z2 ?_ ?_)|(intro h h';try simp[*,-h] at h'))
  all_goals
   refine Wo_do op na nb nc hs1 hen hr (by show s.pc≤_;omega) hml hil (code:=code) (go:=go) (gm:=gm) ⟨by simp[*],by simp[*],fun h=>by have:=M.mem h;simp[*]⟩ (by simp) (by simp) ?_
   intro hp2 go2 gm2 M2 h32
   have hx2:=M2.bx
   have hrl2:=hok.rl
   have ho2:=M2.out
   have hm2:=M2.mem
   simp only at hx2 ho2 hm2
   clear hs1 hok hcU hin h362 M2 hx
   generalize doP code (inpF inp) {s with steps:=s.steps+1} ⟨(op:Int),na,nb,nc⟩=t at*
   have hb:=bne_dec t.en 0
   by_cases he:t.en=0
   all_goals simp only[he,ne_eq,not_true,not_false_iff,decide_true,decide_false] at hb
   all_goals
    repeat' (first|(refine ZN ?_)|(refine Z2 ?_ ?_)|(intro h h';try simp[*,-h] at h'))
   ·exact⟨by simp,_,_,rfl,rfl,go2,gm2,⟨by simp[*],by simp[*],fun h=>by have:=hm2 h;simp[*]⟩,fun y h0 h1=>by have h3:=h32 y h0 h1;exact(by have e1: ∀k i,y≠⟨k+1,i,0⟩:=fun k i e=>(by subst e;simp at h0);have e2: ∀i,y≠⟨1,i,0⟩:=fun i=>e1 0 i;have e3: ∀i,y≠⟨2,i,0⟩:=fun i=>e1 1 i;have e4: ∀i,y≠⟨3,i,0⟩:=fun i=>e1 2 i;have e5: ∀i,y≠⟨4,i,0⟩:=fun i=>e1 3 i;(have e6:y≠⟨0,13,0⟩:=ne13 h1 rfl;simp[*]))⟩
   ·exact⟨by simp,_,_,rfl,rfl,go2,gm2,⟨by simp[*],by simp[*],fun h=>by have:=hm2 h;simp[*]⟩,fun y h0 h1=>by have h3:=h32 y h0 h1;exact(by have e1: ∀k i,y≠⟨k+1,i,0⟩:=fun k i e=>(by subst e;simp at h0);have e2: ∀i,y≠⟨1,i,0⟩:=fun i=>e1 0 i;have e3: ∀i,y≠⟨2,i,0⟩:=fun i=>e1 1 i;have e4: ∀i,y≠⟨3,i,0⟩:=fun i=>e1 2 i;have e5: ∀i,y≠⟨4,i,0⟩:=fun i=>e1 3 i;(have e6:y≠⟨0,13,0⟩:=ne13 h1 rfl;simp[*]))⟩
 obtain⟨z,hp',h1,rfl,go',gm',h2⟩:=key
 exact⟨hp',go',gm',h1,h2⟩
end
end Go.Proofs.YtpedpkegmalgmaaGreatDoor.M
namespace Go.Ma
section
theorem doP_mem (code:List Int)(inp:Inp)(s:PS)(i:Ins):(doP code inp s i).mem.length=s.mem.length:=by
 have I: ∀{c:Prop} [Decidable c] {a b:PS},a.mem.length=s.mem.length→b.mem.length=s.mem.length→(if c then a else b).mem.length=s.mem.length:=fun h1 h2=>ite_ind (p:=fun t:PS=>t.mem.length=s.mem.length) (fun _=>h1) fun _=>h2
 have E: ∀{o:Option Int} {b:PS} {f:Int→PS},b.mem.length=s.mem.length→(∀x,(f x).mem.length=s.mem.length)→(o.elim b f).mem.length=s.mem.length:=fun h1 h2=>elim_ind (p:=fun t:PS=>t.mem.length=s.mem.length) (fun _=>h1) fun x _=>h2 x
 unfold doP
 exact I rfl (I rfl (I rfl (I (E rfl fun _=>rfl) (I (I (List.length_set ..) rfl) (I rfl (I rfl (I rfl (I rfl (I rfl (I (E rfl fun _=>rfl) (I (I rfl rfl) (I (I rfl rfl) (I rfl (I (E rfl fun _=>rfl) (E rfl fun _=>rfl)))))))))))))))
theorem stepP_mem (code:List Int)(inp:Inp)(s:PS):(stepP code inp s).mem.length=s.mem.length:=by
 unfold stepP
 refine ite_ind (p:=fun t:PS=>t.mem.length=s.mem.length) (fun _=>rfl) fun _=>elim_ind (p:=fun t:PS=>t.mem.length=s.mem.length) (fun _=>rfl) fun w _=>?_
 refine ite_ind (p:=fun t:PS=>t.mem.length=s.mem.length) (fun _=>?_) fun _=>rfl
 exact doP_mem ..
theorem runP_end {code:List Int}{inp:Inp}{s:PS}(h:s.en≠0): ∀k,runP code inp k s=s
 |0=>rfl
 |k+1=>by unfold runP;rw[if_neg h]
structure Run (code:List Int)(inp:Inp)(n F:Nat)(s0:PS)(k:Nat)(t:PS):Prop where
 le:k≤F
 ok:Ok n t
 st:t.steps≤s0.steps+k
 mem:t.mem.length=s0.mem.length
 to:runP code inp (F - k) t=runP code inp F s0
theorem Run.start {code:List Int}{inp:Inp}{n:Nat}(F:Nat){s:PS}(h:Ok n s):Run code inp n F s 0 s:=⟨Nat.zero_le _,h,Nat.le_refl _,rfl,rfl⟩
theorem Run.next {code:List Int}{inp:Inp}{n F:Nat}{s0:PS}{k:Nat}{t:PS}(h:Run code inp n F s0 k t)(hk:k<F)(he:t.en=0)(hl:code.length≤4294967295)(hc: ∀x∈code,U x)(hi: ∀k b,inp k=some b→k<n∧0≤b∧b<256):Run code inp n F s0 (k+1) (stepP code inp t):=
 ⟨hk,stepP_ok h.ok hl hc hi,by have:=stepP_steps code inp t;have:=h.st;omega,by rw[stepP_mem,h.mem],by
  rw[←h.to]
  obtain⟨j,hj⟩: ∃j,F - k=j+1:=⟨F - k - 1,by omega⟩
  rw[hj,show F - (k+1)=j from by omega,runP,if_pos he]⟩
theorem Run.done {code:List Int}{inp:Inp}{n F:Nat}{s0:PS}{k:Nat}{t:PS}(h:Run code inp n F s0 k t)(hk:k=F∨t.en≠0):t=runP code inp F s0:=by
 rw[←h.to]
 rcases hk with rfl|hk
 ·rw[Nat.sub_self];rfl
 ·rw[runP_end hk]
end
end Go.Ma
namespace Go.Proofs.YtpedpkegmalgmaaGreatDoor.M
section
open Go Go.Ab Go.Ma
attribute [-simp] Prog.bind getCs putCs
attribute [local simp ↓] run_bind
attribute [local simp ↓] runF_bind
attribute [local simp] run_getCsN runF_getCsN facetsC putCs_one run_putCsN
attribute [local simp] take1 bx_len bx_2 bx_19 bx_20 bx_21 bx_22 bx_23 bx_24 bx_25 bx_reg bs_2 bs_19 bs_20 bs_22 bs_23 bs_24 bs_25 bs_reg bx_regg bg_2 bg_19 bg_20 bg_21 bg_22 bg_23 bg_24 bg_25
variable {code:List Int}{inp:ByteArray}{pc:Int}{rg:List Int}{M:AV}{rd steps en:Int}{o:Bool}{go no:Nat}
theorem inpF_spec (inp:ByteArray): ∀k b,inpF inp k=some b→k<inp.size∧0≤b∧b<256:=by
 intro k b h
 unfold inpF at h
 cases hd:inp.data[k]? with
 |none=>rw[hd] at h;cases h
 |some x=>
  rw[hd] at h
  cases h
  have:=x.toNat_lt
  exact⟨(Array.getElem?_eq_some_iff.1 hd).1,Int.natCast_nonneg _,(by omega:(x.toNat:Int)<256)⟩
theorem m287 {code:List Int}{inp:ByteArray}{s:PS}{go gm:Nat}(hs:Ma.Ok inp.size s)(hen:s.en=0)(hml:s.mem.length≤1048576)(hil:inp.size≤1048576)(hcl:code.length≤1048576)(hst1:s.steps<9223372036854775806)(hcU: ∀x∈code,Ma.U x)
  {hp1:Hp} (M:Mst code inp s go gm hp1) (d:Nat):
  ∃b hp' go' gm',(lim Tryz.prog E00 X00).hpc 1 d 194 [.ptr ⟨0,13,0⟩ 1 0] hp1=some (bv b,hp')∧Mst code inp (stepP code (inpF inp) s) go' gm' hp'∧ ∀y:Nm,y.d=0→y.i≠13→hp' y=hp1 y:=by
 have h0:=hs.pc0
 have hpt:=Int.toNat_of_nonneg h0
 unfold stepP
 rw[if_neg (by omega)]
 cases hw:code[s.pc.toNat]? with
 |none=>
  have hcx:(code.length:Int)≤s.pc:=by have:=List.getElem?_eq_none_iff.1 hw;omega
  obtain⟨hp',h1,h2,h3⟩:=m287_o hcx h0 (hs.pc1) hen hs.rl d hp1 M.bx
  exact⟨false,hp',go,gm,h1,fin1 M h2 rfl rfl rfl h3⟩
 |some w=>
  have hwU:=hcU w (List.mem_of_getElem? hw)
  have hlt:=(List.getElem?_eq_some_iff.1 hw).1
  simp only[Option.elim_some]
  cases hr:rightI (insW w) with
  |false=>
   obtain⟨hp',h1,h2,h3⟩:=m287_b s.pc.toNat hpt.symm w hw hwU hr s.steps rfl hst1 h0 (hs.pc1) hen hs.rl d hp1 M.bx
   exact⟨true,hp',go,gm,h1,fin1 M (t:={s with steps:=s.steps+1,en:=6}) h2 rfl rfl rfl h3⟩
  |true=>
   obtain⟨hp',go',gm',h1,h2,h3⟩:=m287_d w hw hwU hr hs hen hml hil hcl hst1 M hcU (inpF_spec inp) d
   exact⟨true,hp',go',gm',h1,h2,h3⟩
theorem Wo_step {code:List Int}{inp:ByteArray}{s:PS}{go gm:Nat}(hs:Ma.Ok inp.size s)(hen:s.en=0)(hml:s.mem.length≤1048576)(hil:inp.size≤1048576)(hcl:code.length≤1048576)(hst1:s.steps<9223372036854775806)(hcU: ∀x∈code,Ma.U x)
  {l:Nat} {all:Array Oper} {os:List Oper} {fr:Nat→AV} {hp:Hp} {Q:AS→Prop} {PQ:Value→Hp→Prop} {ats:Array TypeId} {ty:TypeId} {pos:String} {aft:Array Edge} (M:Mst code inp s go gm hp) (h17:fr 17= .ptr ⟨0,13,0⟩ 1 0)
  (rest: ∀b hp' go' gm',Mst code inp (stepP code (inpF inp) s) go' gm' hp'→(∀y:Nm,y.d=0→y.i≠13→hp' y=hp y)→Wo Tryz.prog (E0y l) 1 (lim Tryz.prog E00 X00) all os ⟨setd fr (some 18) (bv b),hp'⟩ Q PQ):
  Wo Tryz.prog (E0y l) 1 (lim Tryz.prog E00 X00) all (⟨some 18,.call {callee:= .value (.func 194),args:= #[.tmp 17],argTypes:=ats},ty,pos,aft,none⟩::os) ⟨fr,hp⟩ Q PQ:=by
 obtain⟨b,hp',go',gm',h1,M',h3⟩:=m287 hs hen hml hil hcl hst1 hcU M 18
 refine Wo_u ?_ (rest b hp' go' gm' M' h3)
 refine(call_run rfl okFn_194 (by decide) (by simp) (by simp only[List.map_cons,List.map_nil,opA,List.append_nil,h17];exact rfl)).trans ?_
 simp[Prog.run,h1]
theorem m285 (hrl:rg.length=16)(d:Nat)(hp1:Hp)(hx:hp1 ⟨0,13,0⟩= .box 1 (bxP code inp pc rg M rd steps en o go no) false):(lim Tryz.prog E00 X00).hpc 1 d 192 [.ptr ⟨0,13,0⟩ 1 0] hp1=some (bv (en==0),hp1):=by
 have key: ∃z hp',(lim Tryz.prog E00 X00).hpc 1 d 192 [.ptr ⟨0,13,0⟩ 1 0] hp1=some (z,hp')∧(z=bv (en==0)∧hp'=hp1):=by
  refine lim_hpcW (R:=fun z hp'=>z=bv (en==0)∧hp'=hp1) Tryz.func192 rfl rfl bodyOk_192 rfl rfl ?_
  repeat' (first|(refine ZN ?_)|(refine Z2 ?_ ?_)|(intro h h';try simp[*,-h] at h'))
  all_goals exact⟨by simp,_,_,rfl,rfl,by simp[*]⟩
 obtain⟨z,hp',h1,rfl,rfl⟩:=key
 exact h1
theorem m286 (hrl:rg.length=16)(d:Nat)(hp1:Hp)(hx:hp1 ⟨0,13,0⟩= .box 1 (bxP code inp pc rg M rd steps en o go no) false):(lim Tryz.prog E00 X00).hpc 1 d 193 [.ptr ⟨0,13,0⟩ 1 0] hp1=some (iv pc,hp1):=by
 have key: ∃z hp',(lim Tryz.prog E00 X00).hpc 1 d 193 [.ptr ⟨0,13,0⟩ 1 0] hp1=some (z,hp')∧(z=iv pc∧hp'=hp1):=by
  refine lim_hpcW (R:=fun z hp'=>z=iv pc∧hp'=hp1) Tryz.func193 rfl rfl bodyOk_193 rfl rfl ?_
  repeat' (first|(refine ZN ?_)|(refine Z2 ?_ ?_)|(intro h h';try simp[*,-h] at h'))
  all_goals exact⟨by simp,_,_,rfl,rfl,by simp[*]⟩
 obtain⟨z,hp',h1,rfl,rfl⟩:=key
 exact h1
end
end Go.Proofs.YtpedpkegmalgmaaGreatDoor.M
