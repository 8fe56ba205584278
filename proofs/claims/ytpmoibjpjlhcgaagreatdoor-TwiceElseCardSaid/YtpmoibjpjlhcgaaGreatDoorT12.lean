/- A part of the proof: I13, I14, I15, I2, I16, I17, I18, I19, I20, I21, J0, J1, J2, J3, F13, I22, I23, I24. -/
import Derived.Test.YtpmoibjpjlhcgaaGreatDoorT11
import Derived.Test.YtpmoibjpjlhcgaaGreatDoorT08
import Derived.Shelf.Abstract
import Derived.RangeFuncBox
import Derived.RangeFuncLeaves
import Derived.WalkKit
import Derived.OwnWalkIn
import Derived.TacticsInMore
import Derived.LoopNIn
import Derived.LoopIn
import Derived.Maps.AppendAt
import Derived.Sort.QuietIn
import Derived.Test.YtpmoibjpjlhcgaaGreatDoorProg
import Derived.RegionIn
import Derived.BigRegionIn
import Derived.RangeFuncNested
import Derived.Lib.Hide
import Derived.Test.YtpmoibjpjlhcgaaGreatDoorT02
import Derived.Test.YtpmoibjpjlhcgaaGreatDoorT05
import Derived.KernelRfl
set_option linter.unusedSimpArgs false
set_option linter.unusedVariables false
set_option maxRecDepth 200000
set_option maxHeartbeats 8000000
namespace Go.Proofs.YtpmoibjpjlhcgaaGreatDoor.M
section
open Go Go.Ab Go.Ma
theorem Og {c:Nat}(h:c≠0):(⟨0,13,c⟩:Nm)≠⟨0,13,0⟩:=fun e=>h (by simpa using e)
theorem ne13 {y z:Nm}(h:y.i≠13)(hz:z.i=13):y≠z:=fun e=>h (by rw[e];exact hz)
theorem fin1 {code:List Int}{inp:ByteArray}{s t:PS}{go gm:Nat}{hp1 hp':Hp}(M:Mst code inp s go gm hp1)(hx:hp' ⟨0,13,0⟩= .box 1 (bxP code inp t.pc t.rg (memA t.own gm t.mem) t.rd t.steps t.en t.own go t.out.length) false)
  (ho:t.out=s.out) (hm:t.mem=s.mem) (hw:t.own=s.own) (h3: ∀y:Nm,y.d=0->y≠⟨0,13,0⟩->hp' y=hp1 y):Mst code inp t go gm hp'/\ ∀y:Nm,y.d=0->y.i≠13->hp' y=hp1 y:=
 ⟨⟨hx,by rw[h3 _ rfl (Og Zd),M.out,ho],fun h=>by rw[h3 _ rfl (Og Zd),hm];exact M.mem (hw▸h)⟩,fun y h0 h1=>h3 y h0 (ne13 h1 rfl)⟩
theorem at_of (x:Int)(n:Nat):(x+n)%4294967296=(((x+n)%4294967296).toNat:Int):=Zo
theorem m363 {code:List Int}{inp:ByteArray}{s:PS}{go gm:Nat}{hp1:Hp}(op na nb nc:Nat)(hs:Ma.Ok inp.size s)(hen:s.en=0)(hr:rightI ⟨op,na,nb,nc⟩=true)(hpc:s.pc<=4294967295)(hml:s.mem.length<=1048576)(hil:inp.size<=1048576)(hst:s.out.length<=65536)
  (M:Mst code inp s go gm hp1) (d:Nat):
  ∃hp' go' gm',(lim P0 E00 X00).hpc 2 d 289 [.ptr ⟨0,13,0⟩ 1 0,.agg [iv op,iv na,iv nb,iv nc]] hp1=some (iv (doP code (inpF inp) s ⟨op,na,nb,nc⟩).en,hp')/\
   Mst code inp {doP code (inpF inp) s ⟨op,na,nb,nc⟩ with en:=0} go' gm' hp'/\ ∀y:Nm,y.d=0->y.i≠13->hp' y=hp1 y:=by
 obtain⟨⟨o1,o2⟩,⟨_,a1⟩,⟨_,b1⟩,⟨_,c1⟩,c2⟩:=Kk hr
 simp only at o1 o2 a1 b1 c1 c2
 have ha:na<16:=Zo
 have hb:nb<16:=Zo
 have hnc:nc<=65535:=Zo
 have hga:=hs.reg (a:=(na:Int)) Zo Zo
 have hgb:=hs.reg (a:=(nb:Int)) Zo Zo
 have hrl:=hs.rl
 have hpc0:=hs.pc0
 have hpc1:s.pc<=4294967296:=Zo
 have hol:=hs.ol
 have ho1:(op:Int)<=27:=o2
 obtain⟨pc,rg,mem,rd,out,steps,en,own⟩:=s
 simp only at hen
 subst hen
 simp only[Int.toNat_natCast] at hga hgb
 simp only at hrl hpc0 hpc1 hpc hml hol hst
 obtain⟨xa,hxa⟩: ∃xa,PS.reg ⟨pc,rg,mem,rd,out,steps,0,own⟩ na=xa:=⟨_,rfl⟩
 obtain⟨xb,hxb⟩: ∃xb,PS.reg ⟨pc,rg,mem,rd,out,steps,0,own⟩ nb=xb:=⟨_,rfl⟩
 rw[hxa] at hga
 rw[hxb] at hgb
 obtain⟨at_,hat⟩: ∃at_:Nat,((xb+nc)%4294967296).toNat=at_:=⟨_,rfl⟩
 have hat':(xb+nc)%4294967296=(at_:Int):=by rw[<-hat];exact at_of xb nc
 by_cases h415:4<=op/\op<=15
 ·have hc16:nc<16:=by have:=c2 Zo Zo;omega
  have hgc:=hs.reg (a:=(nc:Int)) Zo Zo
  simp only[Int.toNat_natCast] at hgc
  obtain⟨xc,hxc⟩: ∃xc,PS.reg ⟨pc,rg,mem,rd,out,steps,0,own⟩ nc=xc:=⟨_,rfl⟩
  rw[hxc] at hgc
  have hd:doP code (inpF inp) ⟨pc,rg,mem,rd,out,steps,0,own⟩ ⟨op,na,nb,nc⟩=(apP op xb xc).elim (PS.stop ⟨pc,rg,mem,rd,out,steps,0,own⟩ 2) fun x=>PS.setR ⟨pc,rg,mem,rd,out,steps,0,own⟩ na x:=by
   unfold doP
   simp only[hxb,hxc]
   rw[if_neg Zo,if_neg Zo,if_neg Zo,if_neg Zo,if_neg Zo,if_neg Zo,if_neg Zo,if_neg Zo,if_neg Zo,if_neg Zo,if_neg Zo,if_neg Zo,if_neg Zo,if_neg Zo,if_neg Zo]
  rw[hd]
  cases hv:apP op xb xc with
  |none=>
   obtain⟨hp',h1,h2,h3⟩:=Kua op na nb nc h415.1 h415.2 xb xc hgb.2 hgc.2 hv hpc0 hpc1 hrl d hp1 M.bx ha hb hc16 hgb.1 hgc.1
   exact⟨hp',go,gm,h1,fin1 M h2 rfl rfl rfl h3⟩
  |some v=>
   obtain⟨hp',h1,h2,h3⟩:=Kva op na nb nc h415.1 h415.2 xb xc hgb.2 hgc.2 v hv hpc0 hpc1 hrl d hp1 M.bx ha hb hc16 hgb.1 hgc.1
   exact⟨hp',go,gm,h1,fin1 M h2 rfl rfl rfl h3⟩
 have hop:op=1\/op=2\/op=3\/op=16\/op=17\/op=18\/op=19\/op=20\/op=21\/op=22\/op=23\/op=24\/op=25\/op=26\/op=27:=Zo
 rcases hop with rfl|rfl|rfl|rfl|rfl|rfl|rfl|rfl|rfl|rfl|rfl|rfl|rfl|rfl|rfl
 ·obtain⟨hp',h1,h2,h3⟩:=m363_1 na nb nc hnc hpc0 hpc1 hrl d hp1 M.bx ha
  exact⟨hp',go,gm,h1,fin1 M h2 rfl rfl rfl h3⟩
 ·have hd:doP code (inpF inp) ⟨pc,rg,mem,rd,out,steps,0,own⟩ ⟨(2:Nat),na,nb,nc⟩=PS.setR ⟨pc,rg,mem,rd,out,steps,0,own⟩ na (xa%65536+(nc:Int)*65536):=by rw[<-hxa];rfl
  rw[hd]
  obtain⟨hp',h1,h2,h3⟩:=m363_2 na nb nc xa hga.2 hnc hpc0 hpc1 hrl d hp1 M.bx ha hga.1
  exact⟨hp',go,gm,h1,fin1 M h2 rfl rfl rfl h3⟩
 ·have hd:doP code (inpF inp) ⟨pc,rg,mem,rd,out,steps,0,own⟩ ⟨(3:Nat),na,nb,nc⟩=PS.setR ⟨pc,rg,mem,rd,out,steps,0,own⟩ na xb:=by rw[<-hxb];rfl
  rw[hd]
  obtain⟨hp',h1,h2,h3⟩:=m363_3 na nb nc xb hpc0 hpc1 hrl d hp1 M.bx ha hb hgb.1
  exact⟨hp',go,gm,h1,fin1 M h2 rfl rfl rfl h3⟩
 ·have hd:doP code (inpF inp) ⟨pc,rg,mem,rd,out,steps,0,own⟩ ⟨(16:Nat),na,nb,nc⟩=mem[at_]?.elim (PS.stop ⟨pc,rg,mem,rd,out,steps,0,own⟩ 8) fun x=>PS.setR ⟨pc,rg,mem,rd,out,steps,0,own⟩ na x:=by rw[<-hat,<-hxb];rfl
  rw[hd]
  cases hv:mem[at_]? with
  |none=>
   have hcx:mem.length<=at_:=List.getElem?_eq_none_iff.1 hv
   cases own with
   |false=>
    obtain⟨hp',h1,h2,h3⟩:=Eia na nb nc at_ xb hnc hat' mem gm rfl hcx hpc0 hpc1 hrl d hp1 M.bx ha hb hgb.1
    exact⟨hp',go,gm,h1,fin1 M h2 rfl rfl rfl h3⟩
   |true=>
    obtain⟨hp',h1,h2,h3⟩:=Eha na nb nc at_ xb hnc hat' mem gm rfl hcx hpc0 hpc1 hrl d hp1 M.bx ha hb hgb.1 (M.mem rfl)
    exact⟨hp',go,gm,h1,fin1 M h2 rfl rfl rfl h3⟩
  |some x=>
   cases own with
   |false=>
    obtain⟨hp',h1,h2,h3⟩:=Eka na nb nc at_ xb hnc hat' mem gm rfl x hv hpc0 hpc1 hrl d hp1 M.bx ha hb hgb.1
    exact⟨hp',go,gm,h1,fin1 M h2 rfl rfl rfl h3⟩
   |true=>
    obtain⟨hp',h1,h2,h3⟩:=Eja na nb nc at_ xb hnc hat' mem gm rfl x hv hpc0 hpc1 hrl d hp1 M.bx ha hb hgb.1 (M.mem rfl)
    exact⟨hp',go,gm,h1,fin1 M h2 rfl rfl rfl h3⟩
 ·have hd:doP code (inpF inp) ⟨pc,rg,mem,rd,out,steps,0,own⟩ ⟨(17:Nat),na,nb,nc⟩=if at_<mem.length then⟨pc+1,rg,mem.set at_ xa,rd,out,steps,0,true⟩ else PS.stop ⟨pc,rg,mem,rd,out,steps,0,own⟩ 8:=by rw[<-hat,<-hxb,<-hxa];rfl
  rw[hd]
  by_cases hcx:at_<mem.length
  ·rw[if_pos hcx]
   cases own with
   |false=>
    obtain⟨hp',h1,h2,h4,h3⟩:=Ega na nb nc at_ xa xb hnc hat' mem gm rfl rfl hml hcx hpc0 hpc1 hrl d hp1 M.bx ha hb hga.1 hgb.1
    refine⟨hp',go,_,h1,⟨?_,?_,fun _=>h4⟩,fun y h0 h1=>h3 y h0 (ne13 h1 rfl) (ne13 h1 rfl)⟩
    ·simpa[memA] using h2
    ·rw[h3 _ rfl (Og Zd) Zi];exact M.out
   |true=>
    obtain⟨hp',h1,h2,h4,h3⟩:=Efa na nb nc at_ xa xb hnc hat' mem gm rfl rfl hml hcx hpc0 hpc1 hrl d hp1 M.bx ha hb hga.1 hgb.1 (M.mem rfl)
    refine⟨hp',go,gm,h1,⟨?_,?_,fun _=>h4⟩,fun y h0 h1=>h3 y h0 (ne13 h1 rfl) (ne13 h1 rfl)⟩
    ·simpa[memA] using h2
    ·rw[h3 _ rfl (Og Zd) Zi];exact M.out
  ·rw[if_neg hcx]
   have hcx:mem.length<=at_:=Zo
   cases own with
   |false=>
    obtain⟨hp',h1,h2,h3⟩:=Eea na nb nc at_ xb hnc hat' mem gm rfl hcx hpc0 hpc1 hrl d hp1 M.bx ha hb hgb.1
    exact⟨hp',go,gm,h1,fin1 M h2 rfl rfl rfl h3⟩
   |true=>
    obtain⟨hp',h1,h2,h3⟩:=Eda na nb nc at_ xb hnc hat' mem gm rfl hcx hpc0 hpc1 hrl d hp1 M.bx ha hb hgb.1 (M.mem rfl)
    exact⟨hp',go,gm,h1,fin1 M h2 rfl rfl rfl h3⟩
 ·obtain⟨hp',h1,h2,h3⟩:=m363_18 na nb nc hpc0 hpc1 hrl d hp1 M.bx
  exact⟨hp',go,gm,h1,fin1 M h2 rfl rfl rfl h3⟩
 ·have hd:doP code (inpF inp) ⟨pc,rg,mem,rd,out,steps,0,own⟩ ⟨(19:Nat),na,nb,nc⟩=PS.goto ⟨pc,rg,mem,rd,out,steps,0,own⟩ (if xa=0 then(nc:Int) else pc+1):=by rw[<-hxa];rfl
  rw[hd]
  obtain⟨hp',h1,h2,h3⟩:=m363_19 na nb nc xa hpc0 hpc1 hrl d hp1 M.bx ha hga.1
  exact⟨hp',go,gm,h1,fin1 M h2 rfl rfl rfl h3⟩
 ·have hd:doP code (inpF inp) ⟨pc,rg,mem,rd,out,steps,0,own⟩ ⟨(20:Nat),na,nb,nc⟩=PS.goto ⟨pc,rg,mem,rd,out,steps,0,own⟩ (if xa≠0 then(nc:Int) else pc+1):=by rw[<-hxa];rfl
  rw[hd]
  obtain⟨hp',h1,h2,h3⟩:=m363_20 na nb nc xa hpc0 hpc1 hrl d hp1 M.bx ha hga.1
  exact⟨hp',go,gm,h1,fin1 M h2 rfl rfl rfl h3⟩
 ·obtain⟨hp',h1,h2,h3⟩:=m363_21 na nb nc hpc0 hpc1 hrl d hp1 M.bx ha
  exact⟨hp',go,gm,h1,fin1 M h2 rfl rfl rfl h3⟩
 ·have hd:doP code (inpF inp) ⟨pc,rg,mem,rd,out,steps,0,own⟩ ⟨(22:Nat),na,nb,nc⟩=PS.goto ⟨pc,rg,mem,rd,out,steps,0,own⟩ xa:=by rw[<-hxa];rfl
  rw[hd]
  obtain⟨hp',h1,h2,h3⟩:=m363_22 na nb nc xa hga.2 hpc0 hpc1 hrl d hp1 M.bx ha hga.1
  exact⟨hp',go,gm,h1,fin1 M h2 rfl rfl rfl h3⟩
 ·have hd:doP code (inpF inp) ⟨pc,rg,mem,rd,out,steps,0,own⟩ ⟨(23:Nat),na,nb,nc⟩=(inpF inp rd).elim (PS.setR ⟨pc,rg,mem,rd,out,steps,0,own⟩ na 256) fun b=>⟨pc+1,rg.set na b,mem,rd+1,out,steps,0,own⟩:=rfl
  rw[hd]
  unfold inpF
  cases hv:inp.data[rd]? with
  |none=>
   obtain⟨hp',h1,h2,h3⟩:=K2a na nb nc rd rfl (by simpa using hv) hpc0 hpc1 hrl d hp1 M.bx ha
   exact⟨hp',go,gm,h1,fin1 M h2 rfl rfl rfl h3⟩
  |some b=>
   obtain⟨hp',h1,h2,h3⟩:=K3a na nb nc rd rfl b hv hil hpc0 hpc1 hrl d hp1 M.bx ha
   exact⟨hp',go,gm,h1,fin1 M h2 rfl rfl rfl h3⟩
 ·have hd:doP code (inpF inp) ⟨pc,rg,mem,rd,out,steps,0,own⟩ ⟨(24:Nat),na,nb,nc⟩=if 65536<=out.length then PS.stop ⟨pc,rg,mem,rd,out,steps,0,own⟩ 4 else⟨pc+1,rg,mem,rd,out++[xa%256],steps,0,own⟩:=by rw[<-hxa];rfl
  rw[hd]
  by_cases hc:65536<=out.length
  ·rw[if_pos hc]
   obtain⟨hp',h1,h2,h3⟩:=K0a na nb nc hc Zo out rfl hpc0 hpc1 hrl d hp1 M.bx ha M.out
   exact⟨hp',go,gm,h1,fin1 M h2 rfl rfl rfl h3⟩
  ·rw[if_neg hc]
   obtain⟨hp',h1,h2,h4,h3⟩:=K1a na nb nc xa hga.2 Zo out rfl hpc0 hpc1 hrl d hp1 M.bx ha hga.1 M.out
   refine⟨hp',go+1,gm,h1,⟨?_,h4,fun h=>?_⟩,fun y h0 h1=>h3 y h0 (ne13 h1 rfl) (ne13 h1 rfl)⟩
   ·simpa using h2
   ·rw[h3 _ rfl (Og Zd) Zi];exact M.mem h
 ·have hd:doP code (inpF inp) ⟨pc,rg,mem,rd,out,steps,0,own⟩ ⟨(25:Nat),na,nb,nc⟩=if (nc:Int)<=xa then PS.stop ⟨pc,rg,mem,rd,out,steps,0,own⟩ 3 else PS.goto ⟨pc,rg,mem,rd,out,steps,0,own⟩ (pc+1):=by rw[<-hxa];rfl
  rw[hd]
  by_cases hc:(nc:Int)<=xa
  ·rw[if_pos hc]
   obtain⟨hp',h1,h2,h3⟩:=Kya na nb nc xa hnc hc hpc0 hpc1 hrl d hp1 M.bx ha hga.1
   exact⟨hp',go,gm,h1,fin1 M h2 rfl rfl rfl h3⟩
  ·rw[if_neg hc]
   obtain⟨hp',h1,h2,h3⟩:=Kza na nb nc xa hnc Zo hpc0 hpc1 hrl d hp1 M.bx ha hga.1
   exact⟨hp',go,gm,h1,fin1 M h2 rfl rfl rfl h3⟩
 ·obtain⟨hp',h1,h2,h3⟩:=m363_26 na nb nc hpc0 hpc1 hrl d hp1 M.bx
  exact⟨hp',go,gm,h1,fin1 M h2 rfl rfl rfl h3⟩
 ·have hd:doP code (inpF inp) ⟨pc,rg,mem,rd,out,steps,0,own⟩ ⟨(27:Nat),na,nb,nc⟩=code[at_]?.elim (PS.stop ⟨pc,rg,mem,rd,out,steps,0,own⟩ 8) fun x=>PS.setR ⟨pc,rg,mem,rd,out,steps,0,own⟩ na x:=by rw[<-hat,<-hxb];rfl
  rw[hd]
  cases hv:code[at_]? with
  |none=>
   obtain⟨hp',h1,h2,h3⟩:=Kwa na nb nc at_ xb hnc hat' (List.getElem?_eq_none_iff.1 hv) hpc0 hpc1 hrl d hp1 M.bx ha hb hgb.1
   exact⟨hp',go,gm,h1,fin1 M h2 rfl rfl rfl h3⟩
  |some x=>
   obtain⟨hp',h1,h2,h3⟩:=Kxa na nb nc at_ xb hnc hat' x hv hpc0 hpc1 hrl d hp1 M.bx ha hb hgb.1
   exact⟨hp',go,gm,h1,fin1 M h2 rfl rfl rfl h3⟩
end
section
open Go Go.Ab Go.Ma
attribute [-simp] Prog.bind getCs putCs
attribute [local simp ↓] run_bind
attribute [local simp ↓] Au
attribute [local simp] Ar Am facetsC Ax At
attribute [local simp] Gp Em bx_2 Gl Gk Gj Gi Gh Gg Gf Ds bs_2 Hq Ho Hn Hm Hl Hk En C3 bg_2 Hz Hy Hw Hv Hu Ht Hr
variable {code:List Int}{inp:ByteArray}{pc:Int}{rg:List Int}{M:AV}{rd steps en:Int}{o:Bool}{go no:Nat}
theorem Wo_do {code:List Int}{inp:ByteArray}{s:PS}{go gm:Nat}(op na nb nc:Nat)(hs:Ma.Ok inp.size s)(hen:s.en=0)(hr:rightI ⟨op,na,nb,nc⟩=true)(hpc:s.pc<=4294967295)(hml:s.mem.length<=1048576)(hil:inp.size<=1048576)
  {all:Array Oper} {os:List Oper} {fr:Nat->AV} {hp:Hp} {Q:AS->Prop} {PQ:Value->Hp->Prop} {ats:Array TypeId} {ty:TypeId} {pos:String} {aft:Array Edge} (M:Mst code inp s go gm hp) (h65:fr 65= .ptr ⟨0,13,0⟩ 1 0) (h66:fr 66= .agg [iv op,iv na,iv nb,iv nc])
  (rest: ∀hp' go' gm',Mst code inp {doP code (inpF inp) s ⟨op,na,nb,nc⟩ with en:=0} go' gm' hp'->(∀y:Nm,y.d=0->y.i≠13->hp' y=hp y)->Wo P0 E00 2 (lim P0 E00 X00) all os ⟨setd fr (some 67) (iv (doP code (inpF inp) s ⟨op,na,nb,nc⟩).en),hp'⟩ Q PQ):
  Wo P0 E00 2 (lim P0 E00 X00) all (⟨some 67,.call {callee:= .value (.func 289),args:= #[.tmp 65,.tmp 66],argTypes:=ats},ty,pos,aft,none⟩::os) ⟨fr,hp⟩ Q PQ:=by
 obtain⟨hp',go',gm',h1,M',h3⟩:=m363 op na nb nc hs hen hr hpc hml hil hs.ol M 67
 refine Wo_u ?_ (rest hp' go' gm' M' h3)
 refine(Hg rfl Kga Zd Zi (by simp only[List.map_cons,List.map_nil,opA,List.append_nil,h65,h66];exact rfl)).trans ?_
 simp[Prog.run,h1]
theorem m287_o (hcx:(code.length:Int)<=pc)(hpc0:0<=pc)(hpc1:pc<=4294967296)(hen:en=0)(hrl:rg.length=16)(d:Nat)(hp1:Hp)(hx:hp1 ⟨0,13,0⟩= .box 1 (bxP code inp pc rg M rd steps en o go no) false):
  ∃hp',(lim P0 E00 X00).hpc 1 d 237 [.ptr ⟨0,13,0⟩ 1 0] hp1=some (bv false,hp')/\hp' ⟨0,13,0⟩= .box 1 (bxP code inp pc rg M rd steps 7 o go no) false/\ ∀y:Nm,y.d=0->y≠⟨0,13,0⟩->hp' y=hp1 y:=by
 refine hpcZ Tryz.func237 rfl rfl J6 rfl rfl ?_
 subst hen
 have q0: ¬pc<0:=Zo
 repeat' (first|refine ZN ?_|refine Z2 ?_ ?_|(intro h h';try simp[*,-h] at h'))
 all_goals exact⟨Zi,_,_,rfl,rfl,Zm,Zya⟩
theorem m287_b (pn:Nat)(hpn:pc=pn)(w:Int)(hw:code[pn]?=some w)(hwU:Ma.U w)(hr:rightI (insW w)=false)(stn:Nat)(hst:steps=stn)(hst1:stn<9223372036854775806)(hpc0:0<=pc)(hpc1:pc<=4294967296)(hen:en=0)(hrl:rg.length=16)(d:Nat)(hp1:Hp)(hx:hp1 ⟨0,13,0⟩= .box 1 (bxP code inp pc rg M rd steps en o go no) false):
  ∃hp',(lim P0 E00 X00).hpc 1 d 237 [.ptr ⟨0,13,0⟩ 1 0] hp1=some (bv true,hp')/\hp' ⟨0,13,0⟩= .box 1 (bxP code inp pc rg M rd ((stn:Int)+1) 6 o go no) false/\ ∀y:Nm,y.d=0->y≠⟨0,13,0⟩->hp' y=hp1 y:=by
 refine hpcZ Tryz.func237 rfl rfl J6 rfl rfl ?_
 subst hen hpn hst
 have q0: ¬(pn:Int)<0:=Zo
 have q1: ¬(code.length:Int)<=pn:=by have:=(List.getElem?_eq_some_iff.1 hw).1;omega
 have q2:pn<code.length:=(List.getElem?_eq_some_iff.1 hw).1
 have q3:=getV hw
 have q4:=wrapN (k:=stn) Zo
 have h362:=m362 w hwU
 unfold decP at h362
 rw[hr] at h362
 simp only[Bool.false_eq_true,if_false] at h362
 have q5: ∀h,(rowW code)[pn]'h=[uv w]:=fun h=>by rw[List.getElem_map,q3]
 repeat' (first|refine ZN ?_|refine Z2 ?_ ?_|(intro h h';try simp[*,-h] at h'))
 all_goals exact⟨Zi,_,_,rfl,rfl,Zm,Zya⟩
end
section
open Go Go.Ab Go.Ma
attribute [-simp] Prog.bind getCs putCs
attribute [local simp ↓] run_bind
attribute [local simp ↓] Au
attribute [local simp] Ar Am facetsC Ax At
attribute [local simp] Gp Em bx_2 Gl Gk Gj Gi Gh Gg Gf Ds bs_2 Hq Ho Hn Hm Hl Hk En C3 bg_2 Hz Hy Hw Hv Hu Ht Hr
theorem m287_d {code:List Int}{inp:ByteArray}{s:PS}{go gm:Nat}(w:Int)(hw:code[s.pc.toNat]?=some w)(hwU:Ma.U w)(hr:rightI (insW w)=true)(hs:Ma.Ok inp.size s)(hen:s.en=0)(hml:s.mem.length<=1048576)(hil:inp.size<=1048576)(hcl:code.length<=1048576)(hst1:s.steps<9223372036854775806)
  {hp1:Hp} (M:Mst code inp s go gm hp1) (hcU: ∀x∈code,Ma.U x) (hin: ∀k b,inpF inp k=some b->k<inp.size/\0<=b/\b<256) (d:Nat):
  ∃hp' go' gm',(lim P0 E00 X00).hpc 1 d 237 [.ptr ⟨0,13,0⟩ 1 0] hp1=some (bv true,hp')/\Mst code inp (doP code (inpF inp) {s with steps:=s.steps+1} (insW w)) go' gm' hp'/\ ∀y:Nm,y.d=0->y.i≠13->hp' y=hp1 y:=by
 have key: ∃z hp',(lim P0 E00 X00).hpc 1 d 237 [.ptr ⟨0,13,0⟩ 1 0] hp1=some (z,hp')/\(z=bv true/\ ∃go' gm',Mst code inp (doP code (inpF inp) {s with steps:=s.steps+1} (insW w)) go' gm' hp'/\ ∀y:Nm,y.d=0->y.i≠13->hp' y=hp1 y):=by
  refine Gx (R:=fun z hp'=>z=bv true/\ ∃go' gm',Mst code inp (doP code (inpF inp) {s with steps:=s.steps+1} (insW w)) go' gm' hp'/\ ∀y:Nm,y.d=0->y.i≠13->hp' y=hp1 y) Tryz.func237 rfl rfl J6 rfl rfl ?_
  have hs1:Ma.Ok inp.size {s with steps:=s.steps+1}:={pc0:=hs.pc0,pc1:=hs.pc1,rl:=hs.rl,ru:=hs.ru,mu:=hs.mu,rd:=hs.rd,ou:=hs.ou,ol:=hs.ol,en0:=hs.en0,en1:=hs.en1}
  obtain⟨pn,hpn⟩: ∃pn:Nat,s.pc=pn:=⟨s.pc.toNat,(Int.toNat_of_nonneg hs.pc0).symm⟩
  have hx:=M.bx
  rw[hpn,Int.toNat_natCast] at hw
  rw[hpn,hen] at hx
  have hrl:=hs.rl
  have q0: ¬(pn:Int)<0:=Zo
  have q2:pn<code.length:=(List.getElem?_eq_some_iff.1 hw).1
  have q1: ¬(code.length:Int)<=pn:=Zo
  have q3:=getV hw
  have q4:=wrapN (k:=s.steps) Zo
  have h362:=m362 w hwU
  have hins:insW w=⟨((w/16777216).toNat:Int),((w/1048576%16).toNat:Int),((w/65536%16).toNat:Int),((w%65536).toNat:Int)⟩:=by
   unfold insW;unfold Ma.U at hwU
   congr 1<;>omega
  unfold decP at h362
  rw[hr] at h362
  simp only[if_true] at h362
  have hok:Ma.Ok inp.size (doP code (inpF inp) {s with steps:=s.steps+1} (insW w)):=doP_ok hs1 hcU hin hr (by show s.pc+1<=_;omega)
  rw[hins] at h362 hr hok⊢
  simp only at h362
  generalize (w/16777216).toNat=op at*
  generalize (w/1048576%16).toNat=na at*
  generalize (w/65536%16).toNat=nb at*
  generalize (w%65536).toNat=nc at*
  clear hins
  have q5: ∀h,(rowW code)[pn]'h=[uv w]:=fun h=>by rw[List.getElem_map,q3]
  have hMo:=M.out
  repeat' (first|refine ZN ?_|refine Z2 ?_ ?_|(intro h h';try simp[*,-h] at h'))
  all_goals
   refine Wo_do op na nb nc hs1 hen hr (by show s.pc<=_;omega) hml hil (code:=code) (go:=go) (gm:=gm) ⟨Zm,Zm,fun h=>by have:=M.mem h;simp[*]⟩ Zi Zi ?_
   intro hp2 go2 gm2 M2 h32
   have hx2:=M2.bx
   have hrl2:=hok.rl
   have ho2:=M2.out
   have hm2:=M2.mem
   simp only at hx2 ho2 hm2
   clear hs1 hok hcU hin h362 M2 hx
   generalize doP code (inpF inp) {s with steps:=s.steps+1} ⟨(op:Int),na,nb,nc⟩=t at*
   have hb:=Jm t.en 0
   by_cases he:t.en=0
   all_goals simp only[he,ne_eq,not_true,not_false_iff,decide_true,decide_false] at hb
   all_goals
    repeat' (first|refine ZN ?_|refine Z2 ?_ ?_|(intro h h';try simp[*,-h] at h'))
   ·exact⟨Zi,_,_,rfl,rfl,go2,gm2,⟨Zm,Zm,fun h=>by have:=hm2 h;simp[*]⟩,fun y h0 h1=>by have h3:=h32 y h0 h1;exact(by have e1: ∀k i,y≠⟨k+1,i,0⟩:=fun k i e=>(by subst e;simp at h0);have e2: ∀i,y≠⟨1,i,0⟩:=fun i=>e1 0 i;have e3: ∀i,y≠⟨2,i,0⟩:=fun i=>e1 1 i;have e4: ∀i,y≠⟨3,i,0⟩:=fun i=>e1 2 i;have e5: ∀i,y≠⟨4,i,0⟩:=fun i=>e1 3 i;(have e6:y≠⟨0,13,0⟩:=ne13 h1 rfl;simp[*]))⟩
   ·exact⟨Zi,_,_,rfl,rfl,go2,gm2,⟨Zm,Zm,fun h=>by have:=hm2 h;simp[*]⟩,fun y h0 h1=>by have h3:=h32 y h0 h1;exact(by have e1: ∀k i,y≠⟨k+1,i,0⟩:=fun k i e=>(by subst e;simp at h0);have e2: ∀i,y≠⟨1,i,0⟩:=fun i=>e1 0 i;have e3: ∀i,y≠⟨2,i,0⟩:=fun i=>e1 1 i;have e4: ∀i,y≠⟨3,i,0⟩:=fun i=>e1 2 i;have e5: ∀i,y≠⟨4,i,0⟩:=fun i=>e1 3 i;(have e6:y≠⟨0,13,0⟩:=ne13 h1 rfl;simp[*]))⟩
 obtain⟨z,hp',h1,rfl,go',gm',h2⟩:=key
 exact⟨hp',go',gm',h1,h2⟩
end
end Go.Proofs.YtpmoibjpjlhcgaaGreatDoor.M
namespace Go.Ma
section
theorem doP_mem (code:List Int)(inp:Inp)(s:PS)(i:Ins):(doP code inp s i).mem.length=s.mem.length:=by
 have I: ∀{c:Prop} [Decidable c] {a b:PS},a.mem.length=s.mem.length->b.mem.length=s.mem.length->(if c then a else b).mem.length=s.mem.length:=fun h1 h2=>Dc (p:=fun t:PS=>t.mem.length=s.mem.length) (fun _=>h1) fun _=>h2
 have E: ∀{o:Option Int} {b:PS} {f:Int->PS},b.mem.length=s.mem.length->(∀x,(f x).mem.length=s.mem.length)->(o.elim b f).mem.length=s.mem.length:=fun h1 h2=>Cy (p:=fun t:PS=>t.mem.length=s.mem.length) (fun _=>h1) fun x _=>h2 x
 unfold doP
 exact I rfl (I rfl (I rfl (I (E rfl fun _=>rfl) (I (I (List.length_set ..) rfl) (I rfl (I rfl (I rfl (I rfl (I rfl (I (E rfl fun _=>rfl) (I (I rfl rfl) (I (I rfl rfl) (I rfl (I (E rfl fun _=>rfl) (E rfl fun _=>rfl)))))))))))))))
theorem Dra (code:List Int)(inp:Inp)(s:PS):(stepP code inp s).mem.length=s.mem.length:=by
 unfold stepP
 refine Dc (p:=fun t:PS=>t.mem.length=s.mem.length) (fun _=>rfl) fun _=>Cy (p:=fun t:PS=>t.mem.length=s.mem.length) (fun _=>rfl) fun w _=>?_
 refine Dc (p:=fun t:PS=>t.mem.length=s.mem.length) (fun _=>?_) fun _=>rfl
 exact doP_mem ..
theorem Hra {code:List Int}{inp:Inp}{s:PS}(h:s.en≠0): ∀k,runP code inp k s=s
 |0=>rfl
 |k+1=>by unfold runP;rw[if_neg h]
structure Run (code:List Int)(inp:Inp)(n F:Nat)(s0:PS)(k:Nat)(t:PS):Prop where
 le:k<=F
 ok:Ok n t
 st:t.steps<=s0.steps+k
 mem:t.mem.length=s0.mem.length
 to:runP code inp (F - k) t=runP code inp F s0
theorem Run.start {code:List Int}{inp:Inp}{n:Nat}(F:Nat){s:PS}(h:Ok n s):Run code inp n F s 0 s:=⟨Nat.zero_le _,h,Nat.le_refl _,rfl,rfl⟩
theorem Run.next {code:List Int}{inp:Inp}{n F:Nat}{s0:PS}{k:Nat}{t:PS}(h:Run code inp n F s0 k t)(hk:k<F)(he:t.en=0)(hl:code.length<=4294967295)(hc: ∀x∈code,U x)(hi: ∀k b,inp k=some b->k<n/\0<=b/\b<256):Run code inp n F s0 (k+1) (stepP code inp t):=
 ⟨hk,Tp h.ok hl hc hi,by have:=To code inp t;have:=h.st;omega,by rw[Dra,h.mem],by
  rw[<-h.to]
  obtain⟨j,hj⟩: ∃j,F - k=j+1:=⟨F - k - 1,by omega⟩
  rw[hj,show F - (k+1)=j from by omega,runP,if_pos he]⟩
theorem Run.done {code:List Int}{inp:Inp}{n F:Nat}{s0:PS}{k:Nat}{t:PS}(h:Run code inp n F s0 k t)(hk:k=F\/t.en≠0):t=runP code inp F s0:=by
 rw[<-h.to]
 rcases hk with rfl|hk
 ·rw[Nat.sub_self];rfl
 ·rw[Hra hk]
end
end Go.Ma
namespace Go.Proofs.YtpmoibjpjlhcgaaGreatDoor.M
section
open Go Go.Ab Go.Ma
attribute [-simp] Prog.bind getCs putCs
attribute [local simp ↓] run_bind
attribute [local simp ↓] Au
attribute [local simp] Ar Am facetsC Ax At
attribute [local simp] Gp Em bx_2 Gl Gk Gj Gi Gh Gg Gf Ds bs_2 Hq Ho Hn Hm Hl Hk En C3 bg_2 Hz Hy Hw Hv Hu Ht Hr
variable {code:List Int}{inp:ByteArray}{pc:Int}{rg:List Int}{M:AV}{rd steps en:Int}{o:Bool}{go no:Nat}
theorem Je (inp:ByteArray): ∀k b,inpF inp k=some b->k<inp.size/\0<=b/\b<256:=by
 intro k b h
 unfold inpF at h
 cases hd:inp.data[k]? with
 |none=>rw[hd] at h;cases h
 |some x=>
  rw[hd] at h
  cases h
  have:=x.toNat_lt
  exact⟨(Array.getElem?_eq_some_iff.1 hd).1,Int.natCast_nonneg _,(by omega:(x.toNat:Int)<256)⟩
theorem m287 {code:List Int}{inp:ByteArray}{s:PS}{go gm:Nat}(hs:Ma.Ok inp.size s)(hen:s.en=0)(hml:s.mem.length<=1048576)(hil:inp.size<=1048576)(hcl:code.length<=1048576)(hst1:s.steps<9223372036854775806)(hcU: ∀x∈code,Ma.U x)
  {hp1:Hp} (M:Mst code inp s go gm hp1) (d:Nat):
  ∃b hp' go' gm',(lim P0 E00 X00).hpc 1 d 237 [.ptr ⟨0,13,0⟩ 1 0] hp1=some (bv b,hp')/\Mst code inp (stepP code (inpF inp) s) go' gm' hp'/\ ∀y:Nm,y.d=0->y.i≠13->hp' y=hp1 y:=by
 have h0:=hs.pc0
 have hpt:=Int.toNat_of_nonneg h0
 unfold stepP
 rw[if_neg Zo]
 cases hw:code[s.pc.toNat]? with
 |none=>
  have hcx:(code.length:Int)<=s.pc:=by have:=List.getElem?_eq_none_iff.1 hw;omega
  obtain⟨hp',h1,h2,h3⟩:=m287_o hcx h0 (hs.pc1) hen hs.rl d hp1 M.bx
  exact⟨false,hp',go,gm,h1,fin1 M h2 rfl rfl rfl h3⟩
 |some w=>
  have hwU:=hcU w (List.mem_of_getElem? hw)
  have hlt:=(List.getElem?_eq_some_iff.1 hw).1
  simp only[Option.elim_some]
  cases hr:rightI (insW w) with
  |false=>
   obtain⟨hp',h1,h2,h3⟩:=m287_b s.pc.toNat hpt.symm w hw hwU hr s.steps rfl hst1 h0 (hs.pc1) hen hs.rl d hp1 M.bx
   exact⟨true,hp',go,gm,h1,fin1 M (t:={s with steps:=s.steps+1,en:=6}) h2 rfl rfl rfl h3⟩
  |true=>
   obtain⟨hp',go',gm',h1,h2,h3⟩:=m287_d w hw hwU hr hs hen hml hil hcl hst1 M hcU (Je inp) d
   exact⟨true,hp',go',gm',h1,h2,h3⟩
theorem Wo_step {code:List Int}{inp:ByteArray}{s:PS}{go gm:Nat}(hs:Ma.Ok inp.size s)(hen:s.en=0)(hml:s.mem.length<=1048576)(hil:inp.size<=1048576)(hcl:code.length<=1048576)(hst1:s.steps<9223372036854775806)(hcU: ∀x∈code,Ma.U x)
  {l:Nat} {all:Array Oper} {os:List Oper} {fr:Nat->AV} {hp:Hp} {Q:AS->Prop} {PQ:Value->Hp->Prop} {ats:Array TypeId} {ty:TypeId} {pos:String} {aft:Array Edge} (M:Mst code inp s go gm hp) (h17:fr 17= .ptr ⟨0,13,0⟩ 1 0)
  (rest: ∀b hp' go' gm',Mst code inp (stepP code (inpF inp) s) go' gm' hp'->(∀y:Nm,y.d=0->y.i≠13->hp' y=hp y)->Wo P0 (E0y l) 1 (lim P0 E00 X00) all os ⟨setd fr (some 18) (bv b),hp'⟩ Q PQ):
  Wo P0 (E0y l) 1 (lim P0 E00 X00) all (⟨some 18,.call {callee:= .value (.func 237),args:= #[.tmp 17],argTypes:=ats},ty,pos,aft,none⟩::os) ⟨fr,hp⟩ Q PQ:=by
 obtain⟨b,hp',go',gm',h1,M',h3⟩:=m287 hs hen hml hil hcl hst1 hcU M 18
 refine Wo_u ?_ (rest b hp' go' gm' M' h3)
 refine(Hg rfl Kha Zd Zi (by simp only[List.map_cons,List.map_nil,opA,List.append_nil,h17];exact rfl)).trans ?_
 simp[Prog.run,h1]
theorem m285 (hrl:rg.length=16)(d:Nat)(hp1:Hp)(hx:hp1 ⟨0,13,0⟩= .box 1 (bxP code inp pc rg M rd steps en o go no) false):(lim P0 E00 X00).hpc 1 d 235 [.ptr ⟨0,13,0⟩ 1 0] hp1=some (bv (en==0),hp1):=by
 have key: ∃z hp',(lim P0 E00 X00).hpc 1 d 235 [.ptr ⟨0,13,0⟩ 1 0] hp1=some (z,hp')/\(z=bv (en==0)/\hp'=hp1):=by
  refine Gx (R:=fun z hp'=>z=bv (en==0)/\hp'=hp1) Tryz.func235 rfl rfl Y5 rfl rfl ?_
  repeat' (first|refine ZN ?_|refine Z2 ?_ ?_|(intro h h';try simp[*,-h] at h'))
  all_goals exact⟨Zi,_,_,rfl,rfl,Zm⟩
 obtain⟨z,hp',h1,rfl,rfl⟩:=key
 exact h1
theorem m286 (hrl:rg.length=16)(d:Nat)(hp1:Hp)(hx:hp1 ⟨0,13,0⟩= .box 1 (bxP code inp pc rg M rd steps en o go no) false):(lim P0 E00 X00).hpc 1 d 236 [.ptr ⟨0,13,0⟩ 1 0] hp1=some (iv pc,hp1):=by
 have key: ∃z hp',(lim P0 E00 X00).hpc 1 d 236 [.ptr ⟨0,13,0⟩ 1 0] hp1=some (z,hp')/\(z=iv pc/\hp'=hp1):=by
  refine Gx (R:=fun z hp'=>z=iv pc/\hp'=hp1) Tryz.func236 rfl rfl Y4 rfl rfl ?_
  repeat' (first|refine ZN ?_|refine Z2 ?_ ?_|(intro h h';try simp[*,-h] at h'))
  all_goals exact⟨Zi,_,_,rfl,rfl,Zm⟩
 obtain⟨z,hp',h1,rfl,rfl⟩:=key
 exact h1
end
section
open Go Go.Ab Go.Ma
attribute [-simp] Prog.bind getCs putCs
attribute [local simp ↓] run_bind
attribute [local simp ↓] Au
attribute [local simp] Ar Am facetsC Ax At
attribute [local simp] Gp Em bx_2 Gl Gk Gj Gi Gh Gg Gf Ds bs_2 Hq Ho Hn Hm Hl Hk En C3 bg_2 Hz Hy Hw Hv Hu Ht Hr
theorem w284 {code:List Int}{inp:ByteArray}{s:PS}{go gm:Nat}(hs:Ma.Ok inp.size s)(hml:s.mem.length<=1048576)(hil:inp.size<=1048576)(hcl:code.length<=1048576)(fuel:Int)(hf:fuel<=4611686018427387904)(hst:s.steps<=1048576)(hcU: ∀x∈code,Ma.U x)
  {hp0':Hp} (M:Mst code inp s go gm hp0') (h16:hp0' ⟨0,16,2⟩= .box 1 [.ptr ⟨0,13,0⟩ 1 0] false) (l:Nat):
  ∃c,Tryz.f234.body=some c/\W P0 (E0y l) 1 (lim P0 E00 X00) c ⟨frame0 [.sc (.func (.yield l) #[] #[]),.dp [iv fuel] 0,.ptr ⟨0,16,2⟩ 1 0],hp0'⟩
   (fun e q=>(e= .normal\/e= .ret)/\ ∃go gm,Mst code inp (runP code (inpF inp) fuel.toNat s) go gm q.hp/\ ∀y:Nm,y.d=0->y.i≠13->q.hp y=hp0' y):=by
 refine⟨_,rfl,?_⟩
 repeat' (first|refine ZN ?_|refine Z2 ?_ ?_|(intro h h';try simp[*,-h] at h'))
 refine Ag (n:=fuel.toNat+1) (fun s0 m q=> ∃k t go gm,m=fuel.toNat+1 - k/\Ma.Run code (inpF inp) inp.size fuel.toNat s k t/\Mst code inp t go gm q.hp/\q.fr 4=iv k/\q.fr 0=s0.fr 0/\q.fr 1=s0.fr 1/\q.fr 2=s0.fr 2/\ ∀y:Nm,y.d=0->y.i≠13->q.hp y=s0.hp y) ⟨0,s,go,gm,Zi,.start _ hs,by simpa using M,Zi,Zi,Zi,Zi,fun y h0 h1=>rfl⟩ ?_
 rintro m ⟨fr,hp⟩ ⟨k,t,go',gm',rfl,R,M',hs4,hs0,hs1,hs2,hoth⟩
 simp at hs4 hs0 hs1 hs2
 dsimp only at M' hoth
 have h16':hp ⟨0,16,2⟩= .box 1 [.ptr ⟨0,13,0⟩ 1 0] false:=(hoth ⟨0,16,2⟩ rfl Zd).trans h16
 have hx:=M'.bx
 have hrl:=R.ok.rl
 have hkF:=R.le
 have hmt:=R.mem
 have hstt:=R.st
 have h285:=fun d hp hx=>m285 (code:=code) (inp:=inp) (pc:=t.pc) (rg:=t.rg) (M:=memA t.own gm' t.mem) (rd:=t.rd) (steps:=t.steps) (en:=t.en) (o:=t.own) (go:=go') (no:=t.out.length) hrl d hp hx
 have h286:=fun d hp hx=>m286 (code:=code) (inp:=inp) (pc:=t.pc) (rg:=t.rg) (M:=memA t.own gm' t.mem) (rd:=t.rd) (steps:=t.steps) (en:=t.en) (o:=t.own) (go:=go') (no:=t.out.length) hrl d hp hx
 have hw:=wrapN (k:=k) Zo
 by_cases hlt:(k:Int)<fuel
 ·by_cases he:t.en=0
  ·have hb:=Av t.en 0
   simp only[he,decide_true] at hb
   have hnx:=R.next Zo he Zo hcU (Je inp)
   have hok:=R.ok
   clear R
   repeat' (first|refine ZN ?_|refine Z2 ?_ ?_|(intro h h';try simp[*,-h] at h'))
   all_goals
    refine Wo_step (s:=t) hok he Zo hil hcl Zo hcU (code:=code) (inp:=inp) (go:=go') (gm:=gm') ⟨by simp[*,M'.bx],by simp[M'.out],fun h=>by simp[M'.mem h]⟩ Zi ?_
    intro b hp2 go2 gm2 M2 h32
    cases b
    all_goals
     repeat' (first|refine ZN ?_|refine Z2 ?_ ?_|(intro h h';try simp[*,-h] at h'))
     exact⟨_,Zo,k+1,_,go2,gm2,rfl,hnx,by simpa using M2,Zm,Zm,Zm,Zm,fun y h0 h1=>(h32 y h0 h1).trans (hoth y h0 h1)⟩
  ·have hb:=Av t.en 0
   simp only[he,decide_false] at hb
   have HD:=Lib.hid (R.done (.inr he))
   clear R
   repeat' (first|refine ZN ?_|refine Z2 ?_ ?_|(intro h h';try simp[*,-h] at h'))
   all_goals
    have hd:=HD.out
    subst hd
    exact⟨.inl rfl,go',gm',by simpa using M',fun y h0 h1=>hoth y h0 h1⟩
 ·have HD:=Lib.hid (R.done (.inl Zo))
  clear R
  repeat' (first|refine ZN ?_|refine Z2 ?_ ?_|(intro h h';try simp[*,-h] at h'))
  all_goals
   have hd:=HD.out
   subst hd
   exact⟨.inl rfl,go',gm',by simpa using M',fun y h0 h1=>hoth y h0 h1⟩
end
section
open Go Go.Ab Go.Ma
attribute [-simp] Prog.bind getCs putCs
attribute [local simp ↓] run_bind
attribute [local simp ↓] Au
attribute [local simp] Ar Am facetsC Ax At
theorem m211 {code mem:List Int}{inp:ByteArray}{data:Int}(hp1:Hp)(h0:hp1 ⟨0,13,0⟩= .no 0)(h1:hp1 ⟨0,13,26⟩= .no 0):
  ∃hp',(lim P0 E00 X00).hpc 0 13 152 [.agg [.sl false 1 (rowW code),iv data],.sc (.string inp),.agg [iv 0,uv 0,uv 0,uv 0,uv 0,uv 0,uv 0,uv 0,uv 0,uv 0,uv 0,uv 0,uv 0,uv 0,uv 0,uv 0,uv 0,.sl false 1 (rowW mem),iv 0,.sc (.string ⟨#[]⟩),iv 0,iv 0]] hp1=some (.ptr ⟨0,13,0⟩ 1 0,hp')/\hp' ⟨0,13,0⟩= .box 1 (bxP code inp 0 [0,0,0,0,0,0,0,0,0,0,0,0,0,0,0,0] (.sl false 1 (rowW mem)) 0 0 0 false 1 0) false/\hp' ⟨0,13,26⟩= .arr 1 1 5 [] false/\ ∀y:Nm,y.d=0->y.i≠13->hp' y=hp1 y:=by
 refine hpcZ Tryz.func152 rfl rfl A5a rfl rfl ?_
 repeat' (first|refine ZN ?_|refine Z2 ?_ ?_|(intro h h';try simp[*,-h] at h'))
 all_goals refine⟨Zi,?_⟩
 all_goals (with_reducible apply ex2)
 all_goals first
  |((conv=>lhs;simp -implicitDefEqProofs [*,lowerRes,lowerV,resultV,lowerC,escC,escL,moveB,lowerL,lowerAll])<;>exact rfl)
  |exact⟨rfl,by simp[bxP],Zi,fun y h0 h1=>(by have e1: ∀k i c,y≠⟨k+1,i,c⟩:=fun k i c e=>(by subst e;simp at h0);have e2: ∀i c,y≠⟨1,i,c⟩:=fun i c=>e1 0 i c;have e6: ∀c,y≠⟨0,13,c⟩:=fun c=>ne13 h1 rfl;simp[*])⟩
theorem m212 {cells:List AV}{fuel:Int}(hp1:Hp)(h0:hp1 ⟨0,13,0⟩= .box 1 cells false)(h1:hp1 ⟨0,16,2⟩= .no 0):
  ∃hp',(lim P0 E00 X00).hpc 0 16 153 [.ptr ⟨0,13,0⟩ 1 0,iv fuel] hp1=some (.fn 234 [.dp [iv fuel] 0,.ptr ⟨0,16,2⟩ 1 0],hp')/\hp' ⟨0,16,2⟩= .box 1 [.ptr ⟨0,13,0⟩ 1 0] false/\ ∀y:Nm,y.d=0->y≠⟨0,16,2⟩->hp' y=hp1 y:=by
 refine hpcZ Tryz.func153 rfl rfl A4a rfl rfl ?_
 repeat' (first|refine ZN ?_|refine Z2 ?_ ?_|(intro h h';try simp[*,-h] at h'))
 all_goals refine⟨Zi,?_⟩
 all_goals (with_reducible apply ex2)
 all_goals first
  |((conv=>lhs;simp -implicitDefEqProofs [*,lowerRes,lowerV,resultV,lowerC,escC,escL,moveB,lowerL,lowerAll])<;>exact rfl)
  |exact⟨rfl,Zi,fun y h0 h1=>(by have e1: ∀k i c,y≠⟨k+1,i,c⟩:=fun k i c e=>(by subst e;simp at h0);have e2: ∀i c,y≠⟨1,i,c⟩:=fun i c=>e1 0 i c;simp[*])⟩
end
section
open Go Go.Ab Go.Ma
attribute [-simp] Prog.bind getCs putCs
attribute [local simp ↓] run_bind
attribute [local simp ↓] Au
attribute [local simp] Ar Am facetsC Ax At
theorem E1a (b:ByteArray):(⟨#[]⟩:ByteArray)++b=b:=by
 apply ByteArray.ext
 simp[ByteArray.data_append]
def outT (out:List Int):ByteArray:=⟨⟨toBytes out⟩⟩
attribute [local simp] E1a Ov Cn
theorem m213se {code mem out:List Int}{inp:ByteArray}{pc rd steps en:Int}{x0 x1 x2 x3 x4 x5 x6 x7 x8 x9 x10 x11 x12 x13 x14 x15:Int}{gm go:Nat}(hp1:Hp)(hx:hp1 ⟨0,13,0⟩= .box 1 (bxP code inp pc [x0,x1,x2,x3,x4,x5,x6,x7,x8,x9,x10,x11,x12,x13,x14,x15] (.sl false 1 (rowW mem)) rd steps en false go 0) false)(hmo:hp1 ⟨0,13,26⟩= .arr go 1 5 [] false):
  ∃hp',(lim P0 E00 X00).hpc 0 19 154 [.ptr ⟨0,13,0⟩ 1 0] hp1=some (.agg (iv pc::uv x0::uv x1::uv x2::uv x3::uv x4::uv x5::uv x6::uv x7::uv x8::uv x9::uv x10::uv x11::uv x12::uv x13::uv x14::uv x15:: .sl false 1 (rowW mem)::iv rd:: .sc (.string (outT []))::iv steps::iv en::[]),hp')/\ ∀y:Nm,y.d=0->y.i≠13->y.i≠19->hp' y=hp1 y:=by
 refine hpcZ Tryz.func154 rfl rfl F8 rfl rfl ?_
 unfold bxP at hx
 simp only[List.map_cons,List.map_nil,List.cons_append,List.nil_append] at hx
 repeat' (first|refine ZN ?_|refine Z2 ?_ ?_|(intro h h';try simp[*,-h] at h'))
 all_goals refine⟨Zi,?_⟩
 all_goals (with_reducible apply ex2)
 all_goals first
  |((conv=>lhs;simp -implicitDefEqProofs [*,lowerRes,lowerV,resultV,lowerC,escC,escL,moveB,lowerL,lowerAll])<;>exact rfl)
  |exact⟨by simp[outT,toBytes],fun y h0 h1 h2=>(by have e1: ∀k i c,y≠⟨k+1,i,c⟩:=fun k i c e=>(by subst e;simp at h0);have e2: ∀i c,y≠⟨1,i,c⟩:=fun i c=>e1 0 i c;have e6: ∀c,y≠⟨0,13,c⟩:=fun c=>ne13 h1 rfl;have e7: ∀c,y≠⟨0,19,c⟩:=fun c e=>h2 (by rw[e]);simp[*])⟩
theorem m213sn {code mem out:List Int}{inp:ByteArray}{pc rd steps en:Int}{x0 x1 x2 x3 x4 x5 x6 x7 x8 x9 x10 x11 x12 x13 x14 x15:Int}{gm go:Nat}(hp1:Hp)(hx:hp1 ⟨0,13,0⟩= .box 1 (bxP code inp pc [x0,x1,x2,x3,x4,x5,x6,x7,x8,x9,x10,x11,x12,x13,x14,x15] (.sl false 1 (rowW mem)) rd steps en false go out.length) false)(hmo:hp1 ⟨0,13,26⟩= .arr go 1 5 (rowB out) false)(hout:0<out.length)(hol:out.length<=65536):
  ∃hp',(lim P0 E00 X00).hpc 0 19 154 [.ptr ⟨0,13,0⟩ 1 0] hp1=some (.agg (iv pc::uv x0::uv x1::uv x2::uv x3::uv x4::uv x5::uv x6::uv x7::uv x8::uv x9::uv x10::uv x11::uv x12::uv x13::uv x14::uv x15:: .sl false 1 (rowW mem)::iv rd:: .sc (.string (outT out))::iv steps::iv en::[]),hp')/\ ∀y:Nm,y.d=0->y.i≠13->y.i≠19->hp' y=hp1 y:=by
 refine hpcZ Tryz.func154 rfl rfl F8 rfl rfl ?_
 unfold bxP at hx
 simp only[List.map_cons,List.map_nil,List.cons_append,List.nil_append] at hx
 have v0:(0:Int)<out.length:=Zo
 have v1:out.length<=9223372036854775807:=Zo
 have v2:(⟨⟨toBytes out⟩⟩:ByteArray).size=out.length:=by show(toBytes out).length=_;simp[toBytes]
 have v3:(rowB out).take out.length=rowB out:=List.take_of_length_le Zi
 have v4:bytesOfRows (rowB out)=some (toBytes out):=Cn out
 have v5:(rowB out).length=out.length:=List.length_map ..
 have v6:rowB out≠[]:=fun h=>by rw[h] at v5;simp at v5;omega
 generalize rowB out=RB at*
 repeat' (first|refine ZN ?_|refine Z2 ?_ ?_|(intro h h';try simp[*,-h] at h'))
 all_goals refine⟨Zi,?_⟩
 all_goals (with_reducible apply ex2)
 all_goals first
  |((conv=>lhs;simp -implicitDefEqProofs [*,lowerRes,lowerV,resultV,lowerC,escC,escL,moveB,lowerL,lowerAll])<;>exact rfl)
  |exact⟨by simp[outT,toBytes],fun y h0 h1 h2=>(by have e1: ∀k i c,y≠⟨k+1,i,c⟩:=fun k i c e=>(by subst e;simp at h0);have e2: ∀i c,y≠⟨1,i,c⟩:=fun i c=>e1 0 i c;have e6: ∀c,y≠⟨0,13,c⟩:=fun c=>ne13 h1 rfl;have e7: ∀c,y≠⟨0,19,c⟩:=fun c e=>h2 (by rw[e]);simp[*])⟩
theorem m213we {code mem out:List Int}{inp:ByteArray}{pc rd steps en:Int}{x0 x1 x2 x3 x4 x5 x6 x7 x8 x9 x10 x11 x12 x13 x14 x15:Int}{gm go:Nat}(hp1:Hp)(hx:hp1 ⟨0,13,0⟩= .box 1 (bxP code inp pc [x0,x1,x2,x3,x4,x5,x6,x7,x8,x9,x10,x11,x12,x13,x14,x15] (.own ⟨0,13,20⟩ gm mem.length) rd steps en true go 0) false)(hmo:hp1 ⟨0,13,26⟩= .arr go 1 5 [] false)(hm:hp1 ⟨0,13,20⟩= .arr gm 1 23 (rowW mem) false)(h19:hp1 ⟨0,19,18⟩= .no 0):
  ∃hp',(lim P0 E00 X00).hpc 0 19 154 [.ptr ⟨0,13,0⟩ 1 0] hp1=some (.agg (iv pc::uv x0::uv x1::uv x2::uv x3::uv x4::uv x5::uv x6::uv x7::uv x8::uv x9::uv x10::uv x11::uv x12::uv x13::uv x14::uv x15:: .own ⟨0,19,18⟩ 1 mem.length::iv rd:: .sc (.string (outT []))::iv steps::iv en::[]),hp')/\hp' ⟨0,19,18⟩= .arr 1 1 23 (rowW mem) false/\ ∀y:Nm,y.d=0->y.i≠13->y.i≠19->hp' y=hp1 y:=by
 refine hpcZ Tryz.func154 rfl rfl F8 rfl rfl ?_
 unfold bxP at hx
 simp only[List.map_cons,List.map_nil,List.cons_append,List.nil_append] at hx
 have w5:(rowW mem).length=mem.length:=List.length_map ..
 generalize rowW mem=RM at*
 repeat' (first|refine ZN ?_|refine Z2 ?_ ?_|(intro h h';try simp[*,-h] at h'))
 all_goals refine⟨Zi,?_⟩
 all_goals (with_reducible apply ex2)
 all_goals first
  |((conv=>lhs;simp -implicitDefEqProofs [*,lowerRes,lowerV,resultV,lowerC,escC,escL,moveB,lowerL,lowerAll])<;>exact rfl)
  |exact⟨by simp[outT,toBytes],Zi,fun y h0 h1 h2=>(by have e1: ∀k i c,y≠⟨k+1,i,c⟩:=fun k i c e=>(by subst e;simp at h0);have e2: ∀i c,y≠⟨1,i,c⟩:=fun i c=>e1 0 i c;have e6: ∀c,y≠⟨0,13,c⟩:=fun c=>ne13 h1 rfl;have e7: ∀c,y≠⟨0,19,c⟩:=fun c e=>h2 (by rw[e]);simp[*])⟩
theorem m213wn {code mem out:List Int}{inp:ByteArray}{pc rd steps en:Int}{x0 x1 x2 x3 x4 x5 x6 x7 x8 x9 x10 x11 x12 x13 x14 x15:Int}{gm go:Nat}(hp1:Hp)(hx:hp1 ⟨0,13,0⟩= .box 1 (bxP code inp pc [x0,x1,x2,x3,x4,x5,x6,x7,x8,x9,x10,x11,x12,x13,x14,x15] (.own ⟨0,13,20⟩ gm mem.length) rd steps en true go out.length) false)(hmo:hp1 ⟨0,13,26⟩= .arr go 1 5 (rowB out) false)(hout:0<out.length)(hol:out.length<=65536)(hm:hp1 ⟨0,13,20⟩= .arr gm 1 23 (rowW mem) false)(h19:hp1 ⟨0,19,18⟩= .no 0):
  ∃hp',(lim P0 E00 X00).hpc 0 19 154 [.ptr ⟨0,13,0⟩ 1 0] hp1=some (.agg (iv pc::uv x0::uv x1::uv x2::uv x3::uv x4::uv x5::uv x6::uv x7::uv x8::uv x9::uv x10::uv x11::uv x12::uv x13::uv x14::uv x15:: .own ⟨0,19,18⟩ 1 mem.length::iv rd:: .sc (.string (outT out))::iv steps::iv en::[]),hp')/\hp' ⟨0,19,18⟩= .arr 1 1 23 (rowW mem) false/\ ∀y:Nm,y.d=0->y.i≠13->y.i≠19->hp' y=hp1 y:=by
 refine hpcZ Tryz.func154 rfl rfl F8 rfl rfl ?_
 unfold bxP at hx
 simp only[List.map_cons,List.map_nil,List.cons_append,List.nil_append] at hx
 have v0:(0:Int)<out.length:=Zo
 have v1:out.length<=9223372036854775807:=Zo
 have v2:(⟨⟨toBytes out⟩⟩:ByteArray).size=out.length:=by show(toBytes out).length=_;simp[toBytes]
 have v3:(rowB out).take out.length=rowB out:=List.take_of_length_le Zi
 have v4:bytesOfRows (rowB out)=some (toBytes out):=Cn out
 have v5:(rowB out).length=out.length:=List.length_map ..
 have v6:rowB out≠[]:=fun h=>by rw[h] at v5;simp at v5;omega
 generalize rowB out=RB at*
 have w5:(rowW mem).length=mem.length:=List.length_map ..
 generalize rowW mem=RM at*
 repeat' (first|refine ZN ?_|refine Z2 ?_ ?_|(intro h h';try simp[*,-h] at h'))
 all_goals refine⟨Zi,?_⟩
 all_goals (with_reducible apply ex2)
 all_goals first
  |((conv=>lhs;simp -implicitDefEqProofs [*,lowerRes,lowerV,resultV,lowerC,escC,escL,moveB,lowerL,lowerAll])<;>exact rfl)
  |exact⟨by simp[outT,toBytes],Zi,fun y h0 h1 h2=>(by have e1: ∀k i c,y≠⟨k+1,i,c⟩:=fun k i c e=>(by subst e;simp at h0);have e2: ∀i c,y≠⟨1,i,c⟩:=fun i c=>e1 0 i c;have e6: ∀c,y≠⟨0,13,c⟩:=fun c=>ne13 h1 rfl;have e7: ∀c,y≠⟨0,19,c⟩:=fun c e=>h2 (by rw[e]);simp[*])⟩
end
section
open Go Go.Ab Go.Ma
attribute [-simp] Prog.bind getCs putCs
attribute [local simp ↓] run_bind
attribute [local simp ↓] Au
attribute [local simp] Ar Am facetsC Ax At
theorem exH {α β:Type}{p:Option (α×β)}{v:α}{h:β}(e:p=some (v,h)): ∃h,p=some (v,h):=⟨h,e⟩
def startM (mem:List Int):PS:=⟨0,[0,0,0,0,0,0,0,0,0,0,0,0,0,0,0,0],mem,0,[],0,0,false⟩
def stA (mem:List Int):List AV:=[iv 0,uv 0,uv 0,uv 0,uv 0,uv 0,uv 0,uv 0,uv 0,uv 0,uv 0,uv 0,uv 0,uv 0,uv 0,uv 0,uv 0,.sl false 1 (rowW mem),iv 0,.sc (.string ⟨#[]⟩),iv 0,iv 0]
def resS (s:PS):AV:= .agg (iv s.pc::(s.rg.map uv++[if s.own then .vec 1 (rowW s.mem) else .sl false 1 (rowW s.mem),iv s.rd,.sc (.string (outT s.out)),iv s.steps,iv s.en]))
theorem Wo_new {code mem:List Int}{inp:ByteArray}{data:Int}{all:Array Oper}{os:List Oper}{fr:Nat->AV}{hp:Hp}{Q:AS->Prop}{PQ:Value->Hp->Prop}{ats:Array TypeId}{ty:TypeId}{pos:String}{aft:Array Edge}(h0:hp ⟨0,13,0⟩= .no 0)(h1:hp ⟨0,13,26⟩= .no 0)
  (h10:fr 10= .agg [.sl false 1 (rowW code),iv data]) (h11:fr 11= .sc (.string inp)) (h12:fr 12= .agg (stA mem))
  (rest: ∀hp',hp' ⟨0,13,0⟩= .box 1 (bxP code inp 0 [0,0,0,0,0,0,0,0,0,0,0,0,0,0,0,0] (.sl false 1 (rowW mem)) 0 0 0 false 1 0) false->hp' ⟨0,13,26⟩= .arr 1 1 5 [] false->(∀y:Nm,y.d=0->y.i≠13->hp' y=hp y)->Wo P0 E00 0 (lim P0 E00 X00) all os ⟨setd fr (some 13) (.ptr ⟨0,13,0⟩ 1 0),hp'⟩ Q PQ):
  Wo P0 E00 0 (lim P0 E00 X00) all (⟨some 13,.call {callee:= .value (.func 152),args:= #[.tmp 10,.tmp 11,.tmp 12],argTypes:=ats},ty,pos,aft,none⟩::os) ⟨fr,hp⟩ Q PQ:=by
 obtain⟨hp',e1,e2,e3,e4⟩:=m211 (code:=code) (mem:=mem) (inp:=inp) (data:=data) hp h0 h1
 refine Wo_u ?_ (rest hp' e2 e3 e4)
 refine(Hg rfl Kka Zd Zi (by simp only[List.map_cons,List.map_nil,opA,List.append_nil,h10,h11,h12];exact rfl)).trans ?_
 unfold stA
 simp[Prog.run,e1]
theorem Mxa {cells:List AV}{fuel:Int}{all:Array Oper}{os:List Oper}{fr:Nat->AV}{hp:Hp}{Q:AS->Prop}{PQ:Value->Hp->Prop}{ats:Array TypeId}{ty:TypeId}{pos:String}{aft:Array Edge}(h0:hp ⟨0,13,0⟩= .box 1 cells false)(h1:hp ⟨0,16,2⟩= .no 0)
  (h14:fr 14= .ptr ⟨0,13,0⟩ 1 0) (h15:fr 15=iv fuel)
  (rest: ∀hp',hp' ⟨0,16,2⟩= .box 1 [.ptr ⟨0,13,0⟩ 1 0] false->(∀y:Nm,y.d=0->y≠⟨0,16,2⟩->hp' y=hp y)->Wo P0 E00 0 (lim P0 E00 X00) all os ⟨setd fr (some 16) (.fn 234 [.dp [iv fuel] 0,.ptr ⟨0,16,2⟩ 1 0]),hp'⟩ Q PQ):
  Wo P0 E00 0 (lim P0 E00 X00) all (⟨some 16,.call {callee:= .value (.func 153),args:= #[.tmp 14,.tmp 15],argTypes:=ats},ty,pos,aft,none⟩::os) ⟨fr,hp⟩ Q PQ:=by
 obtain⟨hp',e1,e2,e3⟩:=m212 (cells:=cells) (fuel:=fuel) hp h0 h1
 refine Wo_u ?_ (rest hp' e2 e3)
 refine(Hg rfl Kja Zd Zi (by simp only[List.map_cons,List.map_nil,opA,List.append_nil,h14,h15];exact rfl)).trans ?_
 simp[Prog.run,e1]
structure Go1 (code mem:List Int)(inp:ByteArray)(fuel:Int)(q:AS):Prop where
 f16:q.fr 16= .fn 234 [.dp [iv fuel] 0,.ptr ⟨0,16,2⟩ 1 0]
 f9:q.fr 9= .ptr ⟨0,13,0⟩ 1 0
 f8:q.fr 8= .ptr ⟨0,8,0⟩ 1 0
 bx:Mst code inp (startM mem) 1 0 q.hp
 b16:q.hp ⟨0,16,2⟩= .box 1 [.ptr ⟨0,13,0⟩ 1 0] false
 b8: ∃gz,q.hp ⟨0,8,0⟩= .box 1 [.sc (.int .i64 0),.sc (.int .u32 0),.sc (.int .u32 0),.sc (.int .u32 0),.sc (.int .u32 0),.sc (.int .u32 0),.sc (.int .u32 0),.sc (.int .u32 0),.sc (.int .u32 0),.sc (.int .u32 0),.sc (.int .u32 0),.sc (.int .u32 0),.sc (.int .u32 0),.sc (.int .u32 0),.sc (.int .u32 0),.sc (.int .u32 0),.sc (.int .u32 0),.own ⟨0,8,18⟩ gz 0,.sc (.int .i64 0),.sc (.string ⟨#[]⟩),.sc (.int .i64 0),.sc (.int .i64 0)] false
 n19:q.hp ⟨0,19,18⟩= .no 0
theorem w155a {code mem:List Int}{inp:ByteArray}{data fuel:Int}: ∃R0 R1 R2 R3,Tryz.f105.body=some (.seq R0 (.seq R1 (.seq (.seq R2 (.block 0 (.rangeFunc (.tmp 16) #[17] .skip (.block 1 .skip)))) (.seq R3 .ret))))/\
  W P0 E00 0 (lim P0 E00 X00) (.seq R0 (.seq R1 R2)) ⟨frame0 [.agg [.sl false 1 (rowW code),iv data],.sc (.string inp),.agg (stA mem),iv fuel],hp0⟩ (fun e q=>e= .normal/\Go1 code mem inp fuel q):=by
 refine⟨_,_,_,_,rfl,?_⟩
 have hp00: ∀y,hp0 y= .no 0:=fun _=>rfl
 generalize hST:stA mem=SA
 have hSA:SA=[iv 0,uv 0,uv 0,uv 0,uv 0,uv 0,uv 0,uv 0,uv 0,uv 0,uv 0,uv 0,uv 0,uv 0,uv 0,uv 0,uv 0,.sl false 1 (rowW mem),iv 0,.sc (.string ⟨#[]⟩),iv 0,iv 0]:=hST.symm
 clear hST
 repeat' (first|refine ZN ?_|refine Z2 ?_ ?_|(intro h h';try simp[*,-h] at h'))
 all_goals
  refine Wo_new (code:=code) (mem:=mem) (inp:=inp) (data:=data) (by simp[hp00]) (by simp[hp00]) (by simp[hSA]) Zi (by simp[hSA,stA]) ?_
  intro hp1 hx hmo hoth
  have h16:hp1 ⟨0,16,2⟩= .no 0:=by rw[hoth _ rfl Zd];simp[hp00]
  have h19:hp1 ⟨0,19,18⟩= .no 0:=by rw[hoth _ rfl Zd];simp[hp00]
  have h8:=hoth ⟨0,8,0⟩ rfl Zd
  simp[hp00] at h8
  clear hoth hp00
  repeat' (first|refine ZN ?_|refine Z2 ?_ ?_|(intro h h';try simp[*,-h] at h'))
  all_goals
   refine Mxa (cells:=bxP code inp 0 [0,0,0,0,0,0,0,0,0,0,0,0,0,0,0,0] (.sl false 1 (rowW mem)) 0 0 0 false 1 0) (fuel:=fuel) (by simp[hx]) (by simp[h16]) Zi Zi ?_
   intro hp2 hb16 hoth2
   have hx2:=(hoth2 ⟨0,13,0⟩ rfl Zd).trans hx
   have hmo2:=(hoth2 ⟨0,13,26⟩ rfl Zd).trans hmo
   have h82:=(hoth2 ⟨0,8,0⟩ rfl Zd).trans h8
   have h192:=(hoth2 ⟨0,19,18⟩ rfl Zd).trans h19
   clear hoth2 hx hmo h8 h19 h16
   repeat' (first|refine ZN ?_|refine Z2 ?_ ?_|(intro h h';try simp[*,-h] at h'))
   all_goals exact⟨rfl,⟨Zi,Zi,Zi,⟨by simpa[startM,memA] using hx2,by simpa[startM] using hmo2,fun h=>by simp[startM] at h⟩,hb16,⟨_,h82⟩,h192⟩⟩
theorem w155b {code:List Int}{inp:ByteArray}{s:PS}{go gm gz:Nat}{fr:Nat->AV}{hp:Hp}(M:Mst code inp s go gm hp)(hrl:s.rg.length=16)(hol:s.out.length<=65536)(f9:fr 9= .ptr ⟨0,13,0⟩ 1 0)(f8:fr 8= .ptr ⟨0,8,0⟩ 1 0)(h8:hp ⟨0,8,0⟩= .box 1 [.sc (.int .i64 0),.sc (.int .u32 0),.sc (.int .u32 0),.sc (.int .u32 0),.sc (.int .u32 0),.sc (.int .u32 0),.sc (.int .u32 0),.sc (.int .u32 0),.sc (.int .u32 0),.sc (.int .u32 0),.sc (.int .u32 0),.sc (.int .u32 0),.sc (.int .u32 0),.sc (.int .u32 0),.sc (.int .u32 0),.sc (.int .u32 0),.sc (.int .u32 0),.own ⟨0,8,18⟩ gz 0,.sc (.int .i64 0),.sc (.string ⟨#[]⟩),.sc (.int .i64 0),.sc (.int .i64 0)] false)(h19:hp ⟨0,19,18⟩= .no 0)
  {R0 R1 R2 R3:Code} (hb:Tryz.f105.body=some (.seq R0 (.seq R1 (.seq (.seq R2 (.block 0 (.rangeFunc (.tmp 16) #[17] .skip (.block 1 .skip)))) (.seq R3 .ret))))):
  W P0 E00 0 (lim P0 E00 X00) (.seq R3 .ret) ⟨fr,hp⟩ (fun e q=>e= .ret/\ ∃hpf,(resultsP P0 q.fr Tryz.f105.resultTypes.toList Tryz.f105.results.toList).run q.hp=some ([resS s],hpf)):=by
 have hb':=Option.some.inj hb
 simp only[Code.seq.injEq] at hb'
 obtain⟨-,-,-,rfl,-⟩:=hb'
 clear hb
 obtain⟨pc,rg,mem,rd,out,steps,en,own⟩:=s
 obtain⟨x0,x1,x2,x3,x4,x5,x6,x7,x8,x9,x10,x11,x12,x13,x14,x15,rfl⟩:=Ee hrl
 have hx:=M.bx
 have hmo:=M.out
 have hm:=M.mem
 simp only at hx hmo hm hol
 have key: ∃M1 hp',(lim P0 E00 X00).hpc 0 19 154 [.ptr ⟨0,13,0⟩ 1 0] hp=some (.agg (iv pc::uv x0::uv x1::uv x2::uv x3::uv x4::uv x5::uv x6::uv x7::uv x8::uv x9::uv x10::uv x11::uv x12::uv x13::uv x14::uv x15::M1::iv rd:: .sc (.string (outT out))::iv steps::iv en::[]),hp')/\(own=false->M1= .sl false 1 (rowW mem))/\(own=true->M1= .own ⟨0,19,18⟩ 1 mem.length/\hp' ⟨0,19,18⟩= .arr 1 1 23 (rowW mem) false)/\ ∀y:Nm,y.d=0->y.i≠13->y.i≠19->hp' y=hp y:=by
  rcases Nat.eq_zero_or_pos out.length with h0|h0
  ·obtain rfl:=List.eq_nil_of_length_eq_zero h0
   cases own with
   |false=>
    obtain⟨hp',e1,e2⟩:=m213se (gm:=gm) (out:=[]) hp hx hmo
    exact⟨_,hp',e1,fun _=>rfl,fun h=>(nomatch h),e2⟩
   |true=>
    obtain⟨hp',e1,e2,e3⟩:=m213we (out:=[]) hp hx hmo (hm rfl) h19
    exact⟨_,hp',e1,fun h=>(nomatch h),fun _=>⟨rfl,e2⟩,e3⟩
  ·cases own with
   |false=>
    obtain⟨hp',e1,e2⟩:=m213sn (gm:=gm) hp hx hmo h0 hol
    exact⟨_,hp',e1,fun _=>rfl,fun h=>(nomatch h),e2⟩
   |true=>
    obtain⟨hp',e1,e2,e3⟩:=m213wn hp hx hmo h0 hol (hm rfl) h19
    exact⟨_,hp',e1,fun h=>(nomatch h),fun _=>⟨rfl,e2⟩,e3⟩
 obtain⟨M1,hp',e1,e2,e3,e4⟩:=key
 have h82:=(e4 ⟨0,8,0⟩ rfl Zd Zd).trans h8
 clear e4 hx hmo hm M h8 h19 hol
 unfold resS
 simp only[List.map_cons,List.map_nil,List.cons_append,List.nil_append]
 have hml:(rowW mem).length=mem.length:=List.length_map ..
 have htk:(rowW mem).take mem.length=rowW mem:=List.take_of_length_le Zi
 generalize rowW mem=RM at*
 cases own
 ·have e5:=e2 rfl
  subst e5
  clear e2 e3
  repeat' (first|refine ZN ?_|refine Z2 ?_ ?_|(intro h h';try simp[*,-h] at h'))
  all_goals refine⟨rfl,?_⟩
  all_goals rw[show Tryz.f105.resultTypes.toList=[186] from rfl,show Tryz.f105.results.toList=[.cell 8 186] from rfl]
  all_goals (with_reducible apply exH)
  all_goals exact Zc
 ·obtain⟨e5,e6⟩:=e3 rfl
  subst e5
  clear e2 e3
  repeat' (first|refine ZN ?_|refine Z2 ?_ ?_|(intro h h';try simp[*,-h] at h'))
  all_goals refine⟨rfl,?_⟩
  all_goals rw[show Tryz.f105.resultTypes.toList=[186] from rfl,show Tryz.f105.results.toList=[.cell 8 186] from rfl]
  all_goals (with_reducible apply exH)
  all_goals exact Zc
end
section
open Go Go.Ab Go.Ma
theorem X00_ok :A4 P0 X00:=⟨fun f args rs h=>by simp[X00] at h,fun k d f args hp v hp' h=>by simp[X00] at h⟩
theorem Lj :P0.follows .mixedOrders=true:=Zf
theorem E00_law :La P0 E00.eq:=fun t h=>by simp at h
theorem Lb :ELaw P0 E00:=⟨E00_law,fun _=>rfl⟩
theorem E0y_law (l:Nat):La P0 (E0y l).eq:=fun t h=>by simp at h
theorem Wk :A4 P0 (lim P0 E00 X00):=Ll Lj Lb X00_ok
theorem P3 {n:Nat}{mem:List Int}(h: ∀x∈mem,Ma.U x):Ma.Ok n (startM mem):=
 {pc0:=Int.le_refl 0,pc1:=(by decide:(0:Int)<=4294967296),rl:=rfl
  ru:=fun x hx=>by simp[startM] at hx;subst hx;exact⟨Zd,Zd⟩
  mu:=h,rd:=Nat.zero_le _,ou:=fun x hx=>by simp[startM] at hx,ol:=Nat.zero_le _,en0:=Int.le_refl 0,en1:=(by decide:(0:Int)<=8)}
theorem Lma {code mem:List Int}{inp:ByteArray}{data fuel:Int}(hcU: ∀x∈code,Ma.U x)(hmU: ∀x∈mem,Ma.U x)(hml:mem.length<=1048576)(hil:inp.size<=1048576)(hcl:code.length<=1048576)(hf:fuel<=4611686018427387904)
  {I:Nat->Prop} {w:World} {us:List Value} (hI: ∀b,I b->b<w.heap.size) (hgl:GlOk I w) (ha:AllR (RepA I w) [.agg [.sl false 1 (rowW code),iv data],.sc (.string inp),.agg (stA mem),iv fuel] us):
  Calls P0 105 ⟨us⟩ w (fun e w'=> ∃u,e= .returned u/\CallPost P0 I w (rtys P0 105) [resS (runP code (inpF inp) fuel.toNat (startM mem))] u w'):=by
 obtain⟨R0,R1,R2,R3,hb,hW⟩:=w155a (code:=code) (mem:=mem) (inp:=inp) (data:=data) (fuel:=fuel)
 have hsl:slotsIn Tryz.f105.ntmps (.seq R0 (.seq R1 (.seq (.seq R2 (.block 0 (.rangeFunc (.tmp 16) #[17] .skip (.block 1 .skip)))) (.seq R3 .ret))))=true:=by
  have h:=Pf
  unfold Ac at h
  rw[hb] at h
  simp only[Bool.and_eq_true] at h
  exact h.1.1
 simp only[slotsIn,Bool.and_eq_true] at hsl
 obtain⟨hs0,hs1,⟨hs2,_⟩,hs3,_⟩:=hsl
 refine fnM_ok Tryz.func105 hb Pf rfl hI hgl ha fun a S0=>?_
 refine wpIn_seq (W.wpIn Lj Lb Wk (D8 hW) hs0 S0 ?_)
 rintro e s a1 w1 hR S1
 cases e with
 |exit i=>exact nomatch hR.1
 |ret=>exact nomatch hR.1
 |panic v=>exact nomatch hR.1
 |normal=>
 refine wpIn_seq (W.wpIn Lj Lb Wk (D8 hR) hs1 S1 ?_)
 rintro e s a2 w2 hR S2
 cases e with
 |exit i=>exact nomatch hR.1
 |ret=>exact nomatch hR.1
 |panic v=>exact nomatch hR.1
 |normal=>
 refine wpIn_seq (wpIn_seq (W.wpIn Lj Lb Wk hR hs2 S2 ?_))
 rintro e s a3 w3 ⟨rfl,G⟩ S3
 obtain⟨gz,h8⟩:=G.b8
 have hok:Ma.Ok inp.size (startM mem):=P3 hmU
 refine wpIn_block (Xe (g:= .tmp 16) (HP:=fun hp'=> ∃go gm,Mst code inp (runP code (inpF inp) fuel.toNat (startM mem)) go gm hp'/\ ∀y:Nm,y.d=0->y.i≠13->hp' y=s.hp y) Tryz.func234 (Go.Proofs.enters_of Tryz.func234 Zf rfl) S3 G.f16 Zd ?_ ?_)
 ·intro l r I' K' m us' w1' G' ha' hk hL hid
  obtain⟨c,hc,hw⟩:=w284 (code:=code) (inp:=inp) (s:=startM mem) hok hml hil hcl fuel hf (Nat.zero_le _) hcU G.bx G.b16 l
  exact iter_ok (E:=E0y l) (call:=lim P0 E00 X00) Tryz.func234 hc Y6 rfl rfl G' ha' Lj (E0y_law l) Wk (fun l' h=>by
   have e:l'=l:=by simpa using h
   subst e
   exact⟨hk,r,hL,hid⟩) hw
 ·rintro D I' m' hp' a' w' ⟨go',gm',M',hoth⟩ hD hnI hnK hE' S'
  have hrok:=runP_ok (n:=inp.size) (code:=code) (inp:=inpF inp) Zo hcU (Je inp) fuel.toNat hok
  have hw:=w155b M' hrok.rl hrok.ol G.f9 G.f8 ((hoth _ rfl Zd).trans h8) ((hoth _ rfl Zd).trans G.n19) hb
  refine W.wpIn Lj Lb Wk hw (by simp only[slotsIn,Bool.and_eq_true];exact⟨hs3,trivial⟩) S' ?_
  rintro e q a4 w4 ⟨rfl,hpf,hres⟩ S4
  exact⟨.inr rfl,D,I',m',hp',w',q,hpf,hD,hnK,hE',S4,hres⟩
end
end Go.Proofs.YtpmoibjpjlhcgaaGreatDoor.M
namespace Go.Proofs.YtpmoibjpjlhcgaaGreatDoor.K
section
open Go Go.RowKit Go.Shelf
attribute [local go_sem] Oper.semAt_some
def upto {α:Type}(f:Nat->α)(k:Nat):List α:=(List.range k).map f
theorem D5 {α:Type}(f:Nat->α)(k:Nat):upto f (k+1)=upto f k++[f k]:=by simp[upto,List.range_succ]
theorem B4 {α:Type}(f:Nat->α)(k:Nat):(upto f k).length=k:=by simp[upto]
def Bw (s:ByteArray)(i:Nat):Int:=(s.data.toList.getD i 0).toNat
def wordAt (s:ByteArray)(i:Nat):Int:=Bw s i+256*Bw s (i+1)+65536*Bw s (i+2)+16777216*Bw s (i+3)
theorem Jj {s:ByteArray}{i:Nat}(h:i<s.size):((s[i]'h).toNat:Int)=Bw s i:=by
 unfold Bw
 have hlt:i<s.data.size:=h
 rw[List.getD_eq_getElem?_getD,List.getElem?_eq_getElem (by simpa using hlt)]
 simp
 rfl
theorem Dz (s:ByteArray)(i:Nat):0<=Bw s i/\Bw s i<256:=by
 unfold Bw
 have:=(s.data.toList.getD i 0).toNat_lt
 omega
theorem Eg {x y:Nat}(i:Nat)(h:x<2^i):x|||y*2^i=x+y*2^i:=by
 rw[Nat.or_comm,<-Nat.shiftLeft_eq,<-Nat.shiftLeft_add_eq_or_of_lt h,Nat.shiftLeft_eq,Nat.add_comm]
theorem K4 {x y:Nat}(hx:x<4294967296)(hy:y<4294967296):bits .or .u32 (x:Int) (y:Int)=((x|||y:Nat):Int):=by
 have h:(BitVec.ofInt 32 (x:Int)|||BitVec.ofInt 32 (y:Int)).toNat=x|||y:=by
  rw[BitVec.toNat_or,BitVec.ofInt_natCast,BitVec.ofInt_natCast,BitVec.toNat_ofNat,BitVec.toNat_ofNat,Nat.mod_eq_of_lt hx,Nat.mod_eq_of_lt hy]
 show IntKind.u32.wrap ((BitVec.ofInt 32 (x:Int)|||BitVec.ofInt 32 (y:Int)).toNat:Int)=_
 rw[h,IntKind.wrap_u32]
 have:x|||y<2^32:=Nat.or_lt_two_pow (by omega) (by omega)
 omega
theorem word_or {a b c d:Nat}(ha:a<256)(hb:b<256)(hc:c<256)(hd:d<256):
  bits .or .u32 (bits .or .u32 (bits .or .u32 ((a:Int)%4294967296) ((b:Int)%4294967296*256%4294967296)) ((c:Int)%4294967296*65536%4294967296)) ((d:Int)%4294967296*16777216%4294967296)=a+256*b+65536*c+16777216*d:=by
 have e1:(a:Int)%4294967296=(a:Nat):=by omega
 have e2:(b:Int)%4294967296*256%4294967296=((b*2^8:Nat):Int):=by omega
 have e3:(c:Int)%4294967296*65536%4294967296=((c*2^16:Nat):Int):=by omega
 have e4:(d:Int)%4294967296*16777216%4294967296=((d*2^24:Nat):Int):=by omega
 rw[e1,e2,e3,e4,K4 (by omega) (by omega),Eg 8 (by omega),K4 (by omega) (by omega),Eg 16 (by omega),K4 (by omega) (by omega),Eg 24 (by omega)]
 omega
theorem Dda {s:ByteArray}{i:Nat}(h0:i<s.size)(h1:i+1<s.size)(h2:i+2<s.size)(h3:i+3<s.size):
  bits .or .u32 (bits .or .u32 (bits .or .u32 (((s[i]'h0).toNat:Int)%4294967296) (((s[i+1]'h1).toNat:Int)%4294967296*256%4294967296)) (((s[i+2]'h2).toNat:Int)%4294967296*65536%4294967296)) (((s[i+3]'h3).toNat:Int)%4294967296*16777216%4294967296)=wordAt s i:=by
 rw[word_or (s[i]'h0).toNat_lt (s[i+1]'h1).toNat_lt (s[i+2]'h2).toNat_lt (s[i+3]'h3).toNat_lt]
 unfold wordAt
 rw[<-Jj h0,<-Jj h1,<-Jj h2,<-Jj h3]
def KpB (b:Nat)(A B:World):Prop:=B.heap[b]?=A.heap[b]?
theorem KpB.cell {b i:Nat}{A B:World}(h:KpB b A B):B.cell? ⟨b,i,none⟩=A.cell? ⟨b,i,none⟩:=by
 simp only[World.cell?,show B.heap[b]?=A.heap[b]? from h]
theorem Vu (W:World)(k:Nat):W.grownBy (W.drewN k) none:=⟨rfl,rfl,rfl,Nat.le_refl _,fun _ _ _=>rfl⟩
theorem Sv (B:Nat)(W:World)(k:Nat):Below B W (W.drewN k):=⟨rfl,rfl,rfl,Nat.le_refl _,fun _ _=>rfl⟩
theorem Dca (F:Fence)(n:Nat)(h36:F.fn 129)(hro:F.round=none)(hn:1<=n)(l Bs:Nat)(s:ByteArray)(hs:s.size<=1048576)(J Jx:List Int->World->Prop)(f:Nat->Int)(hf: ∀k,f k=wordAt s (4*k))(hJ: ∀pre W k,J pre W->J pre (W.drewN k))
  (hY: ∀pre x W,J pre W->pre.length<s.size/4->YieldAt F (n - 1) Tryz.prog l #[.int .u32 x] W fun e W'=>
   (e= .returned (.bool true)/\J (pre++[x]) W'/\KpB Bs W W')\/(e= .returned (.bool false)/\Jx (pre++[x]) W'))
  (W:World) (hBs:W.cell? ⟨Bs,0,none⟩=some (.string s)) (h0:J [] W):
  CallsIn F n Tryz.prog 129 #[.func (.yield l) #[] #[],.pointer (some ⟨Bs,0,none⟩)] W fun e W'=>(∃v,e= .returned v)/\
   ((∃ys,ys=upto f (s.size/4)/\J ys W')\/(∃pre,(∃k,k<=s.size/4/\pre=upto f k)/\Jx pre W')):=by
 refine callsIn_of_wp Tryz.func129 rfl h36 ?_ hro
 simp only[Tryz.ntmps129,List.size_toArray,List.length_cons,List.length_nil,Nat.reduceAdd,Nat.reduceSub,Array.replicate_succ,Array.replicate_zero,List.push_toArray,List.append_toArray,List.nil_append,List.cons_append]
 gi_wp2
 gi_loopw [3] (fun i wr=> ∃k:Nat,k<=s.size/4/\i= .int .i64 (4*(k:Int))/\J (upto f k) wr/\KpB Bs W wr)
  (fun i _=>s.size - (intOf i).toNat)
 case atStart=>exact⟨0,Nat.zero_le _,rfl,h0,rfl⟩
 case round=>
  obtain⟨k,hk,rfl,hJs,hnx⟩:=hrel
  have hcx:wr.cell? ⟨Bs,0,none⟩=some (.string s):=(hnx.cell (i:=0)).trans hBs
  by_cases hlt:k<s.size/4
  ·have hlt4:4*k+4<=s.size:=by omega
   have p0:(0:Int)<=4*(k:Int):=by omega
   have p1:(0:Int)<=4*(k:Int)+1:=by omega
   have p2:(0:Int)<=4*(k:Int)+2:=by omega
   have p3:(0:Int)<=4*(k:Int)+3:=by omega
   have q0:4*(k:Int)<s.size:=by omega
   have q1:4*(k:Int)+1<s.size:=by omega
   have q2:4*(k:Int)+2<s.size:=by omega
   have q3:4*(k:Int)+3<s.size:=by omega
   gi_wp2
   refine wpIn_region_quiet_lit hro (by kernel_rfl) (by kernel_rfl) ?_
   repeat (gi_big_quiet_step (fail))
   refine wpQuietIn_nil ?_
   intro _ hw'
   obtain⟨nq,hw''⟩:=hw'
   subst hw''
   rw[Dda (by omega) (by omega) (by omega) (by omega),<-hf]
   clear hf
   have hJq:=hJ _ _ nq hJs
   have hnq:KpB Bs W (wr.drewN nq):=hnx
   generalize wr.drewN nq=Wq at hJq hnq⊢
   obtain⟨fn,tmps,assign,body,hy,hR⟩:=hY _ (f k) Wq hJq (by rw[B4];exact hlt)
   gi_wp2
   refine hR.mono ?_
   rintro e W3 (⟨rfl,hJ3,hk3⟩|⟨rfl,hJx3⟩)
   ·gi_wp2
    go_roundw
    case rel=>exact⟨k+1,by omega,by simp;omega,by rw[D5];exact hJ3,Eq.trans hk3 hnq⟩
    case measure=>simp[intOf];omega
   ·gi_wp2
    refine bodyPost_ret (results_none rfl _ _ _) rfl ?_
    exact⟨⟨_,rfl⟩,.inr ⟨_,⟨k+1,by omega,(D5 _ _).symm⟩,hJx3⟩⟩
  ·obtain rfl:k=s.size/4:=by omega
   have p4: ¬4*((s.size/4:Nat):Int)+4<=s.size:=by omega
   gi_wp2
   go_end0
   exact⟨⟨_,rfl⟩,.inl hJs⟩
end
section
open Go Go.RowKit Go.Shelf
attribute [local go_sem] Oper.semAt_some
def wordsOf (s:ByteArray):List Int:=upto (fun k=>wordAt s (4*k)) (s.size/4)
theorem Nk (s:ByteArray):(wordsOf s).length=s.size/4:=B4 _ _
theorem Dfa {α:Type}(f:Nat->α){k n:Nat}(h:k<=n):upto f k<+:upto f n:=by
 unfold upto
 rw[<-Nat.add_sub_of_le h,List.range_add,List.map_append]
 exact List.prefix_append _ _
theorem Nj (F:Fence)(n:Nat)(h30:F.fn 91)(hro:F.round=none)(s:ByteArray)(w:World):
  CallsIn F n Tryz.prog 91 #[.string s] w fun e w'=>e= .returned (.func (.func 129) #[] #[.pointer (some ⟨w.heap.size,0,none⟩)])/\w'=w.alloc (.cells #[.string s] 9):=by
 refine callsIn_of_wp Tryz.func91 rfl h30 ?_ hro
 simp only[Tryz.ntmps91,List.size_toArray,List.length_cons,List.length_nil,Nat.reduceAdd,Nat.reduceSub,Array.replicate_succ,Array.replicate_zero,List.push_toArray,List.append_toArray,List.nil_append,List.cons_append]
 gi_wp2
 go_ret
 exact⟨rfl,rfl⟩
theorem Kc (F:Fence)(n:Nat)(h36:F.fn 129)(hro:F.round=none)(hn:1<=n)(Bs:Nat)(s:ByteArray)(hs:s.size<=1048576)(w:World)(hBs:Bs<w.heap.size)(hc:w.cell? ⟨Bs,0,none⟩=some (.string s)):
  SeqStopsK F n Tryz.prog 129 #[.pointer (some ⟨Bs,0,none⟩)] (fun x:Int=> #[Value.int .u32 x]) (KpB Bs) (fun ys=>ys=wordsOf s) (fun pre=>pre<+:wordsOf s) (s.size/4) w:=fun l J Jx W hW hJ _ hY h0=>by
 refine(Dca F n h36 hro hn l Bs s hs J Jx (fun k=>wordAt s (4*k)) (fun _=>rfl) (fun pre W k h=>hJ pre W (W.drewN k) none h (Vu W k) (fun r e=>by cases e)) hY W ((hW.cell (p:=⟨Bs,0,none⟩) hBs).trans hc) h0).mono ?_
 rintro e W' ⟨he,⟨ys,rfl,hj⟩|⟨pre,⟨k,hk,rfl⟩,hj⟩⟩
 ·exact⟨he,.inl ⟨_,rfl,hj⟩⟩
 ·exact⟨he,.inr ⟨_,Dfa _ hk,hj⟩⟩
theorem Tf (F:Fence)(n:Nat)(h36:F.fn 129)(hro:F.round=none)(hn:1<=n)(Bs n₀:Nat)(s:ByteArray)(hs:s.size<=1048576)(w:World)(hBs:Bs<w.heap.size)(hB0:Bs<n₀)(hn₀:n₀<=w.heap.size)(hc:w.cell? ⟨Bs,0,none⟩=some (.string s)):
  SeqStopsK F n Tryz.prog 129 #[.pointer (some ⟨Bs,0,none⟩)] (fun x:Int=> #[Value.int .u32 x]) (Below n₀) (fun ys=>ys=wordsOf s) (fun pre=>pre<+:wordsOf s) (s.size/4) w:=fun l J Jx W hW hJ hJx hY h0=>
 Kc F n h36 hro hn Bs s hs w hBs hc l J Jx W hW hJ hJx (fun pre x W1 h1 h2=>by
  obtain⟨fn,tmps,assign,body,hy,hR⟩:=hY pre x W1 h1 h2
  refine⟨fn,tmps,assign,body,hy,hR.mono ?_⟩
  rintro e W' (⟨h3,h4,h5⟩|h3)
  ·exact .inl ⟨h3,h4,h5.block Bs hB0⟩
  ·exact .inr h3) h0
theorem info36 :(Tryz.prog.info? 23).map (fun i=>(i.zero,i.size,i.bytes))=some (some (.int .u32 0),1,4):=by kernel_rfl
abbrev wrdF (B:Nat):Value:= .func (.func 129) #[] #[.pointer (some ⟨B,0,none⟩)]
theorem Sw (F:Fence)(n:Nat)(h35:F.fn 128)(h36:F.fn 129)(hro:F.round=none)(hn:3<=n)(Bs:Nat)(s:ByteArray)(hs:s.size<=1048576)(w:World)(hBs:Bs<w.heap.size)(hc:w.cell? ⟨Bs,0,none⟩=some (.string s)):
  CallsIn F n Tryz.prog 128 #[.slice none 0 0,wrdF Bs] w fun e W'=> ∃v,e= .returned v/\W'.ownsRow w.heap.size 23 1 v (wordsOf s).length ((wordsOf s).map (Value.int .u32))/\Below w.heap.size w W':=by
 have h1:1<=n:=by omega
 have hwl:=Nk s
 obtain⟨i0,hi,hz0,hz1,hz2⟩:=info_parts info36
 refine callsIn_of_wp_marks Tryz.func128 rfl h35 ?_ hro
 simp only[Tryz.ntmps128,List.size_toArray,List.length_cons,List.length_nil,Nat.reduceAdd,Nat.reduceSub,Array.replicate_succ,Array.replicate_zero,List.push_toArray,List.append_toArray,List.nil_append,List.cons_append]
 gi_wp2
 have bO:=Boxed.new w 41 (.slice none 0 0)
 have hB0:Below w.heap.size w (w.alloc (.cells #[.slice none 0 0] 41)):=(Below.refl _ w).alloc (Nat.le_refl _) _
 refine wpIn_rangeFunc_ownG hro h1 (gf:=129) (lb:= #[.pointer (some ⟨Bs,0,none⟩)]) rfl h36 (enters_of Tryz.func129 (by kernel_rfl) rfl)
  (Tf F (n - 1) h36 hro (by omega) Bs w.heap.size s hs _ (by simp;omega) hBs (by simp) ((hB0.cell (p:=⟨Bs,0,none⟩) hBs).trans hc)) belowK_t (belowK_b (by simp)) (Below.refl _ _) (fun _=>rfl)
  (fun pre W=>(∃v,Boxed W w.heap.size 41 v/\W.ownsRow w.heap.size 23 1 v pre.length (pre.map (Value.int .u32))/\True)/\Below w.heap.size w W)
  (fun _ _ _=>False)
  (OwnFrom.and (Own.from (holdsRow_own w.heap.size w.heap.size 41 23 1 (fun pre:List Int=>pre.length) (fun pre:List Int=>pre.map (Value.int .u32)) (fun _ _=>True)) _) (ownFrom_below (Nat.le_refl _) (by simp<;>omega)))
  (fun _ _ _ _ _ hs _ _=>hs)
  ⟨⟨_,bO,World.ownsRow_nil _ _ _ _,trivial⟩,hB0⟩
  (fun x=>{tmps:= #[.slice none 0 0,wrdF Bs,.pointer (some ⟨w.heap.size,0,none⟩),undef,.slice none 0 0,.int .u32 x,wrdF Bs,.int .u32 x,undef,undef,undef,undef,undef],defers:=[]}) ?assign ?body ?done ?stop
 case assign=>
  intro l x W K hK
  gi_wp2
  exact hK
 case body=>
  rintro l pre x W ⟨⟨v,hv,hrow,_⟩,hB⟩ hlt
  have hc:=hv.cell
  have hmx:pre.length+1<=maxLen:=by unfold maxLen;omega
  gi_wp2_with (gi_at_builtin;refine wpListIn_append_own _ rfl _ _ 41 rfl w.heap.size 23 i0 (.int .u32 0) 1 4 Tryz.underlying41 hi hz0 hz1 hz2 rfl (by decide) _ _ _ rfl (hrow.alloc _) ⟨W.heap.size,0,none⟩ 1 1 [.int .u32 x] rfl rfl (cell_one_new _ _ _) (by simp[Value.oneCell']) (by omega) (by omega) (by have:=hB.size;simp;omega) ?_;intro v' w1 hown' hgrow _;obtain⟨g',cap',rfl⟩:=ownsRow_succ hown';obtain⟨hv1,hv2,hr2,hk2,hb2⟩:=hv.appended (by decide) hrow hB.size (Nat.le_refl _) hown' hgrow;have hc1:=hv1.cell;have hf1:=hv1.frozen)
  exact⟨hk2.from _,hb2,⟨_,hv2,by simpa using hr2,trivial⟩,hB.trans hb2⟩
 case done=>
  rintro D ys W hD rfl ⟨⟨v,hv,hrow,_⟩,hB⟩ hK
  have hc:=hv.cell
  gi_wp2
  refine⟨by simp,.inl ⟨_,_,rfl,run_takeDeferred hK,?_⟩⟩
  exact⟨_,results_tmp rfl _ _ _,v,rfl,ownsRow_putObj hrow _ hK rfl,hB.trans (belowK_b (w:=w) (Nat.le_refl _) W D _ _ (by simp at hD;omega) hK rfl rfl)⟩
 case stop=>
  rintro D c pre W _ _ h _
  exact h.elim
end
section
open Go Go.RowKit Go.Shelf
attribute [local go_sem] Oper.semAt_some
theorem X7 (F:Fence)(n:Nat)(h29:F.fn 90)(h35:F.fn 128)(h36:F.fn 129)(hro:F.round=none)(hn:4<=n)(Bs:Nat)(s:ByteArray)(hs:s.size<=1048576)(w:World)(hBs:Bs<w.heap.size)(hc:w.cell? ⟨Bs,0,none⟩=some (.string s)):
  CallsIn F n Tryz.prog 90 #[wrdF Bs] w fun e W'=> ∃v,e= .returned v/\W'.ownsRow w.heap.size 23 1 v (wordsOf s).length ((wordsOf s).map (Value.int .u32))/\Below w.heap.size w W':=by
 have h1:1<=n:=by omega
 refine callsIn_of_wp Tryz.func90 rfl h29 ?_ hro
 simp only[Tryz.ntmps90,List.size_toArray,List.length_cons,List.length_nil,Nat.reduceAdd,Nat.reduceSub,Array.replicate_succ,Array.replicate_zero,List.push_toArray,List.append_toArray,List.nil_append,List.cons_append]
 gi_wp2_with (gi_at_call 128;refine(Sw F (n - 1) h35 h36 hro (by omega) Bs s hs _ hBs hc).mono ?_;rintro e w' ⟨v,rfl,hown,hB⟩)
 go_ret
 exact⟨_,rfl,hown,hB⟩
def badR :Value:= .tuple #[.agg #[.slice none 0 0,.int .i64 0],.int .i64 7]
def isImg (s:ByteArray):Prop:=12<=s.size/\s.extract 0 4=⟨#[83,69,69,68]⟩/\s.size<=65548/\wordAt s 8<=32768/\(s.size:Int)=12+4*wordAt s 4
theorem Ob {w:World}{base n:Nat}{v:Value}{xs:List Value}(h:w.ownsRow base 23 1 v n xs)(hn:0<n): ∃g cap,v= .slice (some ⟨g,0,none⟩) n cap/\base<=g/\g<w.heap.size/\n<=cap/\ ∀i,i<n->w.cell? ⟨g,i,none⟩=xs[i]?:=by
 obtain⟨hl,⟨rfl,h0⟩|⟨g,cap,cur,rfl,hb,hg,hc,hm,hs,ht⟩⟩:=h
 ·omega
 ·refine⟨g,cap,rfl,hb,(Array.getElem?_eq_some_iff.1 hg).1,hc,fun i hi=>?_⟩
  rw[<-ht,List.getElem?_take_of_lt (by omega)]
  simp[World.cell?,hg]
theorem Bg {w:World}{b i:Nat}{cs:Array Value}{t:TypeId}{v:Value}(h:w.heap[b]?=some (.cells cs t))(hi:cs[i]?=some v):w.cell? ⟨b,i,none⟩=some v:=by
 simp[World.cell?,h,hi]
theorem A5 {w:World}{b:Nat}{cs:Array Value}{t:TypeId}(h:w.heap[b]?=some (.cells cs t))(i:Nat):w.frozen? ⟨b,i,none⟩=false:=by
 simp[World.frozen?,h]
theorem Ql (W:World)(b i:Nat)(v:Value):W.grownBy (W.setCell ⟨b,i,none⟩ v) (some b):=
 ⟨rfl,rfl,rfl,(KeepsWalks.setCell W _ v).size,fun k _ hk=>Below.heap_setCell _ _ _ k (fun e=>hk (by rw[e]))⟩
theorem Kea {W:World}{b b' n:Nat}{v:Value}{xs:List Value}(h:W.ownsRow b 23 1 v n xs)(hb:b'<=b):W.ownsRow b' 23 1 v n xs:=
 ⟨h.1,h.2.imp id fun⟨g,cap,cur,h1,h2,h3⟩=>⟨g,cap,cur,h1,by omega,h3⟩⟩
theorem Kv {W:World}{b i:Nat}{cs:Array Value}{t:TypeId}{fz:Nat×Nat}(h:W.heap[b]?=some (.cells cs t fz))(v:Value):(W.setCell ⟨b,i,none⟩ v).heap[b]?=some (.cells (cs.setIfInBounds i v) t fz):=by
 simp[World.setCell,Array.getElem?_modify,h]
theorem wordAt_range (s:ByteArray)(i:Nat):0<=wordAt s i/\wordAt s i<4294967296:=by
 have h0:=Dz s i
 have h1:=Dz s (i+1)
 have h2:=Dz s (i+2)
 have h3:=Dz s (i+3)
 unfold wordAt
 omega
theorem Tg (s:ByteArray)(h:12<=s.size):wordsOf (s.extract 4 12)=[wordAt s 4,wordAt s 8]:=by
 have hsz:(s.extract 4 12).size=8:=by rw[ByteArray.size_extract];omega
 unfold wordsOf upto
 rw[hsz]
 have hb: ∀i,i<8->Bw (s.extract 4 12) i=Bw s (4+i):=fun i hi=>by
  unfold Bw
  rw[ByteArray.data_extract]
  congr 2
  have hl:i<(List.take 8 (List.drop 4 s.data.toList)).length:=by
   have:s.data.size=s.size:=rfl
   simp;omega
  simp[List.getD_eq_getElem?_getD,List.getElem?_take_of_lt hi]
 simp[List.range_succ,wordAt,hb]
theorem info28 :(Tryz.prog.info? 58).map (·.size)=some 2:=by kernel_rfl
theorem results22 {tmps:Array Value}{w:World}{g:Nat}{cs:Array Value}{fr:Nat×Nat}{e:Value}(h2:tmps.getD 2 undef= .pointer (some ⟨g,0,none⟩))(hg:w.heap[g]?=some (.cells cs 58 fr))(hs:cs.size=2)(h3:tmps.getD 3 undef=e):
  (results Tryz.f56 tmps).run Tryz.prog w= .ok (.tuple #[.agg cs,e]) w:=by
 rw[results_cell_tmp (p:=2) (u:=3) (ty:=58) rfl,h2,h3]
 simp[asAddr,run_loadVar_row w g 58 58 cs fr _ hg Tryz.underlying58 rfl (by rw[info28,hs]),Result.andThen]
theorem read_in (F:Fence)(n:Nat)(h22:F.fn 56)(h29:F.fn 90)(h30:F.fn 91)(h35:F.fn 128)(h36:F.fn 129)(hro:F.round=none)(hn:6<=n)(s:ByteArray)(hs:s.size<=1048576)(w:World):
  CallsIn F n Tryz.prog 56 #[.string s] w fun e W'=>(¬isImg s/\e= .returned badR/\Below w.heap.size w W')\/
   (isImg s/\ ∃v,e= .returned (.tuple #[.agg #[v,.int .i64 (wordAt s 8)],.int .i64 0])/\W'.ownsRow w.heap.size 23 1 v (wordsOf (s.extract 12 s.size)).length ((wordsOf (s.extract 12 s.size)).map (Value.int .u32))/\Below w.heap.size w W'):=by
 have h1:1<=n:=by omega
 obtain⟨i0,hi,hz0,hz1,hz2⟩:=info_parts info36
 refine callsIn_of_wp_marks Tryz.func56 rfl h22 ?_ hro
 simp only[Tryz.ntmps56,List.size_toArray,List.length_cons,List.length_nil,Nat.reduceAdd,Nat.reduceSub,Array.replicate_succ,Array.replicate_zero,List.push_toArray,List.append_toArray,List.nil_append,List.cons_append]
 have hB1:Below w.heap.size w (w.alloc (.cells #[.slice none 0 0,.int .i64 0] 58)):=(Below.refl _ w).alloc (Nat.le_refl _) _
 have hB2:Below w.heap.size w ((w.alloc (.cells #[.slice none 0 0,.int .i64 0] 58)).alloc (.cells #[.string (s.extract 4 12)] 9)):=hB1.alloc (by simp) _
 have hcs:=Boxed.new (w.alloc (.cells #[.slice none 0 0,.int .i64 0] 58)) 9 (.string (s.extract 4 12))
 rw[World.size_alloc] at hcs
 have hx4:(s.extract 4 12).size<=1048576:=by rw[ByteArray.size_extract];omega
 by_cases c0:s.size<12
 ·have d0:(s.size:Int)<12:=by omega
  gi_wp2
  exact⟨_,results22 rfl (World.alloc_heap_new w _) rfl rfl,.inl ⟨fun h=>by have:=h.1;omega,rfl,hB1⟩⟩
 ·have d0: ¬(s.size:Int)<12:=by omega
  by_cases c1:s.extract 0 4=⟨#[83,69,69,68]⟩
  ·have hm:(s.extract 0 4).toList=[83,69,69,68]:=by rw[c1,ByteArray.toList_eq]
   by_cases c2:65548<s.size
   ·have d2:(65548:Int)<s.size:=by omega
    gi_wp2
    exact⟨_,results22 rfl (World.alloc_heap_new w _) rfl rfl,.inl ⟨fun h=>by have:=h.2.2.1;omega,rfl,hB1⟩⟩
   ·have d2: ¬(65548:Int)<s.size:=by omega
    have hcol:=fun w0 (h:w.heap.size+1<w0.heap.size) hc=>X7 F (n - 1) h29 h35 h36 hro (by omega) (w.heap.size+1) (s.extract 4 12) hx4 w0 h hc
    rw[Tg s (by omega)] at hcol
    have x4:=wordAt_range s 4
    have x8:=wordAt_range s 8
    have u4:IntKind.u64.wrap (wordAt s 4)=wordAt s 4:=by rw[IntKind.wrap_u64];omega
    have u44:IntKind.u64.wrap (4*wordAt s 4)=4*wordAt s 4:=by rw[IntKind.wrap_u64];omega
    have u12:IntKind.u64.wrap (12+4*wordAt s 4)=12+4*wordAt s 4:=by rw[IntKind.wrap_u64];omega
    have hres0:((w.alloc (.cells #[.slice none 0 0,.int .i64 0] 58)).alloc (.cells #[.string (s.extract 4 12)] 9)).heap[w.heap.size]?=some (.cells #[.slice none 0 0,.int .i64 0] 58):=(Below.heap_alloc _ _ _ (by simp)).trans (World.alloc_heap_new w _)
    have bad: ∀w2:World,Below (w.heap.size+1+1) ((w.alloc (.cells #[.slice none 0 0,.int .i64 0] 58)).alloc (.cells #[.string (s.extract 4 12)] 9)) w2->w2.heap[w.heap.size]?=some (.cells #[.slice none 0 0,.int .i64 0] 58)->
      ((w2.setCell ⟨w.heap.size,0,none⟩ (.slice none 0 0)).setCell ⟨w.heap.size,1,none⟩ (.int .i64 0)).heap[w.heap.size]?=some (.cells #[.slice none 0 0,.int .i64 0] 58)/\Below w.heap.size w ((w2.setCell ⟨w.heap.size,0,none⟩ (.slice none 0 0)).setCell ⟨w.heap.size,1,none⟩ (.int .i64 0)):=fun w2 h1 h2=>
     ⟨Kv (Kv h2 _) _,((hB2.trans (h1.mono (by omega))).setCell (p:=⟨w.heap.size,0,none⟩) (Nat.le_refl _) _).setCell (p:=⟨w.heap.size,1,none⟩) (Nat.le_refl _) _⟩
    by_cases c3:32768<wordAt s 8
    ·gi_wp2_with (first|(gi_at_call 91;refine(Nj F (n - 1) h30 hro _ _).mono ?_;rintro e w' ⟨rfl,rfl⟩)|(gi_at_call 90;refine(hcol _ (by simp) hcs.cell).mono ?_;rintro e w2 ⟨v2,rfl,hown2,hC2⟩;obtain⟨g2,cap2,rfl,hg2,hg2',hcap2,hcell2⟩:=Ob hown2 (by simp);have hk0:=hcell2 0 (by simp);have hk1:=hcell2 1 (by simp);simp at hk0 hk1;have hrb:=(hC2.block w.heap.size (by simp;omega)).trans hres0;have hr0:=Bg hrb (i:=0) rfl;have hr1:=Bg hrb (i:=1) rfl;have hf0:=A5 hrb 0;have hf1:=A5 hrb 1))
     obtain⟨z1,z2⟩:=bad w2 (by simpa using hC2) hrb
     exact⟨_,results22 rfl z1 rfl rfl,.inl ⟨fun h=>by have:=h.2.2.2.1;omega,rfl,z2⟩⟩
    ·by_cases c4:(s.size:Int)=12+4*wordAt s 4
     ·have c5:((s.size:Int)!=12+4*wordAt s 4)=false:=by simp[c4]
      have hmx:(wordAt s 4).toNat<=maxLen:=by unfold maxLen;omega
      have hNe:wordAt s 4=((wordAt s 4).toNat:Int):=by omega
      have HC4:=Lib.hid c4
      have HN:=Lib.hid hNe
      clear c4 hNe
      gi_wp2_with (first|(gi_at_call 91;refine(Nj F (n - 1) h30 hro _ _).mono ?_;rintro e w' ⟨rfl,rfl⟩)|(gi_at_call 90;refine(hcol _ (by simp) hcs.cell).mono ?_;rintro e w2 ⟨v2,rfl,hown2,hC2⟩;obtain⟨g2,cap2,rfl,hg2,hg2',hcap2,hcell2⟩:=Ob hown2 (by simp);have hk0:=hcell2 0 (by simp);have hk1:=hcell2 1 (by simp);simp at hk0 hk1;have hrb:=(hC2.block w.heap.size (by simp;omega)).trans hres0;have hr0:=Bg hrb (i:=0) rfl;have hr1:=Bg hrb (i:=1) rfl;have hf0:=A5 hrb 0;have hf1:=A5 hrb 1)|(gi_at_make;refine wpListIn_make_own _ rfl _ _ 41 rfl w2.heap.size 23 i0 (.int .u32 0) 1 Tryz.underlying41 hi hz0 hz1 .i64 .u32 (wordAt s 4) (wordAt s 4).toNat rfl rfl HN.out (by rw[hz2];omega) hmx (Nat.le_refl _) ?_;intro w3 hown3 hgrow3))
      have hx12:(s.extract 12 s.size).size<=1048576:=by rw[ByteArray.size_extract];omega
      have h23:w2.heap.size<=w3.heap.size:=hgrow3.size
      have bC:=Boxed.new w3 41 (.slice (some ⟨w2.heap.size,0,none⟩) 0 (wordAt s 4).toNat)
      have bS:=Boxed.new (w3.alloc (.cells #[.slice (some ⟨w2.heap.size,0,none⟩) 0 (wordAt s 4).toNat] 41)) 9 (.string (s.extract 12 s.size))
      rw[World.size_alloc] at bS
      have hC3:Below w2.heap.size w2 ((w3.alloc (.cells #[.slice (some ⟨w2.heap.size,0,none⟩) 0 (wordAt s 4).toNat] 41)).alloc (.cells #[.string (s.extract 12 s.size)] 9)):=(((Below.refl w2.heap.size w2).grown hgrow3 (Nat.le_refl _) (fun k e=>by cases e)).alloc h23 _).alloc (by simp;omega) _
      refine wpIn_rangeFunc_ownG hro h1 (gf:=129) (lb:= #[.pointer (some ⟨w3.heap.size+1,0,none⟩)]) rfl h36 (enters_of Tryz.func129 (by kernel_rfl) rfl)
       (Kc F (n - 1) h36 hro (by omega) (w3.heap.size+1) (s.extract 12 s.size) hx12 _ (by simp) bS.cell) (fun h h'=>Eq.trans h' h) ?kb (Below.refl _ _) (fun _=>rfl)
       (fun pre W=>(∃v,Boxed W w3.heap.size 41 v/\W.ownsRow w2.heap.size 23 1 v pre.length (pre.map (Value.int .u32))/\True)/\Boxed W (w3.heap.size+1) 9 (.string (s.extract 12 s.size))/\Below w2.heap.size w2 W)
       (fun _ _ _=>False)
       (OwnFrom.and (Own.from (holdsRow_own w2.heap.size w3.heap.size 41 23 1 (fun pre:List Int=>pre.length) (fun pre:List Int=>pre.map (Value.int .u32)) (fun _ _=>True)) _) (OwnFrom.and (Own.from (boxed_own _ _ _) _) (ownFrom_below (Nat.le_refl _) (by simp;omega))))
       (fun _ _ _ _ _ hs _ _=>hs)
       ⟨⟨_,bC.alloc _,(hown3.alloc _).alloc _,trivial⟩,bS,hC3⟩
       ?a1 ?assign ?body ?done ?stop
      case kb=>
       intro W l o o' hl hlo _ _
       have hlt:=(Array.getElem?_eq_some_iff.1 hlo).1
       simp at hl
       exact(grownBy_putObj' W l o').block _ (by omega) (fun e=>by cases e;omega)
      case assign=>
       intro l x W K hK
       gi_wp2
       exact hK
      case body=>
       rintro l pre x W ⟨⟨v,hv,hrow,_⟩,hbs,hB⟩ hlt
       have hc:=hv.cell
       rw[ByteArray.size_extract] at hlt
       have hmx2:pre.length+1<=maxLen:=by unfold maxLen;omega
       gi_wp2_with (gi_at_builtin;refine wpListIn_append_own _ rfl _ _ 41 rfl w2.heap.size 23 i0 (.int .u32 0) 1 4 Tryz.underlying41 hi hz0 hz1 hz2 rfl (by decide) _ _ _ rfl (hrow.alloc _) ⟨W.heap.size,0,none⟩ 1 1 [.int .u32 x] rfl rfl (cell_one_new _ _ _) (by simp[Value.oneCell']) (by omega) (by omega) (by have:=hB.size;simp;omega) ?_;intro v' w1 hown' hgrow _;obtain⟨g',cap',rfl⟩:=ownsRow_succ hown';have hbs1:=((hbs.alloc _).kept hgrow (hbs.not_row (by decide) hrow)).other (B':=w3.heap.size) (by omega) (.slice (some ⟨g',0,none⟩) (pre.length+1) cap');obtain⟨hv1,hv2,hr2,hk2,hb2⟩:=hv.appended (by decide) hrow hB.size h23 hown' hgrow;have hc1:=hv1.cell;have hf1:=hv1.frozen)
       exact⟨hk2.from _,hbs1.trans hbs.symm,⟨_,hv2,by simpa using hr2,trivial⟩,hbs1,hB.trans hb2⟩
      case stop=>
       rintro D c pre W _ _ h _
       exact h.elim
      case done=>
       rintro D ys W hD rfl ⟨⟨v,hv,hrow,_⟩,hbs,hB⟩ hK
       have hrb3:=(hB.block w.heap.size (by have:=hC2.size;simp at this;omega)).trans hrb
       have er0:=Bg hrb3 (i:=0) rfl
       have er1:=Bg hrb3 (i:=1) rfl
       have ef0:=A5 hrb3 0
       have ef1:=A5 hrb3 1
       have ek1:=(hB.cell (p:=⟨g2,1,none⟩) hg2').trans hk1
       have i8:IntKind.i64.wrap (wordAt s 8)=wordAt s 8:=by rw[IntKind.wrap_i64];omega
       obtain⟨A,len,cap,rfl⟩: ∃A len cap,v= .slice A len cap:=by
        rcases hrow.2 with⟨rfl,_⟩|⟨g,cap,cur,rfl,_⟩
        ·exact⟨_,_,_,rfl⟩
        ·exact⟨_,_,_,rfl⟩
       have hc:=hv.cell
       gi_wp2
       have hw2:w.heap.size<w2.heap.size:=by have:=hC2.size;simp at this;omega
       have X1:=Kv (i:=1) (Kv (i:=0) hrb3 (.slice A len cap)) (.int .i64 (wordAt s 8))
       have X2:((W.setCell ⟨w.heap.size,0,none⟩ (.slice A len cap)).setCell ⟨w.heap.size,1,none⟩ (.int .i64 (wordAt s 8))).heap[D]?=some (.deferred (some [])):=(KeepsOthers.setCell _ _ _).same D _ ((KeepsOthers.setCell _ _ _).same D _ hK rfl) rfl
       have hno: ∀k,(Value.slice A len cap).ownBlock=some k->k≠w.heap.size:=fun k e=>by have:=(hrow.lt k e).1;omega
       have X3:=Kea ((hrow.kept (Ql W w.heap.size 0 (.slice A len cap)) (.inr fun e=>hno _ e rfl)).kept (Ql _ w.heap.size 1 (.int .i64 (wordAt s 8))) (.inr fun e=>hno _ e rfl)) (Nat.le_of_lt hw2)
       have X4:Below w.heap.size w ((W.setCell ⟨w.heap.size,0,none⟩ (.slice A len cap)).setCell ⟨w.heap.size,1,none⟩ (.int .i64 (wordAt s 8))):=(((hB2.trans (hC2.mono (by simp;omega))).trans (hB.mono (Nat.le_of_lt hw2))).setCell (p:=⟨w.heap.size,0,none⟩) (Nat.le_refl _) _).setCell (p:=⟨w.heap.size,1,none⟩) (Nat.le_refl _) _
       have hDw:D≠w.heap.size:=by simp at hD;omega
       have him:isImg s:=⟨by omega,c1,by omega,by omega,HC4.out⟩
       generalize hX:(W.setCell ⟨w.heap.size,0,none⟩ (.slice A len cap)).setCell ⟨w.heap.size,1,none⟩ (.int .i64 (wordAt s 8))=X at X1 X2 X3 X4
       have fin: ∀tmps:Array Value,tmps.getD 2 undef= .pointer (some ⟨w.heap.size,0,none⟩)->tmps.getD 3 undef= .int .i64 0->LeavesInM F n Tryz.prog Tryz.f56 tmps (fun e W'=>(¬isImg s/\e= .returned badR/\Below w.heap.size w W')\/
         (isImg s/\ ∃v,e= .returned (.tuple #[.agg #[v,.int .i64 (wordAt s 8)],.int .i64 0])/\W'.ownsRow w.heap.size 23 1 v (wordsOf (s.extract 12 s.size)).length ((wordsOf (s.extract 12 s.size)).map (Value.int .u32))/\Below w.heap.size w W')) [{target:= .collected D,args:= #[]}] .returning X.drew:=fun tmps h2 h3=>by
        refine⟨by simp,.inl ⟨_,_,rfl,run_takeDeferred (show X.drew.heap[D]?=_ from X2),?_⟩⟩
        refine⟨_,results22 (g:=w.heap.size) (cs:= #[.slice A len cap,.int .i64 (wordAt s 8)]) (fr:=(0,0)) h2 ?_ rfl h3,.inr ⟨him,_,rfl,?_,?_⟩⟩
        ·exact((grownBy_putObj' X.drew D (.deferred none)).block w.heap.size (Array.getElem?_eq_some_iff.1 X1).1 (fun e=>hDw (by cases e;rfl))).trans X1
        ·exact ownsRow_putObj (show X.drew.ownsRow _ _ _ _ _ _ from X3) _ (show X.drew.heap[D]?=_ from X2) rfl
        ·exact(X4.trans (Sv _ X 1)).trans (belowK_b (w:=w) (Nat.le_refl _) X.drew D _ _ (by simp at hD;omega) (show X.drew.heap[D]?=_ from X2) rfl rfl)
       gi_region
       all_goals (try rw[hX])
       all_goals gi_wp2
       all_goals exact fin _ rfl rfl
     ·have c5:((s.size:Int)!=12+4*wordAt s 4)=true:=by simp[c4]
      gi_wp2_with (first|(gi_at_call 91;refine(Nj F (n - 1) h30 hro _ _).mono ?_;rintro e w' ⟨rfl,rfl⟩)|(gi_at_call 90;refine(hcol _ (by simp) hcs.cell).mono ?_;rintro e w2 ⟨v2,rfl,hown2,hC2⟩;obtain⟨g2,cap2,rfl,hg2,hg2',hcap2,hcell2⟩:=Ob hown2 (by simp);have hk0:=hcell2 0 (by simp);have hk1:=hcell2 1 (by simp);simp at hk0 hk1;have hrb:=(hC2.block w.heap.size (by simp;omega)).trans hres0;have hr0:=Bg hrb (i:=0) rfl;have hr1:=Bg hrb (i:=1) rfl;have hf0:=A5 hrb 0;have hf1:=A5 hrb 1))
      obtain⟨z1,z2⟩:=bad w2 (by simpa using hC2) hrb
      exact⟨_,results22 rfl z1 rfl rfl,.inl ⟨fun h=>c4 h.2.2.2.2,rfl,z2⟩⟩
  ·have hm: ¬(s.extract 0 4).toList=[83,69,69,68]:=fun h=>c1 (by
    apply ByteArray.ext;apply Array.ext'
    rw[<-ByteArray.toList_eq,h])
   gi_wp2
   exact⟨_,results22 rfl (World.alloc_heap_new w _) rfl rfl,.inl ⟨fun h=>c1 h.2.1,rfl,hB1⟩⟩
end
section
open Go Go.Ab Go.RowKit
abbrev rowW (l:List Int):List (List AV):=l.map fun x=>[uv x]
def imgB (s:ByteArray):Bool:=decide (12<=s.size)&&decide (s.extract 0 4=⟨#[83,69,69,68]⟩)&&decide (s.size<=65548)&&decide (wordAt s 8<=32768)&&decide ((s.size:Int)=12+4*wordAt s 4)
theorem imgB_iff (s:ByteArray):imgB s=true↔isImg s:=by
 unfold imgB isImg
 simp only[Bool.and_eq_true,decide_eq_true_eq]
 exact⟨fun⟨⟨⟨⟨a,b⟩,c⟩,d⟩,e⟩=>⟨a,b,c,d,e⟩,fun⟨a,b,c,d,e⟩=>⟨⟨⟨⟨a,b⟩,c⟩,d⟩,e⟩⟩
def codeOf (s:ByteArray):List Int:=wordsOf (s.extract 12 s.size)
def readR (s:ByteArray):List AV:=if imgB s then[.agg [.vec 1 (rowW (codeOf s)),iv (wordAt s 8)],iv 0] else[.agg [.vec 1 [],iv 0],iv 7]
def readO :List AV->Option (List AV)
 |[.sc (.string s)]=>if s.size<=1048576 then some (readR s) else none
 |_=>none
def X47 :Orc:=⟨fun f args=>if f=56 then readO args else none,fun _ _ _ _ _=>none⟩
theorem N5 (I:Nat->Prop)(w:World): ∀l:List Int,RepRows I w 1 (rowW l) (l.map (Value.int .u32))
 |[]=>by simp[RepRows]
 |x::l=>by
  simp only[List.map_cons,RepRows]
  exact⟨[.int .u32 x],l.map (Value.int .u32),rfl,rfl,by simp[RepDL,RepD,Value.oneCell'],N5 I w l⟩
theorem X47_ok :A4 P0 X47:=by
 refine⟨fun f args rs h hok I w us hI hgl ha=>?_,fun k d f args hp v hp' h=>by simp[X47] at h⟩
 simp only[X47] at h
 split at h
 ·rename_i hf
  subst hf
  unfold readO at h
  split at h
  ·rename_i s
   split at h
   ·rename_i hs
    cases h
    obtain⟨u,rfl⟩: ∃u,us=[u]:=by
     have:=ha.1
     match us,this with
     |[u],_=>exact⟨u,rfl⟩
    have h0:=ha.2 0 _ _ rfl rfl
    obtain rfl:u= .string s:=by simpa[RepA,RepD] using h0.1
    refine(callsIn_wide.1 (read_in Fence.wide 6 trivial trivial trivial trivial trivial rfl (Nat.le_refl _) s hs w)).mono fun e W' hh=>?_
    have key: ∀u,Below w.heap.size w W'->(∃us bs,u=retV us/\(∀b∈bs,w.heap.size<=b/\ ¬I b)/\bs.Nodup/\RepResL P0 I W' (rtys P0 56) (readR s) us bs)->CallPost P0 I w (rtys P0 56) (readR s) u W':=fun u hB ⟨us,bs,h1,h2,h3,h4⟩=>
     ⟨fun b hb=>hB.block b hb,hB.size,hB.os,hB.tape,hB.output,I,us,bs,h1,fun _ h=>h,fun _ h=> .inl h,fun b hb=>Nat.lt_of_lt_of_le (hI b hb) hB.size,h2,h3,h4⟩
    rcases hh with⟨h1,rfl,hB⟩|⟨h1,v,rfl,hown,hB⟩
    ·have hb:imgB s=false:=by rw[Bool.eq_false_iff];exact fun h=>h1 ((imgB_iff s).1 h)
     refine⟨_,rfl,key _ hB ⟨[.agg #[.slice none 0 0,.int .i64 0],.int .i64 7],[],rfl,Zi,List.nodup_nil,?_⟩⟩
     unfold readR
     rw[hb,if_neg Zi,B6a]
     simp only[RepResL,RepRes,Qi,Qj,if_true,Bool.false_eq_true,if_false]
     refine⟨_,_,[],[],rfl,rfl,⟨_,_,rfl,rfl,?_⟩,_,_,[],[],rfl,rfl,⟨rfl,by simp[RepD,Value.oneCell']⟩,rfl,rfl⟩
     simp only[tcs_58,RepHL]
     exact⟨_,_,[],[],rfl,rfl,.inl ⟨rfl,rfl,rfl⟩,_,_,[],[],rfl,rfl,⟨rfl,by simp[RepD,Value.oneCell']⟩,rfl,rfl⟩
    ·have hb:imgB s=true:=(imgB_iff s).2 h1
     have hv: ∃bs,(∀b∈bs,w.heap.size<=b/\ ¬I b)/\bs.Nodup/\RepH P0 I (fun _=>False) W' 41 (.vec 1 (rowW (codeOf s))) v bs:=by
      obtain⟨hl,⟨rfl,h0⟩|⟨g,cap,cur,rfl,hb,hg,hc,hm,hs,ht⟩⟩:=hown
      ·refine⟨[],Zi,List.nodup_nil,.inl ⟨?_,rfl,rfl⟩⟩
       have:codeOf s=[]:=List.eq_nil_of_length_eq_zero h0
       rw[this];rfl
      ·refine⟨[g],fun b hbb=>?_,Zi,.inr ⟨g,cap,cur,(0,0),23,rfl,?_,Zi,hg,fun j _=>Zi,by simpa using hs,?_,hm,?_,fun hi=>by have:=hI g hi;omega,fun h=>h⟩⟩
       ·rw[List.mem_singleton] at hbb;subst hbb
        exact⟨hb,fun hi=>by have:=hI _ hi;omega⟩
       ·simp[codeOf]
       ·simpa[codeOf] using hc
       ·have e:(rowW (codeOf s)).length*1=(wordsOf (s.extract 12 s.size)).length*1:=by simp[codeOf]
        rw[e,ht]
        exact N5 I W' _
     obtain⟨bs,b1,b2,b3⟩:=hv
     refine⟨_,rfl,key _ hB ⟨[.agg #[v,.int .i64 (wordAt s 8)],.int .i64 0],bs,rfl,b1,b2,?_⟩⟩
     unfold readR
     rw[hb,if_pos rfl,B6a]
     simp only[RepResL,RepRes,Qi,Qj,if_true,Bool.false_eq_true,if_false]
     refine⟨_,_,bs,[],rfl,Zi,⟨_,_,rfl,rfl,?_⟩,_,_,[],[],rfl,rfl,⟨rfl,by simp[RepD,Value.oneCell']⟩,rfl,rfl⟩
     simp only[tcs_58,RepHL]
     exact⟨_,_,bs,[],rfl,Zi,b3,_,_,[],[],rfl,rfl,⟨rfl,by simp[RepD,Value.oneCell']⟩,rfl,rfl⟩
   ·cases h
  ·cases h
 ·cases h
end
end Go.Proofs.YtpmoibjpjlhcgaaGreatDoor.K
namespace Go.Proofs.YtpmoibjpjlhcgaaGreatDoor
section
open Go Go.Ab
@[simp] theorem okFn_5 :okFn P0 5=true:=Zf
@[simp] theorem R7 :rtys P0 5=[4]:=Zf
@[simp] theorem O5 :Ac Tryz.f5=true:=Zf
@[simp] theorem rtys_15 :rtys P0 15=[29]:=Zf
@[simp] theorem Gqa :Ac Tryz.f15=true:=Zf
@[simp] theorem rtys_16 :rtys P0 16=[30,3]:=Zf
@[simp] theorem Gpa :Ac Tryz.f16=true:=Zf
@[simp] theorem rtys_39 :rtys P0 39=[9,4]:=Zf
@[simp] theorem Gea :Ac Tryz.f39=true:=Zf
@[simp] theorem rtys_40 :rtys P0 40=[3]:=Zf
@[simp] theorem Gda :Ac Tryz.f40=true:=Zf
@[simp] theorem rtys_63 :rtys P0 63=[9,4]:=Zf
@[simp] theorem F2a :Ac Tryz.f63=true:=Zf
@[simp] theorem rtys_44 :rtys P0 44=[88,30]:=Zf
@[simp] theorem Gba :Ac Tryz.f44=true:=Zf
@[simp] theorem rtys_70 :rtys P0 70=[88]:=Zf
@[simp] theorem F1a :Ac Tryz.f70=true:=Zf
@[simp] theorem J1a :rtys P0 106=[186]:=Zf
@[simp] theorem jF13_0 :okFn P0 15=true/\ptys P0 15=[9,9]/\Ai P0 15=false/\okFn P0 16=true/\ptys P0 16=[9,9,29,3]/\Ai P0 16=true/\okFn P0 39=true/\ptys P0 39=[9,29,3]/\Ai P0 39=true/\okFn P0 40=true/\ptys P0 40=[9,9]/\Ai P0 40=true/\okFn P0 63=true/\ptys P0 63=[9,9,3]/\Ai P0 63=true/\okFn P0 44=true/\ptys P0 44=[9,9,3]/\Ai P0 44=true/\okFn P0 70=true/\ptys P0 70=[58,9,3]/\Ai P0 70=true/\okFn P0 106=true/\ptys P0 106=[58]/\Ai P0 106=false:=Zh
@[simp] theorem Bpa :Ac Tryz.f106=true:=Zf
@[simp] theorem jF13_1 :okFn P0 14=true/\ptys P0 14=[]/\rtys P0 14=[4]/\Ai P0 14=true/\okFn P0 38=true/\ptys P0 38=[9]/\rtys P0 38=[9]/\Ai P0 38=true:=Zh
end
end Go.Proofs.YtpmoibjpjlhcgaaGreatDoor
namespace Go.Proofs.YtpmoibjpjlhcgaaGreatDoor.M
section
open Go Go.Ab Go.RowKit
def unW :List (List AV)->Option (List Int)
 |[]=>some []
 |[.sc (.int .u32 x)]::r=>(unW r).map (x:: ·)
 |_=>none
theorem Rt : ∀l:List Int,unW (rowW l)=some l
 |[]=>rfl
 |x::l=>by show(unW (rowW l)).map (x:: ·)=_;rw[Rt l];rfl
theorem R9 : ∀{rows:List (List AV)} {l:List Int},unW rows=some l->rows=rowW l
 |[],l,h=>by cases h;rfl
 |r::rows,l,h=>by
  unfold unW at h
  split at h
  ·rename_i heq;cases heq
  ·rename_i x r' heq
   cases heq
   cases hr:unW rows with
   |none=>rw[hr] at h;cases h
   |some l'=>
    rw[hr] at h
    cases h
    rw[R9 hr]
    rfl
  ·cases h
def isI (n:Int):AV->Bool
 | .sc (.int .i64 m)=>m==n
 |_=>false
def isU (n:Int):AV->Bool
 | .sc (.int .u32 m)=>m==n
 |_=>false
def isE :AV->Bool
 | .sc (.string s)=>decide (s=⟨#[]⟩)
 |_=>false
theorem Sj {n:Int}{a:AV}(h:isI n a=true):a=iv n:=by
 unfold isI at h
 split at h
 ·simp at h;rw[h]
 ·cases h
theorem Ce {n:Int}{a:AV}(h:isU n a=true):a=uv n:=by
 unfold isU at h
 split at h
 ·simp at h;rw[h]
 ·cases h
theorem isE_eq {a:AV}(h:isE a=true):a= .sc (.string ⟨#[]⟩):=by
 unfold isE at h
 split at h
 ·simp at h;rw[h]
 ·cases h
def unS :List AV->Option (List Int)
 |[p,a0,a1,a2,a3,a4,a5,a6,a7,a8,a9,a10,a11,a12,a13,a14,a15,.sl false 1 m,r,o,s,e]=>
  if isI 0 p&&isU 0 a0&&isU 0 a1&&isU 0 a2&&isU 0 a3&&isU 0 a4&&isU 0 a5&&isU 0 a6&&isU 0 a7&&isU 0 a8&&isU 0 a9&&isU 0 a10&&isU 0 a11&&isU 0 a12&&isU 0 a13&&isU 0 a14&&isU 0 a15&&isI 0 r&&isE o&&isI 0 s&&isI 0 e then unW m else none
 |_=>none
theorem unS_eq {st:List AV}{mem:List Int}(h:unS st=some mem):st=stA mem:=by
 unfold unS at h
 split at h
 ·split at h
  ·rename_i hc
   simp only[Bool.and_eq_true] at hc
   obtain⟨⟨⟨⟨⟨⟨⟨⟨⟨⟨⟨⟨⟨⟨⟨⟨⟨⟨⟨⟨h1,h2⟩,h3⟩,h4⟩,h5⟩,h6⟩,h7⟩,h8⟩,h9⟩,h10⟩,h11⟩,h12⟩,h13⟩,h14⟩,h15⟩,h16⟩,h17⟩,h18⟩,h19⟩,h20⟩,h21⟩:=hc
   rw[Sj h1,Ce h2,Ce h3,Ce h4,Ce h5,Ce h6,Ce h7,Ce h8,Ce h9,Ce h10,Ce h11,Ce h12,Ce h13,Ce h14,Ce h15,Ce h16,Ce h17,Sj h18,isE_eq h19,Sj h20,Sj h21,R9 h]
   rfl
  ·cases h
 ·cases h
theorem unS_st (mem:List Int):unS (stA mem)=some mem:=by
 unfold unS stA
 simp[isI,isU,isE,Rt,iv,uv]
def allU (l:List Int):Bool:=l.all fun x=>decide (0<=x)&&decide (x<4294967296)
theorem K7 (l:List Int):allU l=true↔ ∀x∈l,Ma.U x:=by
 unfold allU Ma.U
 simp
def goO :List AV->Option (List AV)
 |[.agg [.sl false 1 rows,.sc (.int .i64 _)],.sc (.string inp),.agg st,.sc (.int .i64 fuel)]=>match unW rows,unS st with
  |some code,some mem=>if allU code&&allU mem&&decide (mem.length<=1048576)&&decide (inp.size<=1048576)&&decide (code.length<=1048576)&&decide (fuel<=4611686018427387904) then some [resS (Ma.runP code (inpF inp) fuel.toNat (startM mem))] else none
  |_,_=>none
 |_=>none
theorem goO_eq {code mem:List Int}{inp:ByteArray}{data fuel:Int}(hcU: ∀x∈code,Ma.U x)(hmU: ∀x∈mem,Ma.U x)(hml:mem.length<=1048576)(hil:inp.size<=1048576)(hcl:code.length<=1048576)(hf:fuel<=4611686018427387904):
  goO [.agg [.sl false 1 (rowW code),iv data],.sc (.string inp),.agg (stA mem),iv fuel]=some [resS (Ma.runP code (inpF inp) fuel.toNat (startM mem))]:=by
 simp only[goO,Rt,unS_st]
 rw[if_pos]
 simp[(K7 code).2 hcU,(K7 mem).2 hmU,hml,hil,hcl,hf]
def X47 :Orc:=⟨fun f args=>if f=56 then K.readO args else if f=105 then goO args else none,fun _ _ _ _ _=>none⟩
theorem X47_ok :A4 P0 X47:=by
 refine⟨fun f args rs h hok I w us hI hgl ha=>?_,fun k d f args hp v hp' h=>by simp[X47] at h⟩
 simp only[X47] at h
 split at h
 ·rename_i hf
  subst hf
  exact K.X47_ok.1 56 args rs (by simpa[K.X47] using h) hok I w us hI hgl ha
 ·split at h
  ·rename_i hf
   subst hf
   unfold goO at h
   split at h
   ·rename_i rows data inp st fuel
    split at h
    ·rename_i code mem h1 h2
     split at h
     ·rename_i hc
      cases h
      simp only[Bool.and_eq_true,decide_eq_true_eq] at hc
      obtain⟨⟨⟨⟨⟨c1,c2⟩,c3⟩,c4⟩,c5⟩,c6⟩:=hc
      rw[R9 h1,unS_eq h2] at ha
      exact Lma ((K7 code).1 c1) ((K7 mem).1 c2) c3 c4 c5 c6 hI hgl ha
     ·cases h
    ·cases h
   ·cases h
  ·cases h
abbrev E47 :Cfg:=E00
end
section
open Go Go.Ab
attribute [-simp] Prog.bind getCs putCs
attribute [local simp ↓] run_bind
attribute [local simp ↓] Au
attribute [local simp] Ar Am facetsC Ax At Bf facetsW facetsH
theorem g63 (s:ByteArray)(hs:s.size<=1048576):(lim P0 E47 X47).dat 56 [.sc (.string s)]=some (K.readR s):=lim_dat.2 ⟨0,by show X47.dat 56 _=_;simp[X47,K.readO,hs]⟩
theorem wordsOf_U (s:ByteArray): ∀x∈K.wordsOf s,Ma.U x:=by
 intro x hx
 unfold K.wordsOf K.upto at hx
 obtain⟨i,_,rfl⟩:=List.mem_map.1 hx
 exact K.wordAt_range s _
def runI (code:List Int)(data:Nat)(inp:ByteArray)(fuel:Int):Ma.PS:=Ma.runP code (inpF inp) fuel.toNat (startM (List.replicate data 0))
def endI (s:Ma.PS):Int:=if s.en=0 then 5 else s.en
theorem g155 (code:List Int)(data:Nat)(inp:ByteArray)(fuel:Int)(hU: ∀x∈code,Ma.U x)(hc:code.length<=1048576)(hd:data<=32768)(hi:inp.size<=1048576)(hf:fuel<=4611686018427387904)(dd:Int):
  (lim P0 E47 X47).dat 105 [.agg [.sl false 1 (rowW code),iv dd],.sc (.string inp),.agg (stA (List.replicate data 0)),iv fuel]=some [resS (runI code data inp fuel)]:=by
 refine lim_dat.2 ⟨0,?_⟩
 show X47.dat 105 _=_
 simp only[X47]
 rw[if_neg Zd,if_pos trivial]
 exact goO_eq hU (fun x hx=>by rw[(List.mem_replicate.1 hx).2];exact⟨Zd,Zd⟩) (by simp;omega) hi hc hf
theorem g156 (code:List Int)(data:Nat)(hd:data<=32768):(lim P0 E47 X47).dat 106 [.agg [.sl false 1 (rowW code),iv data]]=some [.agg [iv 0,uv 0,uv 0,uv 0,uv 0,uv 0,uv 0,uv 0,uv 0,uv 0,uv 0,uv 0,uv 0,uv 0,uv 0,uv 0,uv 0,.vec 1 (rowW (List.replicate data 0)),iv 0,.sc (.string ⟨#[]⟩),iv 0,iv 0]]:=by
 refine fnW Tryz.func106 rfl rfl Bpa rfl J1a rfl ?_
 have n1:(data:Int)<=32768:=Zo
 have n2:(data:Int)*4<=140737488355328:=Zo
 have n3:(data:Int)<=9223372036854775807:=Zo
 have n4:(rowW (List.replicate data 0))=List.replicate data [uv 0]:=Zi
 rw[n4]
 clear n4
 by_cases h0:(0:Int)<data
 ·clear hd
  repeat' (first|refine ZN ?_|refine Z2 ?_ ?_|(intro h h';try simp[*,-h] at h'))
  all_goals (first|rfl|(simp;done)|omega)
 ·obtain rfl:data=0:=Zo
  clear hd n1 n2 n3 h0
  repeat' (first|refine ZN ?_|refine Z2 ?_ ?_|(intro h h';try simp[*,-h] at h'))
  all_goals simp
theorem runI_ok (code:List Int)(data:Nat)(inp:ByteArray)(fuel:Int)(hU: ∀x∈code,Ma.U x)(hc:code.length<=1048576):Ma.Ok inp.size (runI code data inp fuel):=
 Ma.runP_ok Zo hU (Je inp) _ (P3 fun x hx=>by rw[(List.mem_replicate.1 hx).2];exact⟨Zd,Zd⟩)
theorem g109 (code:List Int)(data:Nat)(inp:ByteArray)(fuel:Int)(hU: ∀x∈code,Ma.U x)(hc:code.length<=1048576)(hd:data<=32768)(hi:inp.size<=1048576)(hf:fuel<=4611686018427387904):(lim P0 E47 X47).dat 70 [.agg [.sl false 1 (rowW code),iv data],.sc (.string inp),iv fuel]=some [.agg [iv (endI (runI code data inp fuel)),.sc (.string (outT (runI code data inp fuel).out)),iv (runI code data inp fuel).steps]]:=by
 refine fnW Tryz.func70 rfl rfl F1a rfl rtys_70 rfl ?_
 have h155:=g155 code data inp fuel hU hc hd hi hf data
 have h156:=g156 code data hd
 have hok:=runI_ok code data inp fuel hU hc
 generalize runI code data inp fuel=s at*
 obtain⟨pc,rg,mem,rd,out,steps,en,own⟩:=s
 obtain⟨x0,x1,x2,x3,x4,x5,x6,x7,x8,x9,x10,x11,x12,x13,x14,x15,rfl⟩:=Ee hok.rl
 unfold resS at h155
 unfold stA at h155
 simp only[List.map_cons,List.map_nil,List.cons_append,List.nil_append] at h155
 unfold endI
 simp only
 have hb:=Av en 0
 clear hok hU hc hd hi hf
 generalize rowW code=RC at*
 generalize rowW (List.replicate data 0)=RM at*
 generalize rowW mem=RN at*
 generalize outT out=OT at*
 by_cases he:en=0
 all_goals simp only[he,if_true,if_false,decide_true,decide_false] at hb⊢
 all_goals (try subst he)
 all_goals cases own
 all_goals simp only[if_true,if_false,Bool.false_eq_true] at h155
 all_goals
  repeat' (first|refine ZN ?_|refine Z2 ?_ ?_|(intro h h';try simp[*,-h] at h'))
 all_goals rfl
theorem imgB_spec {s:ByteArray}(h:K.imgB s=true):s.size<=65548/\(K.wordAt s 8).toNat<=32768/\(K.codeOf s).length<=1048576/\(((K.wordAt s 8).toNat:Nat):Int)=K.wordAt s 8:=by
 have h1:=(K.imgB_iff s).1 h
 obtain⟨_,_,h2,h3,_⟩:=h1
 have h4:=K.wordAt_range s 8
 refine⟨h2,Zo,?_,Zo⟩
 unfold K.codeOf K.wordsOf K.upto
 simp
 have:(s.extract 12 s.size).size<=s.size:=by rw[ByteArray.size_extract];omega
 omega
def stI (img src:ByteArray)(fuel:Int):Ma.PS:=runI (K.codeOf img) (K.wordAt img 8).toNat src fuel
def bytesR (img src:ByteArray)(fuel:Int):List AV:=if K.imgB img then[.agg [iv (endI (stI img src fuel)),.sc (.string (outT (stI img src fuel).out)),iv (stI img src fuel).steps],iv 0] else[.agg [iv 0,.sc (.string ⟨#[]⟩),iv 0],iv 7]
theorem g70 (img src:ByteArray)(fuel:Int)(hm:img.size<=1048576)(hi:src.size<=1048576)(hf:fuel<=4611686018427387904):(lim P0 E47 X47).dat 44 [.sc (.string img),.sc (.string src),iv fuel]=some (bytesR img src fuel):=by
 refine fnW Tryz.func44 rfl rfl Gba rfl rtys_44 rfl ?_
 have h63:=g63 img hm
 unfold K.readR at h63
 unfold bytesR
 cases hb:K.imgB img with
 |false=>
  rw[hb] at h63
  simp only[Bool.false_eq_true,if_false] at h63⊢
  exact ZS
 |true=>
  rw[hb] at h63
  simp only[if_true] at h63⊢
  obtain⟨e1,e2,e3,e4⟩:=imgB_spec hb
  have h109:=g109 (K.codeOf img) (K.wordAt img 8).toNat src fuel (wordsOf_U _) e3 e2 hi hf
  rw[e4] at h109
  unfold stI
  generalize runI (K.codeOf img) (K.wordAt img 8).toNat src fuel=s at*
  rw[show K.rowW (K.codeOf img)=rowW (K.codeOf img) from rfl] at h63
  generalize rowW (K.codeOf img)=RC at*
  generalize outT s.out=OT at*
  generalize endI s=EN at*
  clear e1 e2 e3 e4 hf hi hm hb
  exact ZS
end
section
open Go Go.Ab
attribute [-simp] Prog.bind getCs putCs
attribute [local simp ↓] run_bind
attribute [local simp ↓] Au
attribute [local simp] Ar Am facetsC Ax At Bf facetsW facetsH
def goodI (img src:ByteArray)(fuel:Int):Option ByteArray:=if K.imgB img=true/\endI (stI img src fuel)=1 then some (outT (stI img src fuel).out) else none
def resT :Option ByteArray->List AV
 |some o=>[.sc (.string o),bv true]
 |none=>[.sc (.string ⟨#[]⟩),bv false]
theorem g52 (img src:ByteArray)(fuel:Int)(hm:img.size<=1048576)(hi:src.size<=1048576)(hf:fuel<=4611686018427387903):(lim P0 E47 X47).dat 63 [.sc (.string img),.sc (.string src),iv fuel]=some (resT (goodI img src fuel)):=by
 refine fnW Tryz.func63 rfl rfl F2a rfl rtys_63 rfl ?_
 have h70:=g70 img src fuel hm hi Zo
 have hmn:min fuel 4611686018427387903=fuel:=Int.min_eq_left hf
 unfold bytesR at h70
 unfold goodI
 generalize outT (stI img src fuel).out=OT at*
 generalize endI (stI img src fuel)=EN at*
 generalize (stI img src fuel).steps=SN at*
 have hb:=Jm EN 1
 clear hf hi hm
 cases hi:K.imgB img
 all_goals rw[hi] at h70
 all_goals by_cases he:EN=1
 all_goals simp only[he,ne_eq,not_true,not_false_iff,and_true,and_false,true_and,if_true,if_false,Bool.false_eq_true,decide_true,decide_false,resT] at h70 hb⊢
 all_goals (try subst he)
 all_goals
  repeat' (first|refine ZN ?_|refine Z2 ?_ ?_|(intro h h';try simp[*,-h] at h'))
 all_goals rfl
end
end Go.Proofs.YtpmoibjpjlhcgaaGreatDoor.M
