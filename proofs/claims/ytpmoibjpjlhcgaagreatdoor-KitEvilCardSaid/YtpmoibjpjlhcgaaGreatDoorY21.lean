/- A part of the proof: J23, J24, J25, J7, J26, J8, J27. -/
import Derived.Test.YtpmoibjpjlhcgaaGreatDoorY20
import Derived.Test.YtpmoibjpjlhcgaaGreatDoorY05
import Derived.Lib.Hide
set_option linter.unusedSimpArgs false
set_option linter.unusedVariables false
set_option maxRecDepth 200000
set_option maxHeartbeats 8000000
namespace Go.Proofs.YtpmoibjpjlhcgaaGreatDoor.K
open Go Go.Ab
theorem turn (l:List Int)(hl:l.length<=60)(hU: ∀x∈mirC l,U x)(j:Nat)(R:Nat->Int)(st:Nat)(out:List Int)(hj:j<(mirC l).length)(h1:0<=R 1)(h2:U (R 2))(h3:R 3=j)(h4:R 4=((mirC l).length:Int))(h7:R 7=1)(h8:R 8=8)(hst:st+50<100000)(ho:out.length+50<65535){k:Nat}
  {P:MS->Prop} (r: ∀R',0<=R' 1->U (R' 2)->R' 3=((j+1:Nat):Int)->R' 4=((mirC l).length:Int)->R' 7=1->R' 8=8-> ∃t,Run l ⟨if j+1<(mirC l).length then 13 else 18,R',st+14,0,out++b4 ((mirC l)[j])⟩ k t/\P t): ∃t,Run l ⟨13,R,st,0,out⟩ (k+14) t/\P t:=by
 suffices hR: ∃R',0<=R' 1/\U (R' 2)/\R' 3=((j+1:Nat):Int)/\R' 4=((mirC l).length:Int)/\R' 7=1/\R' 8=8/\ ∀t,Run l ⟨if j+1<(mirC l).length then 13 else 18,R',st+14,0,out++b4 ((mirC l)[j])⟩ k t->Run l ⟨13,R,st,0,out⟩ (k+14) t by
  obtain⟨R',q1,q2,q3,q4,q7,q8,hR⟩:=hR
  obtain⟨t,h,hp⟩:=r R' q1 q2 q3 q4 q7 q8
  exact⟨t,hR t h,hp⟩
 clear r
 have hlen:=Dy l
 have n:=fun a x j (h:j≠a)=>Y4 R x h
 have uw:=hU _ (List.getElem_mem hj)
 have hg:(mirC l).getD (R 3).toNat 0=(mirC l)[j]:=by rw[h3,Int.toNat_natCast,List.getD_eq_getElem?_getD,List.getElem?_eq_getElem hj];rfl
 generalize (mirC l)[j]=w at hg uw⊢
 suffices hR: ∃R',0<=R' 1/\U (R' 2)/\R' 3=((j+1:Nat):Int)/\R' 4=((mirC l).length:Int)/\R' 7=1/\R' 8=8/\ ∀t,Run l ⟨if j+1<(mirC l).length then 13 else 18,R',st+14,0,out++b4 w⟩ k t->Run l ⟨13,R,st,0,out⟩ (k+14) t from hR
 have u3:U (R 3):=by rw[h3];exact Pc (by omega)
 have u4:U (R 4):=by rw[h4];exact Pc (by omega)
 have u7:U (R 7):=by rw[h7];unfold U;omega
 refine⟨setR (setR (setR (setR (setR R 2 w) 15 (((14:Nat):Int)+1)) 2 (w/4294967296)) 3 ((j+1:Nat):Int)) 5 (if ((j+1:Nat):Int)<R 4 then 1 else 0),by simpa[setR] using h1,by simp[setR];unfold U at*;omega,by simp[setR],by simpa[setR] using h4,by simpa[setR] using h7,by simpa[setR] using h8,fun t r=>?_⟩
 refine .step ⟨rfl,by simp,by simp only;omega,by simp only;omega,h1,h2,u3,u4,u7,fun _=>⟨j,h3,hj⟩,by simp,by simp⟩ ?_
 simp only[nx,sR,hg,Nat.reduceAdd]
 refine .step ⟨rfl,by simp,by simp only;omega,by simp only;omega,by simpa[setR] using h1,by simpa using uw,by simpa[setR] using u3,by simpa[setR] using u4,by simpa[setR] using u7,by simp,by simp,by simp⟩ ?_
 simp only[nx,cL,Nat.reduceAdd]
 refine Lr l _ _ out (by simpa[setR] using h1) (by simpa[setR] using uw) (by simpa[setR] using u3) (by simpa[setR] using u4) (by simpa[setR] using u7) (by simpa[setR] using h8) (by omega) (by omega) 15 (by simp) (by omega) ?_
 have e2:setR (setR R 2 w) 15 (((14:Nat):Int)+1) 2=w:=by simp[setR]
 rw[e2]
 have uq:U (w/4294967296):=by unfold U at*;omega
 obtain⟨R1,hR1⟩: ∃R1,R1=setR (setR (setR R 2 w) 15 (((14:Nat):Int)+1)) 2 (w/4294967296):=⟨_,rfl⟩
 rw[<-hR1]
 have a1:R1 1=R 1:=by rw[hR1];simp[setR]
 have a2:R1 2=w/4294967296:=by rw[hR1];simp[setR]
 have a3:R1 3=R 3:=by rw[hR1];simp[setR]
 have a4:R1 4=R 4:=by rw[hR1];simp[setR]
 have a7:R1 7=R 7:=by rw[hR1];simp[setR]
 have a8:R1 8=R 8:=by rw[hR1];simp[setR]
 clear e2
 have hb:(b4 w).length=4:=rfl
 refine .step ⟨rfl,by simp,by simp only;omega,by simp[hb];omega,by simp only;omega,by simp only;rw[a2];exact uq,by simp only;rw[a3];exact u3,by simp only;rw[a4];exact u4,by simp only;rw[a7];exact u7,by simp,by simp,by simp⟩ ?_
 simp only[nx,sR,Nat.reduceAdd]
 have hs:(R1 3+R1 7)%4294967296=((j+1:Nat):Int):=by rw[a3,a7,h3,h7];omega
 rw[hs]
 have ub:U (((j+1:Nat):Int)):=Pc (by omega)
 refine .step ⟨rfl,by simp,by simp only;omega,by simp[hb];omega,by simp[setR];omega,by simp[setR];rw[a2];exact uq,by simpa using ub,by simp[setR];rw[a4];exact u4,by simp[setR];rw[a7];exact u7,by simp,by simp,by simp⟩ ?_
 simp only[nx,sR,Nat.reduceAdd]
 refine .step ⟨rfl,by simp,by simp only;omega,by simp[hb];omega,by simp[setR];omega,by simp[setR];rw[a2];exact uq,by simpa[setR] using ub,by simp[setR];rw[a4];exact u4,by simp[setR];rw[a7];exact u7,by simp,by simp,by simp⟩ ?_
 simp only[nx,Nat.reduceAdd,Dq]
 have hc:setR R1 3 ((j+1:Nat):Int) 3<setR R1 3 ((j+1:Nat):Int) 4↔j+1<(mirC l).length:=by simp[setR];rw[a4,h4];omega
 have hpc:(if (if setR R1 3 ((j+1:Nat):Int) 3<setR R1 3 ((j+1:Nat):Int) 4 then(1:Int) else 0)≠0 then 13 else 18)=if j+1<(mirC l).length then 13 else 18:=by
  by_cases h:j+1<(mirC l).length
  ·rw[if_pos h,if_pos (hc.2 h)];rfl
  ·rw[if_neg h,if_neg (fun h'=>h (hc.1 h'))];rfl
 rw[Dq] at hpc
 rw[hpc]
 have e4:setR R1 3 ((j+1:Nat):Int) 4=R 4:=by simp[setR];exact a4
 rw[e4]
 rw[<-hR1] at r
 exact r
theorem loop (l:List Int)(hl:l.length<=60)(hU: ∀x∈mirC l,U x): ∀(m j:Nat) (R:Nat->Int) (st:Nat) (out:List Int),j+m+1=(mirC l).length->0<=R 1->U (R 2)->R 3=j->R 4=((mirC l).length:Int)->R 7=1->R 8=8->st+14*m+50<100000->out.length+4*m+50<65535->
  ∃t,Run l ⟨13,R,st,0,out⟩ (14*m+15) t/\t.en=1/\t.out=out++bys ((mirC l).drop j):=by
 intro m
 induction m with
 |zero=>
  intro j R st out hj h1 h2 h3 h4 h7 h8 hst ho
  have hlen:=Dy l
  have hjl:j<(mirC l).length:=by omega
  have hd:(mirC l).drop j=[(mirC l)[j]]:=by
   rw[List.drop_eq_getElem_cons hjl,List.drop_eq_nil_of_le (by omega)]
  have key: ∀R',0<=R' 1->U (R' 2)->R' 3=((j+1:Nat):Int)->R' 4=((mirC l).length:Int)->R' 7=1->R' 8=8->Run l ⟨18,R',st+14,0,out++b4 ((mirC l)[j])⟩ 1 ⟨18,R',st+14+1,1,out++b4 ((mirC l)[j])⟩:=fun R' q1 q2 q3 q4 q7 q8=>by
   refine .step ⟨rfl,by simp,by simp only;omega,by simp[b4];omega,q1,q2,?_,?_,?_,by simp,by simp,by simp⟩ (.nil _)
   ·simp only;rw[q3];exact Pc (by omega)
   ·simp only;rw[q4];exact Pc (by omega)
   ·simp only;rw[q7];unfold U;omega
  have:=turn l hl hU j R st out hjl h1 h2 h3 h4 h7 h8 (by omega) (by omega) (k:=1) (P:=fun t=>t.en=1/\t.out=out++bys ((mirC l).drop j)) fun R' q1 q2 q3 q4 q7 q8=>
   ⟨_,by rw[if_neg (by omega)];exact key R' q1 q2 q3 q4 q7 q8,rfl,by rw[hd];simp[bys]⟩
  exact this
 |succ m ih=>
  intro j R st out hj h1 h2 h3 h4 h7 h8 hst ho
  have hjl:j<(mirC l).length:=by omega
  have hd:(mirC l).drop j=(mirC l)[j]::(mirC l).drop (j+1):=List.drop_eq_getElem_cons hjl
  have:=turn l hl hU j R st out hjl h1 h2 h3 h4 h7 h8 (by omega) (by omega) (k:=14*m+15) (P:=fun t=>t.en=1/\t.out=out++bys ((mirC l).drop j)) fun R' q1 q2 q3 q4 q7 q8=>by
   rw[if_pos (by omega)]
   obtain⟨t,r1,r2,r3⟩:=ih (j+1) R' (st+14) (out++b4 ((mirC l)[j])) (by omega) q1 q2 q3 q4 q7 q8 (by omega) (by simp[b4];omega)
   exact⟨t,r1,r2,by rw[r3,hd];unfold bys;rw[List.flatMap_cons,List.append_assoc]⟩
  exact this
theorem Ti (l:List Int)(hl:l.length<=60)(hU: ∀x∈l,U x): ∃t,Run l ⟨0,fun _=>0,0,0,[]⟩ (32+14*(mirC l).length) t/\t.en=1/\t.out=[83,69,69,68]++b4 ((mirC l).length:Int)++b4 0++bys (mirC l):=by
 have hlen:=Dy l
 have u83:U 83:=by unfold U;omega
 have u69:U 69:=by unfold U;omega
 have u68:U 68:=by unfold U;omega
 have u0:U 0:=by unfold U;omega
 have u1:U 1:=by unfold U;omega
 have uN:U ((28+l.length:Nat):Int):=Pc (by omega)
 obtain⟨t,r,h⟩: ∃t,Run l ⟨13,setR (setR (setR (setR (setR (setR (setR (setR (fun _=>0) 1 68) 8 8) 7 1) 4 ((28+l.length:Nat):Int)) 15 12) 2 0) 15 13) 2 0,31,0,[83,69,69,68]++b4 ((mirC l).length:Int)++b4 0⟩ (14*(mirC l).length+1) t/\t.en=1/\t.out=[83,69,69,68]++b4 ((mirC l).length:Int)++b4 0++bys (mirC l):=by
  have:=loop l hl (Ts l hl hU) (27+l.length) 0 (setR (setR (setR (setR (setR (setR (setR (setR (fun _=>0) 1 68) 8 8) 7 1) 4 ((28+l.length:Nat):Int)) 15 12) 2 0) 15 13) 2 0) 31 ([83,69,69,68]++b4 ((mirC l).length:Int)++b4 0) (by omega) (by simp[setR]) (by simpa[setR] using u0) (by simp[setR]) (by simp[setR,hlen]) (by simp[setR]) (by simp[setR]) (by omega) (by simp[b4];omega)
  rw[List.drop_zero,show 14*(27+l.length)+15=14*(mirC l).length+1 by omega] at this
  exact this
 refine⟨t,?_,h⟩
 clear h
 rw[show 32+14*(mirC l).length=14*(mirC l).length+1+9+1+9+1+1+1+1+1+1+1+1+1+1+1+1 by omega]
 have z:(0:Int)<=0:=by omega
 iterate 12 (refine .step ⟨rfl,by simp,by simp,by simp,by simp[setR],by simp[setR];first|exact u0|exact uN,by simpa[setR] using u0,by simp[setR];first|exact u0|exact uN,by simp[setR];first|exact u0|exact u1,by simp,by simp,by simp⟩ ?_;simp only[nx,sR,pO,cL,Nat.reduceAdd])
 simp only[List.nil_append,List.cons_append,Dq,E7]
 rw[<-hlen] at uN r⊢
 obtain⟨B,hB⟩: ∃B,B=setR (setR (setR (setR (fun _=>0) 1 68) 8 8) 7 1) 4 ((mirC l).length:Int):=⟨_,rfl⟩
 rw[<-hB] at r⊢
 have b1:B 1=68:=by rw[hB];simp[setR]
 have b3:B 3=0:=by rw[hB];simp[setR]
 have b4':B 4=((mirC l).length:Int):=by rw[hB];simp[setR]
 have b7:B 7=1:=by rw[hB];simp[setR]
 have b8:B 8=8:=by rw[hB];simp[setR]
 clear hB
 have e1: ∀x y z:Int,setR (setR (setR B 2 x) 15 y) 2 z=setR (setR B 15 y) 2 z:=fun x y z=>by
  funext j;unfold setR;by_cases h2:j=2<;>simp[h2]
 rw[show(((11:Nat):Int)+1)=12 from rfl]
 have hz:((mirC l).length:Int)/4294967296=0:=by omega
 refine Lr l _ 12 _ (by simp[setR,b1]) (by simpa[setR] using uN) (by simpa[setR,b3] using u0) (by simpa[setR,b4'] using uN) (by simpa[setR,b7] using u1) (by simpa[setR] using b8) (by omega) (by simp) 12 (by simp) (by omega) ?_
 have f2:setR (setR B 2 ((mirC l).length:Int)) 15 12 2=((mirC l).length:Int):=by simp[setR]
 rw[f2,hz,e1]
 refine .step ⟨rfl,by simp,by simp,by simp[b4],by simp[setR,b1],by simpa[setR] using u0,by simpa[setR,b3] using u0,by simpa[setR,b4'] using uN,by simpa[setR,b7] using u1,by simp,by simp,by simp⟩ ?_
 simp only[nx,cL,Nat.reduceAdd]
 rw[show(((12:Nat):Int)+1)=13 from rfl]
 refine Lr l _ 22 _ (by simp[setR,b1]) (by simpa[setR] using u0) (by simpa[setR,b3] using u0) (by simpa[setR,b4'] using uN) (by simpa[setR,b7] using u1) (by simpa[setR] using b8) (by omega) (by simp[b4]) 13 (by simp) (by omega) ?_
 have f3:setR (setR (setR B 15 12) 2 0) 15 13 2=0:=by simp[setR]
 rw[f3]
 exact r
end Go.Proofs.YtpmoibjpjlhcgaaGreatDoor.K
namespace Go.Proofs.YtpmoibjpjlhcgaaGreatDoor.K
open Go Go.Ab
theorem Az (l:List Int)(p:Nat)(h:p<28):(mirC l)[p]?=((mI ((28+l.length:Nat):Int))[p]?).map Ins.enc:=by
 unfold mirC mcode
 rw[List.getElem?_append_left (by simp[mI];omega),List.getElem?_map]
theorem dec_N (n:Nat)(h:n<=88):decR (Ins.enc ⟨1,4,0,n⟩)=[iv 1,iv 4,iv 0,iv n]/\okR (Ins.enc ⟨1,4,0,n⟩)=true:=by
 have e:insW (Ins.enc ⟨1,4,0,n⟩)=⟨1,4,0,n⟩:=by
  unfold insW Ins.enc
  simp only[Ins.mk.injEq]
  omega
 have r:rightI ⟨1,4,0,n⟩=true:=by
  have h1:partsOf 1=⟨#[97,99]⟩:=by decide
  have h2:hasB ⟨#[97,99]⟩ 97=true/\hasB ⟨#[97,99]⟩ 98=false/\hasB ⟨#[97,99]⟩ 99=true/\hasB ⟨#[97,99]⟩ 114=false:=by decide
  unfold rightI
  simp only[h1,h2,wi,if_true,Bool.false_eq_true,if_false,Bool.or_false,Bool.and_eq_true,decide_eq_true_eq]
  refine⟨⟨⟨by decide,by omega⟩,by simp⟩,by omega⟩
 unfold decR okR
 rw[e,r]
 exact⟨rfl,rfl⟩
theorem dec_0 :decR (Ins.enc ⟨1,1,0,83⟩)=[iv 1,iv 1,iv 0,iv 83]/\okR (Ins.enc ⟨1,1,0,83⟩)=true:=⟨by kernel_rfl,by kernel_rfl⟩
theorem Aga :decR (Ins.enc ⟨24,1,0,0⟩)=[iv 24,iv 1,iv 0,iv 0]/\okR (Ins.enc ⟨24,1,0,0⟩)=true:=⟨by kernel_rfl,by kernel_rfl⟩
theorem dec_2 :decR (Ins.enc ⟨1,1,0,69⟩)=[iv 1,iv 1,iv 0,iv 69]/\okR (Ins.enc ⟨1,1,0,69⟩)=true:=⟨by kernel_rfl,by kernel_rfl⟩
theorem dec_3 :decR (Ins.enc ⟨1,1,0,68⟩)=[iv 1,iv 1,iv 0,iv 68]/\okR (Ins.enc ⟨1,1,0,68⟩)=true:=⟨by kernel_rfl,by kernel_rfl⟩
theorem dec_4 :decR (Ins.enc ⟨1,8,0,8⟩)=[iv 1,iv 8,iv 0,iv 8]/\okR (Ins.enc ⟨1,8,0,8⟩)=true:=⟨by kernel_rfl,by kernel_rfl⟩
theorem dec_5 :decR (Ins.enc ⟨1,7,0,1⟩)=[iv 1,iv 7,iv 0,iv 1]/\okR (Ins.enc ⟨1,7,0,1⟩)=true:=⟨by kernel_rfl,by kernel_rfl⟩
theorem dec_6 :decR (Ins.enc ⟨3,2,4,0⟩)=[iv 3,iv 2,iv 4,iv 0]/\okR (Ins.enc ⟨3,2,4,0⟩)=true:=⟨by kernel_rfl,by kernel_rfl⟩
theorem dec_7 :decR (Ins.enc ⟨21,15,0,19⟩)=[iv 21,iv 15,iv 0,iv 19]/\okR (Ins.enc ⟨21,15,0,19⟩)=true:=⟨by kernel_rfl,by kernel_rfl⟩
theorem dec_8 :decR (Ins.enc ⟨27,2,3,0⟩)=[iv 27,iv 2,iv 3,iv 0]/\okR (Ins.enc ⟨27,2,3,0⟩)=true:=⟨by kernel_rfl,by kernel_rfl⟩
theorem dec_9 :decR (Ins.enc ⟨4,3,3,7⟩)=[iv 4,iv 3,iv 3,iv 7]/\okR (Ins.enc ⟨4,3,3,7⟩)=true:=⟨by kernel_rfl,by kernel_rfl⟩
theorem dec_10 :decR (Ins.enc ⟨14,5,3,4⟩)=[iv 14,iv 5,iv 3,iv 4]/\okR (Ins.enc ⟨14,5,3,4⟩)=true:=⟨by kernel_rfl,by kernel_rfl⟩
theorem dec_11 :decR (Ins.enc ⟨20,5,0,13⟩)=[iv 20,iv 5,iv 0,iv 13]/\okR (Ins.enc ⟨20,5,0,13⟩)=true:=⟨by kernel_rfl,by kernel_rfl⟩
theorem dec_12 :decR (Ins.enc ⟨26,0,0,0⟩)=[iv 26,iv 0,iv 0,iv 0]/\okR (Ins.enc ⟨26,0,0,0⟩)=true:=⟨by kernel_rfl,by kernel_rfl⟩
theorem P9 :decR (Ins.enc ⟨24,2,0,0⟩)=[iv 24,iv 2,iv 0,iv 0]/\okR (Ins.enc ⟨24,2,0,0⟩)=true:=⟨by kernel_rfl,by kernel_rfl⟩
theorem P8 :decR (Ins.enc ⟨13,2,2,8⟩)=[iv 13,iv 2,iv 2,iv 8]/\okR (Ins.enc ⟨13,2,2,8⟩)=true:=⟨by kernel_rfl,by kernel_rfl⟩
theorem dec_15 :decR (Ins.enc ⟨22,15,0,0⟩)=[iv 22,iv 15,iv 0,iv 0]/\okR (Ins.enc ⟨22,15,0,0⟩)=true:=⟨by kernel_rfl,by kernel_rfl⟩
theorem at_0 (l:List Int):(rowD (mirC l))[0]?=some [iv 1,iv 1,iv 0,iv 83]/\(rowK (mirC l))[0]?=some [bv true]:=by
 have h:=Az l 0 (by omega)
 rw[List.getElem?_map,List.getElem?_map,h]
 have d:=dec_0
 exact⟨congrArg some d.1,congrArg (fun b=>some [bv b]) d.2⟩
theorem at_1 (l:List Int):(rowD (mirC l))[1]?=some [iv 24,iv 1,iv 0,iv 0]/\(rowK (mirC l))[1]?=some [bv true]:=by
 have h:=Az l 1 (by omega)
 rw[List.getElem?_map,List.getElem?_map,h]
 have d:=Aga
 exact⟨congrArg some d.1,congrArg (fun b=>some [bv b]) d.2⟩
theorem at_2 (l:List Int):(rowD (mirC l))[2]?=some [iv 1,iv 1,iv 0,iv 69]/\(rowK (mirC l))[2]?=some [bv true]:=by
 have h:=Az l 2 (by omega)
 rw[List.getElem?_map,List.getElem?_map,h]
 have d:=dec_2
 exact⟨congrArg some d.1,congrArg (fun b=>some [bv b]) d.2⟩
theorem at_3 (l:List Int):(rowD (mirC l))[3]?=some [iv 24,iv 1,iv 0,iv 0]/\(rowK (mirC l))[3]?=some [bv true]:=by
 have h:=Az l 3 (by omega)
 rw[List.getElem?_map,List.getElem?_map,h]
 have d:=Aga
 exact⟨congrArg some d.1,congrArg (fun b=>some [bv b]) d.2⟩
theorem at_4 (l:List Int):(rowD (mirC l))[4]?=some [iv 24,iv 1,iv 0,iv 0]/\(rowK (mirC l))[4]?=some [bv true]:=by
 have h:=Az l 4 (by omega)
 rw[List.getElem?_map,List.getElem?_map,h]
 have d:=Aga
 exact⟨congrArg some d.1,congrArg (fun b=>some [bv b]) d.2⟩
theorem at_5 (l:List Int):(rowD (mirC l))[5]?=some [iv 1,iv 1,iv 0,iv 68]/\(rowK (mirC l))[5]?=some [bv true]:=by
 have h:=Az l 5 (by omega)
 rw[List.getElem?_map,List.getElem?_map,h]
 have d:=dec_3
 exact⟨congrArg some d.1,congrArg (fun b=>some [bv b]) d.2⟩
theorem at_6 (l:List Int):(rowD (mirC l))[6]?=some [iv 24,iv 1,iv 0,iv 0]/\(rowK (mirC l))[6]?=some [bv true]:=by
 have h:=Az l 6 (by omega)
 rw[List.getElem?_map,List.getElem?_map,h]
 have d:=Aga
 exact⟨congrArg some d.1,congrArg (fun b=>some [bv b]) d.2⟩
theorem at_7 (l:List Int):(rowD (mirC l))[7]?=some [iv 1,iv 8,iv 0,iv 8]/\(rowK (mirC l))[7]?=some [bv true]:=by
 have h:=Az l 7 (by omega)
 rw[List.getElem?_map,List.getElem?_map,h]
 have d:=dec_4
 exact⟨congrArg some d.1,congrArg (fun b=>some [bv b]) d.2⟩
theorem at_8 (l:List Int):(rowD (mirC l))[8]?=some [iv 1,iv 7,iv 0,iv 1]/\(rowK (mirC l))[8]?=some [bv true]:=by
 have h:=Az l 8 (by omega)
 rw[List.getElem?_map,List.getElem?_map,h]
 have d:=dec_5
 exact⟨congrArg some d.1,congrArg (fun b=>some [bv b]) d.2⟩
theorem at_9 (l:List Int)(hl:l.length<=60):(rowD (mirC l))[9]?=some [iv 1,iv 4,iv 0,iv ((28+l.length:Nat):Int)]/\(rowK (mirC l))[9]?=some [bv true]:=by
 have h:=Az l 9 (by omega)
 rw[List.getElem?_map,List.getElem?_map,h]
 have d:=dec_N (28+l.length) (by omega)
 exact⟨congrArg some d.1,congrArg (fun b=>some [bv b]) d.2⟩
theorem at_10 (l:List Int):(rowD (mirC l))[10]?=some [iv 3,iv 2,iv 4,iv 0]/\(rowK (mirC l))[10]?=some [bv true]:=by
 have h:=Az l 10 (by omega)
 rw[List.getElem?_map,List.getElem?_map,h]
 have d:=dec_6
 exact⟨congrArg some d.1,congrArg (fun b=>some [bv b]) d.2⟩
theorem at_11 (l:List Int):(rowD (mirC l))[11]?=some [iv 21,iv 15,iv 0,iv 19]/\(rowK (mirC l))[11]?=some [bv true]:=by
 have h:=Az l 11 (by omega)
 rw[List.getElem?_map,List.getElem?_map,h]
 have d:=dec_7
 exact⟨congrArg some d.1,congrArg (fun b=>some [bv b]) d.2⟩
theorem at_12 (l:List Int):(rowD (mirC l))[12]?=some [iv 21,iv 15,iv 0,iv 19]/\(rowK (mirC l))[12]?=some [bv true]:=by
 have h:=Az l 12 (by omega)
 rw[List.getElem?_map,List.getElem?_map,h]
 have d:=dec_7
 exact⟨congrArg some d.1,congrArg (fun b=>some [bv b]) d.2⟩
theorem at_13 (l:List Int):(rowD (mirC l))[13]?=some [iv 27,iv 2,iv 3,iv 0]/\(rowK (mirC l))[13]?=some [bv true]:=by
 have h:=Az l 13 (by omega)
 rw[List.getElem?_map,List.getElem?_map,h]
 have d:=dec_8
 exact⟨congrArg some d.1,congrArg (fun b=>some [bv b]) d.2⟩
theorem at_14 (l:List Int):(rowD (mirC l))[14]?=some [iv 21,iv 15,iv 0,iv 19]/\(rowK (mirC l))[14]?=some [bv true]:=by
 have h:=Az l 14 (by omega)
 rw[List.getElem?_map,List.getElem?_map,h]
 have d:=dec_7
 exact⟨congrArg some d.1,congrArg (fun b=>some [bv b]) d.2⟩
theorem at_15 (l:List Int):(rowD (mirC l))[15]?=some [iv 4,iv 3,iv 3,iv 7]/\(rowK (mirC l))[15]?=some [bv true]:=by
 have h:=Az l 15 (by omega)
 rw[List.getElem?_map,List.getElem?_map,h]
 have d:=dec_9
 exact⟨congrArg some d.1,congrArg (fun b=>some [bv b]) d.2⟩
theorem at_16 (l:List Int):(rowD (mirC l))[16]?=some [iv 14,iv 5,iv 3,iv 4]/\(rowK (mirC l))[16]?=some [bv true]:=by
 have h:=Az l 16 (by omega)
 rw[List.getElem?_map,List.getElem?_map,h]
 have d:=dec_10
 exact⟨congrArg some d.1,congrArg (fun b=>some [bv b]) d.2⟩
theorem at_17 (l:List Int):(rowD (mirC l))[17]?=some [iv 20,iv 5,iv 0,iv 13]/\(rowK (mirC l))[17]?=some [bv true]:=by
 have h:=Az l 17 (by omega)
 rw[List.getElem?_map,List.getElem?_map,h]
 have d:=dec_11
 exact⟨congrArg some d.1,congrArg (fun b=>some [bv b]) d.2⟩
theorem at_18 (l:List Int):(rowD (mirC l))[18]?=some [iv 26,iv 0,iv 0,iv 0]/\(rowK (mirC l))[18]?=some [bv true]:=by
 have h:=Az l 18 (by omega)
 rw[List.getElem?_map,List.getElem?_map,h]
 have d:=dec_12
 exact⟨congrArg some d.1,congrArg (fun b=>some [bv b]) d.2⟩
theorem at_19 (l:List Int):(rowD (mirC l))[19]?=some [iv 24,iv 2,iv 0,iv 0]/\(rowK (mirC l))[19]?=some [bv true]:=by
 have h:=Az l 19 (by omega)
 rw[List.getElem?_map,List.getElem?_map,h]
 have d:=P9
 exact⟨congrArg some d.1,congrArg (fun b=>some [bv b]) d.2⟩
theorem at_20 (l:List Int):(rowD (mirC l))[20]?=some [iv 13,iv 2,iv 2,iv 8]/\(rowK (mirC l))[20]?=some [bv true]:=by
 have h:=Az l 20 (by omega)
 rw[List.getElem?_map,List.getElem?_map,h]
 have d:=P8
 exact⟨congrArg some d.1,congrArg (fun b=>some [bv b]) d.2⟩
theorem at_21 (l:List Int):(rowD (mirC l))[21]?=some [iv 24,iv 2,iv 0,iv 0]/\(rowK (mirC l))[21]?=some [bv true]:=by
 have h:=Az l 21 (by omega)
 rw[List.getElem?_map,List.getElem?_map,h]
 have d:=P9
 exact⟨congrArg some d.1,congrArg (fun b=>some [bv b]) d.2⟩
theorem at_22 (l:List Int):(rowD (mirC l))[22]?=some [iv 13,iv 2,iv 2,iv 8]/\(rowK (mirC l))[22]?=some [bv true]:=by
 have h:=Az l 22 (by omega)
 rw[List.getElem?_map,List.getElem?_map,h]
 have d:=P8
 exact⟨congrArg some d.1,congrArg (fun b=>some [bv b]) d.2⟩
theorem at_23 (l:List Int):(rowD (mirC l))[23]?=some [iv 24,iv 2,iv 0,iv 0]/\(rowK (mirC l))[23]?=some [bv true]:=by
 have h:=Az l 23 (by omega)
 rw[List.getElem?_map,List.getElem?_map,h]
 have d:=P9
 exact⟨congrArg some d.1,congrArg (fun b=>some [bv b]) d.2⟩
theorem at_24 (l:List Int):(rowD (mirC l))[24]?=some [iv 13,iv 2,iv 2,iv 8]/\(rowK (mirC l))[24]?=some [bv true]:=by
 have h:=Az l 24 (by omega)
 rw[List.getElem?_map,List.getElem?_map,h]
 have d:=P8
 exact⟨congrArg some d.1,congrArg (fun b=>some [bv b]) d.2⟩
theorem at_25 (l:List Int):(rowD (mirC l))[25]?=some [iv 24,iv 2,iv 0,iv 0]/\(rowK (mirC l))[25]?=some [bv true]:=by
 have h:=Az l 25 (by omega)
 rw[List.getElem?_map,List.getElem?_map,h]
 have d:=P9
 exact⟨congrArg some d.1,congrArg (fun b=>some [bv b]) d.2⟩
theorem at_26 (l:List Int):(rowD (mirC l))[26]?=some [iv 13,iv 2,iv 2,iv 8]/\(rowK (mirC l))[26]?=some [bv true]:=by
 have h:=Az l 26 (by omega)
 rw[List.getElem?_map,List.getElem?_map,h]
 have d:=P8
 exact⟨congrArg some d.1,congrArg (fun b=>some [bv b]) d.2⟩
theorem at_27 (l:List Int):(rowD (mirC l))[27]?=some [iv 22,iv 15,iv 0,iv 0]/\(rowK (mirC l))[27]?=some [bv true]:=by
 have h:=Az l 27 (by omega)
 rw[List.getElem?_map,List.getElem?_map,h]
 have d:=dec_15
 exact⟨congrArg some d.1,congrArg (fun b=>some [bv b]) d.2⟩
theorem h39 (l:List Int)(hl:l.length<=60)(s:MS)(hs:Ok l s)(g:Nat)(inp:ByteArray)(cs:List Int)(d:Nat)(hp1:Hp)
  (hx:hp1 ⟨0,13,0⟩= .box 1 (bxc s g (mirC l).length (mirC l) inp) false) (ho:hp1 ⟨0,13,23⟩= .arr g 1 5 (rowB s.out) false) (hc:hp1 ⟨0,13,24⟩= .arr 2 4 118 (rowD (mirC l)) false)
  (hk:hp1 ⟨0,13,25⟩= .arr 2 1 4 (rowK (mirC l)) false) (hn:hp1 ⟨0,13,28⟩= .arr 2 1 3 (rowI cs) false) (hnl:cs.length=(mirC l).length):
  ∃hp' g' cs',(lim Tryz.prog E47 X47).hpc 0 d 205 [.ptr ⟨0,13,0⟩ 1 0] hp1=some (.tup [],hp')/\Post (nx l s) g' (mirC l).length (mirC l) inp cs' hp1 hp':=by
 obtain⟨o1,o2,o3,o4,o5,o6,o7,o8,o9,o10,o11,o12⟩:=hs
 have hlen:=Dy l
 have hcl:(rowD (mirC l)).length=(mirC l).length:=by simp
 have hkl:(rowK (mirC l)).length=(mirC l).length:=by simp
 obtain⟨pc,R,st,en,out⟩:=s
 simp only at o1 o2 o3 o4 o5 o6 o7 o8 o9 o10 o11 o12 ho
 subst o1
 have hp:pc=0\/pc=1\/pc=2\/pc=3\/pc=4\/pc=5\/pc=6\/pc=7\/pc=8\/pc=9\/pc=10\/pc=11\/pc=12\/pc=13\/pc=14\/pc=15\/pc=16\/pc=17\/pc=18\/pc=19\/pc=20\/pc=21\/pc=22\/pc=23\/pc=24\/pc=25\/pc=26\/pc=27:=by omega
 rcases hp with rfl|rfl|rfl|rfl|rfl|rfl|rfl|rfl|rfl|rfl|rfl|rfl|rfl|rfl|rfl|rfl|rfl|rfl|rfl|rfl|rfl|rfl|rfl|rfl|rfl|rfl|rfl|rfl
 ·have h:=P0 ⟨0,R,st,0,out⟩ g _ _ inp _ _ cs 83 (by omega) d hp1 hx ho hc hcl (at_0 l).1 hk hkl (at_0 l).2 hn hnl (by simp only;omega) (by omega) o3
  exact h
 ·have h:=Jl ⟨1,R,st,0,out⟩ g _ _ inp _ _ cs o4 o5 d hp1 hx ho hc hcl (at_1 l).1 hk hkl (at_1 l).2 hn hnl (by simp only;omega) (by omega) o3
  exact h
 ·have h:=P0 ⟨2,R,st,0,out⟩ g _ _ inp _ _ cs 69 (by omega) d hp1 hx ho hc hcl (at_2 l).1 hk hkl (at_2 l).2 hn hnl (by simp only;omega) (by omega) o3
  exact h
 ·have h:=Jl ⟨3,R,st,0,out⟩ g _ _ inp _ _ cs o4 o5 d hp1 hx ho hc hcl (at_3 l).1 hk hkl (at_3 l).2 hn hnl (by simp only;omega) (by omega) o3
  exact h
 ·have h:=Jl ⟨4,R,st,0,out⟩ g _ _ inp _ _ cs o4 o5 d hp1 hx ho hc hcl (at_4 l).1 hk hkl (at_4 l).2 hn hnl (by simp only;omega) (by omega) o3
  exact h
 ·have h:=P0 ⟨5,R,st,0,out⟩ g _ _ inp _ _ cs 68 (by omega) d hp1 hx ho hc hcl (at_5 l).1 hk hkl (at_5 l).2 hn hnl (by simp only;omega) (by omega) o3
  exact h
 ·have h:=Jl ⟨6,R,st,0,out⟩ g _ _ inp _ _ cs o4 o5 d hp1 hx ho hc hcl (at_6 l).1 hk hkl (at_6 l).2 hn hnl (by simp only;omega) (by omega) o3
  exact h
 ·have h:=h39_li8 ⟨7,R,st,0,out⟩ g _ _ inp _ _ cs 8 (by omega) d hp1 hx ho hc hcl (at_7 l).1 hk hkl (at_7 l).2 hn hnl (by simp only;omega) (by omega) o3
  exact h
 ·have h:=h39_li7 ⟨8,R,st,0,out⟩ g _ _ inp _ _ cs 1 (by omega) d hp1 hx ho hc hcl (at_8 l).1 hk hkl (at_8 l).2 hn hnl (by simp only;omega) (by omega) o3
  exact h
 ·have h:=h39_li4 ⟨9,R,st,0,out⟩ g _ _ inp _ _ cs (28+l.length) (by omega) d hp1 hx ho hc hcl (at_9 l hl).1 hk hkl (at_9 l hl).2 hn hnl (by simp only;omega) (by omega) o3
  exact h
 ·have h:=h39_mov ⟨10,R,st,0,out⟩ g _ _ inp _ _ cs d hp1 hx ho hc hcl (at_10 l).1 hk hkl (at_10 l).2 hn hnl (by simp only;omega) (by omega) o3
  exact h
 ·have h:=Mu ⟨11,R,st,0,out⟩ g _ _ inp _ _ cs d hp1 hx ho hc hcl (at_11 l).1 hk hkl (at_11 l).2 hn hnl (by simp only;omega) (by omega) o3
  exact h
 ·have h:=Mu ⟨12,R,st,0,out⟩ g _ _ inp _ _ cs d hp1 hx ho hc hcl (at_12 l).1 hk hkl (at_12 l).2 hn hnl (by simp only;omega) (by omega) o3
  exact h
 ·obtain⟨j,hj,hjl⟩:=o10 rfl
  have h:=h39_ldc ⟨13,R,st,0,out⟩ g _ _ inp _ _ cs j hj hjl (by omega) d hp1 hx ho hc hcl (at_13 l).1 hk hkl (at_13 l).2 hn hnl (by simp only;omega) (by omega) o3
  have e:nx l ⟨13,R,st,0,out⟩=sR ⟨13,R,st,0,out⟩ 2 (mirC l)[j]:=by
   show sR _ 2 ((mirC l).getD (R 3).toNat 0)=_
   rw[hj,Int.toNat_natCast,List.getD_eq_getElem?_getD,List.getElem?_eq_getElem hjl];rfl
  rw[e]
  exact h
 ·have h:=Mu ⟨14,R,st,0,out⟩ g _ _ inp _ _ cs d hp1 hx ho hc hcl (at_14 l).1 hk hkl (at_14 l).2 hn hnl (by simp only;omega) (by omega) o3
  exact h
 ·have h:=h39_add ⟨15,R,st,0,out⟩ g _ _ inp _ _ cs o7 o9 d hp1 hx ho hc hcl (at_15 l).1 hk hkl (at_15 l).2 hn hnl (by simp only;omega) (by omega) o3
  exact h
 ·have h:=h39_lt ⟨16,R,st,0,out⟩ g _ _ inp _ _ cs o7 o8 d hp1 hx ho hc hcl (at_16 l).1 hk hkl (at_16 l).2 hn hnl (by simp only;omega) (by omega) o3
  exact h
 ·have h:=h39_jnz ⟨17,R,st,0,out⟩ g _ _ inp _ _ cs d hp1 hx ho hc hcl (at_17 l).1 hk hkl (at_17 l).2 hn hnl (by simp only;omega) (by omega) o3
  exact h
 ·have h:=Hla ⟨18,R,st,0,out⟩ g _ _ inp _ _ cs d hp1 hx ho hc hcl (at_18 l).1 hk hkl (at_18 l).2 hn hnl (by simp only;omega) (by omega) o3
  exact h
 ·have h:=Jk ⟨19,R,st,0,out⟩ g _ _ inp _ _ cs o4 o6.1 d hp1 hx ho hc hcl (at_19 l).1 hk hkl (at_19 l).2 hn hnl (by simp only;omega) (by omega) o3
  exact h
 ·have h:=Li ⟨20,R,st,0,out⟩ g _ _ inp _ _ cs o6 (o11 (by omega)) d hp1 hx ho hc hcl (at_20 l).1 hk hkl (at_20 l).2 hn hnl (by simp only;omega) (by omega) o3
  exact h
 ·have h:=Jk ⟨21,R,st,0,out⟩ g _ _ inp _ _ cs o4 o6.1 d hp1 hx ho hc hcl (at_21 l).1 hk hkl (at_21 l).2 hn hnl (by simp only;omega) (by omega) o3
  exact h
 ·have h:=Li ⟨22,R,st,0,out⟩ g _ _ inp _ _ cs o6 (o11 (by omega)) d hp1 hx ho hc hcl (at_22 l).1 hk hkl (at_22 l).2 hn hnl (by simp only;omega) (by omega) o3
  exact h
 ·have h:=Jk ⟨23,R,st,0,out⟩ g _ _ inp _ _ cs o4 o6.1 d hp1 hx ho hc hcl (at_23 l).1 hk hkl (at_23 l).2 hn hnl (by simp only;omega) (by omega) o3
  exact h
 ·have h:=Li ⟨24,R,st,0,out⟩ g _ _ inp _ _ cs o6 (o11 (by omega)) d hp1 hx ho hc hcl (at_24 l).1 hk hkl (at_24 l).2 hn hnl (by simp only;omega) (by omega) o3
  exact h
 ·have h:=Jk ⟨25,R,st,0,out⟩ g _ _ inp _ _ cs o4 o6.1 d hp1 hx ho hc hcl (at_25 l).1 hk hkl (at_25 l).2 hn hnl (by simp only;omega) (by omega) o3
  exact h
 ·have h:=Li ⟨26,R,st,0,out⟩ g _ _ inp _ _ cs o6 (o11 (by omega)) d hp1 hx ho hc hcl (at_26 l).1 hk hkl (at_26 l).2 hn hnl (by simp only;omega) (by omega) o3
  exact h
 ·obtain⟨q,hq,hq1⟩:=o12 rfl
  have h:=h39_ret ⟨27,R,st,0,out⟩ g _ _ inp _ _ cs q hq hq1 d hp1 hx ho hc hcl (at_27 l).1 hk hkl (at_27 l).2 hn hnl (by simp only;omega) (by omega) o3
  have e:nx l ⟨27,R,st,0,out⟩=⟨q,R,st+1,0,out⟩:=by
   show(⟨(R 15).toNat,R,st+1,0,out⟩:MS)=_
   rw[hq,Int.toNat_natCast]
  rw[e]
  exact h
end Go.Proofs.YtpmoibjpjlhcgaaGreatDoor.K
namespace Go.Proofs.YtpmoibjpjlhcgaaGreatDoor.K
open Go Go.Ab
attribute [-simp] Prog.bind getCs putCs
attribute [local simp ↓] run_bind
attribute [local simp ↓] Ax
attribute [local simp] Av As facetsC A5 A0 Bn facetsW facetsH
def RunR (t:MS)(rs:List AV):Prop:= ∃cs:List AV,rs=[.agg (iv t.pc::uv (t.R 0)::uv (t.R 1)::uv (t.R 2)::uv (t.R 3)::uv (t.R 4)::uv (t.R 5)::uv (t.R 6)::uv (t.R 7)::uv (t.R 8)::uv (t.R 9)::uv (t.R 10)::uv (t.R 11)::uv (t.R 12)::uv (t.R 13)::uv (t.R 14)::uv (t.R 15):: .vec 1 []::iv 0:: .sc (.string ⟨⟨toBytes t.out⟩⟩)::iv t.steps::iv t.en::[]),.vec 1 (cs.map fun x=>[x])]
theorem d34 (l:List Int)(hl:l.length<=60)(hU: ∀x∈l,U x)(inp:ByteArray)(fuel k:Nat)(t:MS)(hr:Run l ⟨0,fun _=>0,0,0,[]⟩ k t)(ht:t.en=1)(hk:k<fuel)(hf:fuel<=100000): ∃rs,(lim Tryz.prog E47 X47).dat 130 [.agg [.sl false 1 (rowW (mirC l)),iv 0],.sc (.string inp),.agg [iv 0,uv 0,uv 0,uv 0,uv 0,uv 0,uv 0,uv 0,uv 0,uv 0,uv 0,uv 0,uv 0,uv 0,uv 0,uv 0,uv 0,.sl false 1 [],iv 0,.sc (.string ⟨#[]⟩),iv 0,iv 0],iv fuel]=some rs/\RunR t rs:=by
 refine fnR Tryz.func130 rfl rfl X0 rfl Fwa rfl ?_
 have h38:=d38 (mirC l) 0 (by rw[Dy];omega) (Ts l hl hU)
 have hlen:=Dy l
 have hDl:(rowD (mirC l)).length=(mirC l).length:=by simp
 have hKl:(rowK (mirC l)).length=(mirC l).length:=by simp
 have n1:((mirC l).length:Int)*8<=140737488355328:=by omega
 have n2:((mirC l).length:Int)<=140737488355328:=by omega
 have n3:((mirC l).length:Int)<=9223372036854775807:=by omega
 generalize hD:rowD (mirC l)=RD at h38 hDl
 generalize hK:rowK (mirC l)=RK at h38 hKl
 clear hlen
 repeat' (first|refine ZN ?_|refine Z2 ?_ ?_|(intro h h';try simp[*,-h] at h'))
 refine Ah (n:=k) (fun s0 m s=> ∃(i:Nat) (st:MS) (g:Nat) (cs:List Int),i+m=k/\Run l st m t/\s.fr 14=iv i/\s.fr 13=s0.fr 13/\s.fr 3=s0.fr 3/\s.fr 8=s0.fr 8/\s.fr 9=s0.fr 9/\s.hp ⟨0,13,0⟩= .box 1 (bxc st g (mirC l).length (mirC l) inp) false/\s.hp ⟨0,13,23⟩= .arr g 1 5 (rowB st.out) false/\s.hp ⟨0,13,28⟩= .arr 2 1 3 (rowI cs) false/\cs.length=(mirC l).length/\ ∀y:Nm,y.d=0->y≠⟨0,13,0⟩->y≠⟨0,13,23⟩->y≠⟨0,13,28⟩->s.hp y=s0.hp y) ⟨0,_,2,List.replicate (mirC l).length 0,by simp,hr,by simp,by simp,by simp,by simp,by simp,by simp[bxc],by simp,by simp,by simp,fun y _ _ _ _=>rfl⟩ ?_
 rintro m ⟨fr,hp⟩ ⟨i,st,g,cs,him,hrun,hs14,hs13,hs3,hs8,hs9,hx,ho,hn,hnl,hfr⟩
 have hC:=hfr ⟨0,13,24⟩ rfl (by simp) (by simp) (by simp)
 have hKK:=hfr ⟨0,13,25⟩ rfl (by simp) (by simp) (by simp)
 have h18:=hfr ⟨0,13,18⟩ rfl (by simp) (by simp) (by simp)
 have h80:=hfr ⟨0,8,0⟩ rfl (by simp) (by simp) (by simp)
 have h818:=hfr ⟨0,8,18⟩ rfl (by simp) (by simp) (by simp)
 have h90:=hfr ⟨0,9,0⟩ rfl (by simp) (by simp) (by simp)
 simp at hs14 hs13 hs3 hs8 hs9 hC hKK h18 h80 h818 h90
 simp only at hx ho hn
 have hfr':=Lib.hid hfr
 clear hfr
 have hmf:(i:Int)<fuel:=by omega
 have hiw:=wrapN (k:=i) (by omega)
 cases m with
 |zero=>
  obtain rfl:st=t:=by cases hrun;rfl
  clear hr hrun hfr' him
  obtain⟨p,R,sn,en,out⟩:=st
  simp only at ht
  subst ht
  simp only[bxc] at hx
  simp only at ho
  have hbr:=D8 out
  have htk:(rowB out).take out.length=rowB out:=List.take_of_length_le (by simp)
  have htn:(rowI cs).take (mirC l).length=rowI cs:=List.take_of_length_le (by simp[hnl])
  have hnl2:(rowI cs).length=(mirC l).length:=by simp[hnl]
  repeat' (first|refine ZN ?_|refine Z2 ?_ ?_|(intro h h';try simp[*,-h] at h'))
  all_goals exact⟨cs.map iv,by simp⟩
 |succ m=>
  obtain⟨hok,r⟩:Ok l st/\Run l (nx l st) m t:=by cases hrun with|step h r=>exact⟨h,r⟩
  obtain⟨hp',g',cs',h39,hpo⟩:=h39 l hl st hok g inp cs 60 hp hx ho (by rw[hD];exact hC) (by rw[hK];exact hKK) hn hnl
  have hen:=hok.1
  have hpo':=Lib.hid hpo
  have r':=Lib.hid r
  clear hr hrun hpo r hok
  simp only[bxc,hen] at hx
  clear hen
  repeat' (first|refine ZN ?_|refine Z2 ?_ ?_|(intro h h';try simp[*,-h] at h'))
  obtain⟨q1,q2,q3,q4,q5⟩:=hpo'.out
  exact⟨m,by omega,i+1,nx l st,g',cs',by omega,r'.out,by simp[*],by simp[*],by simp[*],by simp[*],by simp[*],q1,q2,q3,q4,fun y y0 y1 y2 y3=>(q5 y y0 y1 y2 y3).trans (hfr'.out y y0 y1 y2 y3)⟩
end Go.Proofs.YtpmoibjpjlhcgaaGreatDoor.K
namespace Go.Proofs.YtpmoibjpjlhcgaaGreatDoor.K
open Go Go.Ab
theorem Aq {s:ByteArray}{i:Nat}(h:i<s.size): ∃B:UInt8,s.data[i]?=some B/\(B.toNat:Int)=A1 s i:=by
 have hlt:i<s.data.size:=h
 refine⟨s.data[i],Array.getElem?_eq_getElem hlt,?_⟩
 unfold A1
 rw[List.getD_eq_getElem?_getD,List.getElem?_eq_getElem (by simpa using hlt)]
 simp
theorem Qq (s:ByteArray)(i:Nat):U (wordAt s i):=Ez s i
theorem d20 (s:ByteArray)(at_:Nat)(hs:s.size<=1048576)(ha:at_+4<=s.size):(lim Tryz.prog E47 X47).dat 92 [.sc (.string s),iv at_]=some [uv (wordAt s at_)]:=by
 refine fnW Tryz.func92 rfl rfl Csa rfl rtys_92 rfl ?_
 obtain⟨B0,h0,e0⟩:=Aq (s:=s) (i:=at_) (by omega)
 obtain⟨B1,h1,e1⟩:=Aq (s:=s) (i:=at_+1) (by omega)
 obtain⟨B2,h2,e2⟩:=Aq (s:=s) (i:=at_+2) (by omega)
 obtain⟨B3,h3,e3⟩:=Aq (s:=s) (i:=at_+3) (by omega)
 have hB0:=B0.toNat_lt
 have hB1:=B1.toNat_lt
 have hB2:=B2.toNat_lt
 have hB3:=B3.toNat_lt
 have hW:wordAt s at_=B0.toNat+256*B1.toNat+65536*B2.toNat+16777216*B3.toNat:=by unfold wordAt;rw[<-e0,<-e1,<-e2,<-e3]
 rw[hW]
 clear e0 e1 e2 e3 hW
 have w1:IntKind.i64.wrap ((at_:Int)+1)=(at_:Int)+1:=Ag (by omega) (by omega)
 have w2:IntKind.i64.wrap ((at_:Int)+2)=(at_:Int)+2:=Ag (by omega) (by omega)
 have w3:IntKind.i64.wrap ((at_:Int)+3)=(at_:Int)+3:=Ag (by omega) (by omega)
 have p1:(0:Int)<=(at_:Int)+1:=by omega
 have p2:(0:Int)<=(at_:Int)+2:=by omega
 have p3:(0:Int)<=(at_:Int)+3:=by omega
 have t1:((at_:Int)+1).toNat=at_+1:=by omega
 have t2:((at_:Int)+2).toNat=at_+2:=by omega
 have t3:((at_:Int)+3).toNat=at_+3:=by omega
 have u0:IntKind.u32.wrap (B0.toNat:Int)=B0.toNat:=by rw[IntKind.wrap_u32];omega
 have u1:IntKind.u32.wrap (B1.toNat:Int)=B1.toNat:=by rw[IntKind.wrap_u32];omega
 have u2:IntKind.u32.wrap (B2.toNat:Int)=B2.toNat:=by rw[IntKind.wrap_u32];omega
 have u3:IntKind.u32.wrap (B3.toNat:Int)=B3.toNat:=by rw[IntKind.wrap_u32];omega
 have m1:IntKind.u32.wrap (256*(B1.toNat:Int))=256*B1.toNat:=by rw[IntKind.wrap_u32];omega
 have m2:IntKind.u32.wrap (65536*(B2.toNat:Int))=65536*B2.toNat:=by rw[IntKind.wrap_u32];omega
 have m3:IntKind.u32.wrap (16777216*(B3.toNat:Int))=16777216*B3.toNat:=by rw[IntKind.wrap_u32];omega
 have a1:IntKind.u32.wrap ((B0.toNat:Int)+256*B1.toNat)=B0.toNat+256*B1.toNat:=by rw[IntKind.wrap_u32];omega
 have a2:IntKind.u32.wrap ((B0.toNat:Int)+256*B1.toNat+65536*B2.toNat)=B0.toNat+256*B1.toNat+65536*B2.toNat:=by rw[IntKind.wrap_u32];omega
 have a3:IntKind.u32.wrap ((B0.toNat:Int)+256*B1.toNat+65536*B2.toNat+16777216*B3.toNat)=B0.toNat+256*B1.toNat+65536*B2.toNat+16777216*B3.toNat:=by rw[IntKind.wrap_u32];omega
 exact ZS
theorem Na {s:ByteArray}{i:Nat}(a:Nat)(h:a+i<s.size):A1 (s.extract a s.size) i=A1 s (a+i):=by
 unfold A1
 rw[ByteArray.data_extract]
 have:s.data.size=s.size:=rfl
 congr 2
 simp[List.getD_eq_getElem?_getD]
 rw[List.getElem?_take_of_lt (by omega),List.getElem?_drop]
 simp
theorem Ox (s:ByteArray)(h:12<=s.size):codeOf s=upto (fun k=>wordAt s (12+4*k)) ((s.size - 12)/4):=by
 have hsz:(s.extract 12 s.size).size=s.size - 12:=by rw[ByteArray.size_extract];omega
 unfold codeOf wordsOf
 rw[hsz]
 unfold upto
 refine List.map_congr_left fun k hk=>?_
 have hk:=List.mem_range.1 hk
 have e:=fun i (hi:12+i<s.size)=>Na (s:=s) (i:=i) 12 hi
 unfold wordAt
 rw[e _ (by omega),e _ (by omega),e _ (by omega),e _ (by omega)]
 rfl
theorem L6 {s:ByteArray}(h:12<=s.size):s.extract 0 4=⟨#[83,69,69,68]⟩↔A1 s 0=83/\A1 s 1=69/\A1 s 2=69/\A1 s 3=68:=by
 obtain⟨B0,h0,e0⟩:=Aq (s:=s) (i:=0) (by omega)
 obtain⟨B1,h1,e1⟩:=Aq (s:=s) (i:=1) (by omega)
 obtain⟨B2,h2,e2⟩:=Aq (s:=s) (i:=2) (by omega)
 obtain⟨B3,h3,e3⟩:=Aq (s:=s) (i:=3) (by omega)
 have hx:s.extract 0 4=⟨#[B0,B1,B2,B3]⟩:=by
  apply ByteArray.ext
  rw[ByteArray.data_extract]
  have hd:s.data.size=s.size:=rfl
  apply Array.ext
  ·simp;omega
  ·intro i i1 i2
   have i3:i<4:=by simpa using i2
   rw[Array.getElem_extract]
   have g:=fun j (hj:j<s.data.size)=>Array.getElem?_eq_getElem hj
   match i,i3 with
   |0,_=>simpa[g 0 (by omega)] using h0
   |1,_=>simpa[g 1 (by omega)] using h1
   |2,_=>simpa[g 2 (by omega)] using h2
   |3,_=>simpa[g 3 (by omega)] using h3
 rw[hx,<-e0,<-e1,<-e2,<-e3]
 have bi: ∀(B:UInt8) (n:Nat) (hn:n<256),(B.toNat:Int)=n↔B=UInt8.ofNat n:=fun B n hn=>by
  constructor
  ·intro h;apply UInt8.toNat_inj.1;simp;omega
  ·intro h;subst h;simp;omega
 constructor
 ·intro h
  simp only[ByteArray.mk.injEq] at h
  have:=congrArg Array.toList h
  simp at this
  obtain⟨rfl,rfl,rfl,rfl⟩:=this
  decide
 ·rintro⟨a,b,c,d⟩
  rw[(bi B0 83 (by omega)).1 a,(bi B1 69 (by omega)).1 b,(bi B2 69 (by omega)).1 c,(bi B3 68 (by omega)).1 d]
  rfl
end Go.Proofs.YtpmoibjpjlhcgaaGreatDoor.K
namespace Go.Proofs.YtpmoibjpjlhcgaaGreatDoor.K
open Go Go.Ab
def wordL (L:List UInt8)(i:Nat):Int:=((L.getD i 0).toNat:Int)+256*(L.getD (i+1) 0).toNat+65536*(L.getD (i+2) 0).toNat+16777216*(L.getD (i+3) 0).toNat
theorem Er (s:ByteArray)(i:Nat):wordAt s i=wordL s.data.toList i:=rfl
theorem Gr (A L:List UInt8)(i:Nat):wordL (A++L) (A.length+i)=wordL L i:=by
 have e: ∀j,(A++L).getD (A.length+j) 0=L.getD j 0:=fun j=>by
  simp[List.getD_eq_getElem?_getD,List.getElem?_append_right]
 unfold wordL
 rw[e i,Nat.add_assoc,e,Nat.add_assoc,e,Nat.add_assoc,e]
theorem Eb (l:List Int):(toBytes l).length=l.length:=by simp[toBytes]
theorem Fp (a b:List Int):toBytes (a++b)=toBytes a++toBytes b:=by simp[toBytes]
theorem Sn (w:Int)(l:List Int):bys (w::l)=b4 w++bys l:=rfl
theorem Vi (w:Int):((UInt8.ofNat (w%256).toNat).toNat:Int)=w%256:=by
 have:(w%256).toNat<256:=by omega
 simp;omega
theorem D5a {w:Int}(h:U w)(L:List UInt8):wordL (toBytes (b4 w)++L) 0=w:=by
 unfold wordL toBytes b4 at*
 simp only[List.map_cons,List.map_nil,List.cons_append,List.nil_append,Nat.zero_add,List.getD_cons_zero,List.getD_cons_succ,Vi]
 unfold U at h
 omega
theorem Aya (l:List Int)(h: ∀x∈l,U x)(T:List UInt8): ∀k (hk:k<l.length),wordL (toBytes (bys l)++T) (4*k)=l[k]:=by
 induction l with
 |nil=>intro k hk;simp at hk
 |cons w l ih=>
  intro k hk
  rw[Sn,Fp,List.append_assoc]
  cases k with
  |zero=>exact D5a (h w (List.mem_cons_self ..)) _
  |succ k=>
   have e:4*(k+1)=(toBytes (b4 w)).length+4*k:=by rw[Eb];simp[b4];omega
   rw[e,Gr]
   exact ih (fun x hx=>h x (List.mem_cons_of_mem _ hx)) k (by simpa using hk)
theorem Gs (l:List Int)(d:Int):(txtI l d).data.toList=[83,69,69,68]++toBytes (bys ((l.length:Int)::d::l)):=by
 unfold txtI txtW
 rw[ByteArray.data_append,ByteArray.data_append,Array.toList_append,Array.toList_append,List.append_assoc,<-Fp]
 rfl
theorem ba_ext {a b:ByteArray}(h:a.data.toList=b.data.toList):a=b:=by
 apply ByteArray.ext;exact Array.toList_inj.1 h
theorem Ek (a:ByteArray):a.size=a.data.toList.length:=rfl
theorem N4 (l:List Int)(d:Int):(txtI l d).size=12+4*l.length:=by
 rw[Ek,Gs,List.length_append,Eb,Ej]
 have e:([83,69,69,68]:List UInt8).length=4:=rfl
 have e2:((l.length:Int)::d::l).length=l.length+2:=rfl
 rw[e,e2];omega
theorem A4a (l:List Int)(d:Int)(hl:l.length<=16384)(hd:0<=d/\d<=32768)(hU: ∀x∈l,U x)(k:Nat)(hk:k<l.length+2):wordAt (txtI l d) (4+4*k)=((l.length:Int)::d::l)[k]:=by
 rw[Er,Gs,show 4+4*k=([83,69,69,68]:List UInt8).length+4*k from by simp,Gr]
 have:=Aya ((l.length:Int)::d::l) (fun x hx=>?_) [] k (by simpa using hk)
 ·rwa [List.append_nil] at this
 ·simp only[List.mem_cons] at hx
  rcases hx with rfl|rfl|hx
  ·unfold U;omega
  ·unfold U;omega
  ·exact hU x hx
theorem Hda (l:List Int)(d:Int)(hl:l.length<=16384)(hd:0<=d/\d<=32768)(hU: ∀x∈l,U x):imgB (txtI l d)=true/\codeOf (txtI l d)=l/\wordAt (txtI l d) 8=d:=by
 have hsz:=N4 l d
 have w:=A4a l d hl hd hU
 have w0:wordAt (txtI l d) 4=l.length:=w 0 (by omega)
 have w1:wordAt (txtI l d) 8=d:=w 1 (by omega)
 refine⟨(D6 _).2 ⟨by omega,?_,by omega,by omega,by omega⟩,?_,w1⟩
 ·rw[L6 (by omega)]
  unfold A1
  rw[Gs]
  exact⟨rfl,rfl,rfl,rfl⟩
 ·rw[Ox _ (by omega),hsz,show(12+4*l.length - 12)/4=l.length from by omega]
  apply List.ext_getElem
  ·simp[Ea]
  ·intro k h1 h2
   have e: ∀(f:Nat->Int) h,(upto f l.length)[k]'h=f k:=fun f h=>by simp[upto]
   rw[e]
   have:=w (k+2) (by omega)
   rw[show 12+4*k=4+4*(k+2) from by omega,this]
   rfl
end Go.Proofs.YtpmoibjpjlhcgaaGreatDoor.K
namespace Go.Proofs.YtpmoibjpjlhcgaaGreatDoor.K
open Go Go.Ab
theorem d9 (s:ByteArray)(hs:s.size<=1048576):(lim Tryz.prog E47 X47).dat 57 [.sc (.string s)]=some (readR s):=by
 refine fnW Tryz.func57 rfl rfl Dca rfl rtys_57 rfl ?_
 have hb1:IntKind.i64.wrap 12=12:=by decide+kernel
 by_cases c0:s.size<12
 ·have hr:readR s=[.agg [.vec 1 [],iv 0],iv 7]:=by
   unfold readR;rw[if_neg];intro h;have:=((D6 s).1 h).1;omega
  have c1:(s.size:Int)<12:=by omega
  rw[hr]
  exact ZS
 have c1: ¬(s.size:Int)<12:=by omega
 obtain⟨B0,h0,e0⟩:=Aq (s:=s) (i:=0) (by omega)
 obtain⟨B1,h1,e1⟩:=Aq (s:=s) (i:=1) (by omega)
 obtain⟨B2,h2,e2⟩:=Aq (s:=s) (i:=2) (by omega)
 obtain⟨B3,h3,e3⟩:=Aq (s:=s) (i:=3) (by omega)
 by_cases d:A1 s 0=83/\A1 s 1=69/\A1 s 2=69/\A1 s 3=68
 rotate_left
 ·have hr:readR s=[.agg [.vec 1 [],iv 0],iv 7]:=by
   unfold readR;rw[if_neg];intro h;exact d ((L6 (by omega)).1 ((D6 s).1 h).2.1)
  rw[hr]
  rw[<-e0,<-e1,<-e2,<-e3] at d
  clear e0 e1 e2 e3 hr
  by_cases g0:B0.toNat=83
  ·by_cases g1:B1.toNat=69
   ·by_cases g2:B2.toNat=69
    ·have g3: ¬B3.toNat=68:=fun g3=>d ⟨by omega,by omega,by omega,by omega⟩
     have k3: ¬(B3.toNat:Int)=68:=by omega
     clear d
     exact ZS
    ·have k2: ¬(B2.toNat:Int)=69:=by omega
     clear d
     exact ZS
   ·have k1: ¬(B1.toNat:Int)=69:=by omega
    clear d
    exact ZS
  ·have k0: ¬(B0.toNat:Int)=83:=by omega
   clear d
   exact ZS
 obtain⟨d0,d1,d2,d3⟩:=d
 have g0:B0.toNat=83:=by omega
 have g1:B1.toNat=69:=by omega
 have g2:B2.toNat=69:=by omega
 have g3:B3.toNat=68:=by omega
 have hseed:=(L6 (s:=s) (by omega)).2 ⟨d0,d1,d2,d3⟩
 clear e0 e1 e2 e3 d0 d1 d2 d3
 have h4:=d20 s 4 hs (by omega)
 have h8:=d20 s 8 hs (by omega)
 simp only[Int.cast_ofNat_Int] at h4 h8
 have u4:=Qq s 4
 have u8:=Qq s 8
 unfold U at u4 u8
 have hco:codeOf s=upto (fun k=>wordAt s (12+4*k)) ((s.size - 12)/4):=Ox s (by omega)
 have hR:readR s=if 32768<wordAt s 8\/16384<wordAt s 4\/ ¬(s.size:Int)=12+4*wordAt s 4 then[.agg [.vec 1 [],iv 0],iv 7] else[.agg [.vec 1 (rowW (codeOf s)),iv (wordAt s 8)],iv 0]:=by
  unfold readR
  by_cases hb:imgB s=true
  ·have hi:=(D6 s).1 hb
   rw[if_pos hb,if_neg]
   have:=hi.2.2.1
   have:=hi.2.2.2.1
   have:=hi.2.2.2.2
   omega
  ·rw[if_neg hb,if_pos]
   by_cases z1:32768<wordAt s 8
   ·exact .inl z1
   ·by_cases z2:16384<wordAt s 4
    ·exact .inr (.inl z2)
    ·right;right;intro z3
     exact hb ((D6 s).2 ⟨by omega,hseed,by omega,by omega,z3⟩)
 generalize hx4:wordAt s 4=x4 at h4 u4 hR
 generalize hx8:wordAt s 8=x8 at h8 u8 hR
 have w4:IntKind.i64.wrap x4=x4:=Ag (by omega) (by omega)
 have w8:IntKind.i64.wrap x8=x8:=Ag (by omega) (by omega)
 have m4:IntKind.i64.wrap (4*x4)=4*x4:=Ag (by omega) (by omega)
 have m12:IntKind.i64.wrap (12+4*x4)=12+4*x4:=Ag (by omega) (by omega)
 clear hseed hx4 hx8
 by_cases z2:16384<x4
 ·rw[if_pos (.inr (.inl z2))] at hR
  rw[hR]
  clear hR hco
  exact ZS
 by_cases z1:32768<x8
 ·rw[if_pos (.inl z1)] at hR
  rw[hR]
  clear hR hco
  exact ZS
 by_cases z3:(s.size:Int)=12+4*x4
 rotate_left
 ·rw[if_pos (.inr (.inr z3))] at hR
  rw[hR]
  clear hR hco
  exact ZS
 rw[if_neg (by omega)] at hR
 rw[hR,hco]
 obtain⟨n,hn⟩: ∃n:Nat,x4=n:=⟨x4.toNat,by omega⟩
 subst hn
 have hsz:s.size=12+4*n:=by omega
 rw[show(s.size - 12)/4=n by omega]
 have z4:((s.size:Int)!=12+4*(n:Int))=false:=by simp[z3]
 have Z3:=Lib.hid z3
 have HS:=Lib.hid hsz
 clear hR hco z3 hsz
 repeat' (first|refine ZN ?_|refine Z2 ?_ ?_|(intro h h';try simp[*,-h] at h'))
 refine Ah (n:=n) (fun s0 m q=> ∃k g:Nat,m=n - k/\k<=n/\q.fr 7=iv k/\q.fr 0=s0.fr 0/\q.fr 4=s0.fr 4/\q.fr 2=s0.fr 2/\q.fr 6=s0.fr 6/\q.hp ⟨0,2,0⟩=s0.hp ⟨0,2,0⟩/\q.hp ⟨0,2,1⟩=s0.hp ⟨0,2,1⟩/\q.hp ⟨0,6,0⟩= .box (s0.hp ⟨0,6,0⟩).gen [.own ⟨0,6,1⟩ g k,iv x8] false/\q.hp ⟨0,6,1⟩= .arr g 1 23 (rowW (upto (fun k=>wordAt s (12+4*k)) k)) false) ⟨0,2,by simp,by omega,by simp,by simp,by simp,by simp,by simp,by simp,by simp,by simp,by simp[upto]⟩ ?_
 rintro m ⟨fr,hp⟩ ⟨k,g,rfl,hk,hs7,hs0,hs4,hs2,hs6,hh2,hh21,hh6,hh61⟩
 simp at hs7 hs0 hs4 hs2 hs6 hh2 hh21 hh6 hh61
 have hul:(upto (fun k=>wordAt s (12+4*k)) k).length=k:=Ea _ _
 by_cases hlt:k<n
 ·have hw:=wrapN (k:=k) (by omega)
  have hlI:(k:Int)<n:=by omega
  have q4:IntKind.i64.wrap (4*(k:Int))=4*k:=Ag (by omega) (by omega)
  have q12:IntKind.i64.wrap (12+4*(k:Int))=12+4*(k:Int):=Ag (by omega) (by omega)
  have hd:=d20 s (12+4*k) hs (by have:=HS.out;omega)
  simp only[Int.natCast_add,Int.natCast_mul,Int.cast_ofNat_Int] at hd
  have hap:rowW (upto (fun k=>wordAt s (12+4*k)) k)++[[uv (wordAt s (12+4*k))]]=rowW (upto (fun k=>wordAt s (12+4*k)) (k+1)):=by rw[Jv];simp
  have b1:(k+1)*4<=140737488355328:=by omega
  have b2:k<=9223372036854775806:=by omega
  repeat' (first|refine ZN ?_|refine Z2 ?_ ?_|(intro h h';try simp[*,-h] at h'))
  exact⟨_,by omega,k+1,g+1,rfl,hlt,by simp,by simp[*],by simp[*],by simp[*],by simp[*],by simp[*],by simp[*],by simp[*],by simp[*]⟩
 ·obtain rfl:k=n:=by omega
  have htk:(rowW (upto (fun k=>wordAt s (12+4*k)) k)).take k=rowW (upto (fun k=>wordAt s (12+4*k)) k):=List.take_of_length_le (by simp[hul])
  exact ZS
end Go.Proofs.YtpmoibjpjlhcgaaGreatDoor.K
namespace Go.Proofs.YtpmoibjpjlhcgaaGreatDoor.K
open Go Go.Ab
attribute [-simp] Prog.bind getCs putCs
attribute [local simp ↓] run_bind
attribute [local simp ↓] Ax
attribute [local simp] Av As facetsC A5 A0 Bn facetsW facetsH
theorem d27 (l:List Int)(hl:l.length<=60)(hU: ∀x∈l,U x)(inp:ByteArray)(fuel k:Nat)(t:MS)(hr:Run l ⟨0,fun _=>0,0,0,[]⟩ k t)(ht:t.en=1)(hk:k<fuel)(hf:fuel<=100000):(lim Tryz.prog E47 X47).dat 93 [.agg [.sl false 1 (rowW (mirC l)),iv 0],.sc (.string inp),.agg [iv 0,uv 0,uv 0,uv 0,uv 0,uv 0,uv 0,uv 0,uv 0,uv 0,uv 0,uv 0,uv 0,uv 0,uv 0,uv 0,uv 0,.sl false 1 [],iv 0,.sc (.string ⟨#[]⟩),iv 0,iv 0],iv fuel]=some [.agg (iv t.pc::uv (t.R 0)::uv (t.R 1)::uv (t.R 2)::uv (t.R 3)::uv (t.R 4)::uv (t.R 5)::uv (t.R 6)::uv (t.R 7)::uv (t.R 8)::uv (t.R 9)::uv (t.R 10)::uv (t.R 11)::uv (t.R 12)::uv (t.R 13)::uv (t.R 14)::uv (t.R 15):: .vec 1 []::iv 0:: .sc (.string ⟨⟨toBytes t.out⟩⟩)::iv t.steps::iv t.en::[])]:=by
 refine fnW Tryz.func93 rfl rfl Cra rfl rtys_93 rfl ?_
 obtain⟨rs,h34,cs,rfl⟩:=d34 l hl hU inp fuel k t hr ht hk hf
 clear hr
 repeat' (first|refine ZN ?_|refine Z2 ?_ ?_|(intro h h';try simp[*,-h] at h'))
 all_goals rw[ht]
theorem d21 (l:List Int)(hl:l.length<=60)(hU: ∀x∈l,U x)(inp:ByteArray)(fuel k:Nat)(t:MS)(hr:Run l ⟨0,fun _=>0,0,0,[]⟩ k t)(ht:t.en=1)(hk:k<fuel)(hf:fuel<=100000):(lim Tryz.prog E47 X47).dat 58 [.agg [.sl false 1 (rowW (mirC l)),iv 0],.sc (.string inp),iv fuel]=some [.agg [iv 1,.sc (.string ⟨⟨toBytes t.out⟩⟩),iv t.steps]]:=by
 refine fnW Tryz.func58 rfl rfl Dba rfl rtys_58 rfl ?_
 have h27:=d27 l hl hU inp fuel k t hr ht hk hf
 have h28:=d28 (mirC l)
 simp at h28
 rw[ht] at h27
 clear hr
 exact ZS
theorem d11 (l:List Int)(hl:l.length<=60)(hU: ∀x∈l,U x)(inp:ByteArray):(lim Tryz.prog E47 X47).dat 30 [.sc (.string (txtI (mirC l) 0)),.sc (.string inp)]=some [bv true]:=by
 refine fnW Tryz.func30 rfl rfl Dna rfl rtys_30 rfl ?_
 have hlen:=Dy l
 obtain⟨t,hr,ht,ho⟩:=Ti l hl hU
 obtain⟨fuel,hfu⟩: ∃fuel,fuel=100*(mirC l).length+1000:=⟨_,rfl⟩
 have h21:=d21 l hl hU inp fuel _ t hr ht (by omega) (by omega)
 obtain⟨i1,i2,i3⟩:=Hda (mirC l) 0 (by omega) (by omega) (Ts l hl hU)
 have h9:=d9 (txtI (mirC l) 0) (by rw[N4];omega)
 unfold readR at h9
 rw[if_pos i1,i2,i3] at h9
 have hout:(⟨⟨toBytes t.out⟩⟩:ByteArray)=txtI (mirC l) 0:=by
  apply ba_ext
  rw[Gs,ho]
  simp[Fp,Sn,toBytes]
 rw[hout] at h21
 clear hr ho i1 i2 i3 hout
 have w1:IntKind.i64.wrap (100*((mirC l).length:Int))=100*((mirC l).length:Int):=Ag (by omega) (by omega)
 have w2:IntKind.i64.wrap (100*((mirC l).length:Int)+1000)=fuel:=by rw[Ag (by omega) (by omega)];omega
 have htk:(rowW (mirC l)).take (mirC l).length=rowW (mirC l):=List.take_of_length_le (by simp)
 clear hlen hfu ht
 generalize txtI (mirC l) 0=T at*
 exact ZS
end Go.Proofs.YtpmoibjpjlhcgaaGreatDoor.K
