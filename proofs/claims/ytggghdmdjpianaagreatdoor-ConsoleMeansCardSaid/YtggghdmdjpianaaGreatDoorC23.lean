/- A part of the proof: Ab39. -/
import Derived.Test.YtggghdmdjpianaaGreatDoorC14
set_option linter.unusedSimpArgs false
set_option linter.unusedVariables false
namespace Go.Ab
section
open Go
variable {st:AS}{v:AV}{a:Act}{args:Array Operand}{ats:Array TypeId}{B:jZ}{hp':Hp}{cs:List AV}{k N f:Nat}{x:Operand}{w:World}
section
variable {P:Program}{K:Nat->Prop}
theorem Kna{o:Oper}{next:Act→World→Prop}{Q:Exit→Act→World→Prop}(hc:sG P k f (args.toList.map (Uy st.fr)++cs) st.hp v hp')
  (ho:o.op= .call ⟨.value x,args,ats⟩) (hx:Uy st.fr x= .fn f cs) (Uz:Il P f=true) (Ii:f<1000000) (hd: ∀d,o.dst=some d→d<N) (S:aX k N K B st a w) (hQ: ∀a' w',aX k N K B ⟨Uw st.fr o.dst v,hp'⟩ a' w'→next a' w'):o.wp P a w next Q:=by
 obtain⟨I,m,G,E0,hf,hs,rX⟩:=S;have eY:=D0 G hf;have sY:=eY x;rw[hx] at sY;simp only[Ie] at sY;obtain⟨us,hu,cB⟩:=sY;simp only[sW,Ka Ii] at hu;have pR:Ue (Ie k I m st.hp w) (args.toList.map (Uy st.fr)) (args.toList.map a.eval):=by
  refine⟨Zi,fun j x u h1 h2=>?_⟩;rw[qY] at h1 h2
  cases hj:args.toList[j]? with
  |none=>rw[hj] at h1;cases h1
  |some z=>rw[hj] at h1 h2;cases h1;cases h2;exact eY z
 have cU:=pR.append ((Ae _ _).1 cB);have fV:=hc Uz I K m w _ G cU;have DG:(⟨args.toList.map a.eval++us⟩:Array Value)=args.map a.eval++⟨us⟩:=by apply sI;simp
 rw[DG] at fV;unfold Il at Uz
 split at Uz
 ·rename_i fn kI
  simp only[Ed,zC] at Uz;have Uk:(execOp a.eval o).run P w= .ok (.enter f (args.map a.eval++⟨us⟩)) w:=by
   have hb:fn.body≠none:=fun hq=>by simp[hq] at Uz
   have uG:fn.name≠ "runtime.NumGoroutine" :=by simpa using Uz.2
   obtain⟨dst,op,type,pos,after,guard⟩:=o;simp only at ho;subst ho;simp[execOp,resolve,hu,Deferred.ofValue,invoke,callFunc,kI,uG,hb]
  unfold Oper.wp;rw[Uk];refine fV.mono fun e w' he=>?_
  obtain⟨u,rfl,I',m',G',E',R'⟩:=he;refine hQ _ w' ⟨I',m',G',E0.trans E',fun t=>?_,?_,?_⟩
  ·cases DC:o.dst with
   |none=>exact Ie.mono E' _ _ _ (hf t)
   |some d=>
    rw[G7 _ _ _ _ (by rw[show a.tmps.size=N from hs];exact hd d (by first|rfl|exact DC))];simp only[Uw]
    split
    ·exact R'
    ·exact Ie.mono E' _ _ _ (hf t)
  ·cases DC:o.dst with
   |none=>exact hs
   |some d=>rw[Eu];exact hs
  ·cases DC:o.dst with
   |none=>exact rX
   |some d=>exact rX
 ·cases Uz
theorem Tb {E:cD}{call:aS}(hE:dS P E)(hC:Av P call){id:Nat}{Q:Exit->Act->World->Prop}{st':AS}{pre:List Oper}{dd:Option Nat}{ty:TypeId}{pos:String}{aft:Array Edge}
  (hs:Im N (.region id (pre++[(⟨dd,.call ⟨.value x,args,ats⟩,ty,pos,aft,none⟩:Oper)]).toArray false)=true) (S:aX k N K B st a w)
  (h:cW P E k call (pre++[(⟨dd,.call ⟨.value x,args,ats⟩,ty,pos,aft,none⟩:Oper)]).toArray pre st=some st') (hx:Uy st'.fr x= .fn f cs) (Uz:Il P f=true) (Ii:f<1000000) (hc:sG P k f (args.toList.map (Uy st'.fr)++cs) st'.hp v hp')
  (hQ: ∀a' w',aX k N K B ⟨Uw st'.fr dd v,hp'⟩ a' w'->Q .normal a' w'):(Code.region id (pre++[(⟨dd,.call ⟨.value x,args,ats⟩,ty,pos,aft,none⟩:Oper)]).toArray false).wp P Q a w:=by
 refine vA ?_;have hd:=B8 hs;have aZ:(pre++[(⟨dd,.call ⟨.value x,args,ats⟩,ty,pos,aft,none⟩:Oper)]).toArray.size=pre.length+1:=Zi;rw[aZ,Acj,List.range'_1_concat];simp only[mH];refine Ey hE hC pre 0 (fun j hj=>by simp[Acz,hj]) (fun o ho=>hd o (by simp[ho])) S h (fun a' w' S'=>?_);simp only[wpOps];have h0:(pre++[(⟨dd,.call ⟨.value x,args,ats⟩,ty,pos,aft,none⟩:Oper)]).toArray[pre.length]?=some ⟨dd,.call ⟨.value x,args,ats⟩,ty,pos,aft,none⟩:=Zi;rw[h0];simp only[Region.wanted,iW];exact .inl (Kna hc rfl hx Uz Ii (fun d hdd=>hd ⟨dd,.call ⟨.value x,args,ats⟩,ty,pos,aft,none⟩ Zi d hdd) S' fun a2 w2 S2=>hQ a2 w2 S2)
end
end
end Go.Ab
