/- A part of the proof: Ab38. -/
import Derived.Test.YtggghdmdjpianaaGreatDoorC12
set_option linter.unusedSimpArgs false
set_option linter.unusedVariables false
namespace Go.Ab
section
open Go
variable {a:Act}{B:jZ}{Q:Exit->Act->World->Prop}{hp hp1:Hp}{idx:List Nat}{l:List Oper}{c c1 k N id:Nat}{fr frF:Nat->AV}{w:World}
section
variable {P:Program}{E:cD}{call:aS}{K:Nat->Prop}
theorem S9 (hm:P.follows .mixedOrders=true)(hE:dS P E)(hC:Av P call){f:Nat}{dd:Option Nat}{x:Operand}{args:Array Operand}{ats:Array TypeId}{ty:TypeId}{pos:String}{aft:Array Edge}{cs:List AV}{v:Value}{hp':Hp}
  (mW:Cy l.toArray c=true) (hcw:((waits l.toArray.toList []).getD c 0).testBit c1=true) (hi:((List.range l.toArray.size).filter fun j=>Ce l.toArray c j)=idx) (jD:eS P E k call c1 hp hp1 (idx.map fun j=>(j,l.toArray.getD j default)) fr frF) (hc:l.toArray[c]?=some ⟨dd,.call ⟨.value x,args,ats⟩,ty,pos,aft,none⟩)
  (hx:Uy frF x= .fn f cs) (Uz:Il P f=true) (Ii:f<1000000) (lY:B7 P k f (args.toList.map (Uy frF)++cs) hp1 v hp') (hs:Im N (.region id l.toArray true)=true) (S:aX k N K B ⟨fr,hp⟩ a w)
  (hQ: ∀cur a' w',(∀t,(∀o∈l,o.dst≠some t)->cur t=fr t)->aX k N K B ⟨cur,hp'⟩ a' w'->Q (.panic (iN v)) a' w'):(Code.region id l.toArray true).wp P Q a w:=by
 refine Li hm hE hC mW (.inr hcw) (by unfold pK;rw[hi];exact jD) hc rfl (fun cur a w next oM lW _ S'=>?_) (B8 hs) S;have rO:Uy cur x= .fn f cs:=by rw[<-hx];exact oM x (by simp[Op.operands,Call.operands])
 have sS:args.toList.map (Uy cur)=args.toList.map (Uy frF):=GJ fun y hy=>oM y (by simp[Op.operands,Call.operands];exact .inr (by simpa using hy))
 exact Bta (st:=⟨cur,hp1⟩) (by rw[sS];exact lY) rfl rO Uz Ii S' fun a' w' S''=>hQ cur a' w' (fun t ht=>lW t (by simpa using ht)) S''
theorem Ta (hm:P.follows .mixedOrders=true)(hE:dS P E)(hC:Av P call){If:Hp}{oc:Oper}{v:AV}
  (mW:Cy l.toArray c=true) (hcw:((waits l.toArray.toList []).getD c 0).testBit c1=true) (cU: ∀j,j<l.toArray.size->j≠c->((waits l.toArray.toList []).getD c 0).testBit j=true) (hi:((List.range l.toArray.size).filter fun j=>Ce l.toArray c j)=idx) (jD:eS P E k call c1 hp hp1 (idx.map fun j=>(j,l.toArray.getD j default)) fr frF) (hc:l.toArray[c]?=some oc) (hg:oc.guard=none)
  (hr:(bL P E k call frF oc).run hp1=some (v,If)) (hs:Im N (.region id l.toArray true)=true) (S:aX k N K B ⟨fr,hp⟩ a w)
  (hQ: ∀a' w',aX k N K B ⟨Uw frF oc.dst v,If⟩ a' w'->Q .normal a' w'):(Code.region id l.toArray true).wp P Q a w:=by
 refine Li hm hE hC mW (.inr hcw) (by unfold pK;rw[hi];exact jD) hc hg (fun cur a w next oM lW hcur S'=>?_) (B8 hs) S;obtain⟨h1,h2⟩:=hcur cU;have hcf:cur=frF:=funext h1;subst hcf;exact(S'.op hE hC (B8 hs oc (by have:=Acs hc;simpa using this)) hr).wp fun u w' S''=>h2 _ _ (hQ _ _ S'')
end
end
end Go.Ab
