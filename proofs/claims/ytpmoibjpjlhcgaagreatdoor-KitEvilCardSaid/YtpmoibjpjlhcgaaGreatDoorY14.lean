/- A part of the proof: Ab28, Ab34. -/
import Derived.Test.YtpmoibjpjlhcgaaGreatDoorY03
import Derived.RangeFuncLeaves
import Derived.RangeFuncNested
import Derived.Test.YtpmoibjpjlhcgaaGreatDoorY05
import Derived.Recover
set_option linter.unusedSimpArgs false
set_option linter.unusedVariables false
namespace Go.Ab
open Go Go.RowKit
section
variable {P:Program}{K:Nat->Prop}{k N:Nat}{B:Base}{E:Cfg}{call:Orc}
theorem W.wp (hm:P.follows .mixedOrders=true)(hE:ELaw P E)(hC:Ba P call){c:Code}{st:AS}{R:Ex->AS->Prop}(h:W P E k call c st R)(hs:slotsIn N c=true){a:Act}{w:World}(S:StR k N K B st a w)
  {Q:Exit->Act->World->Prop} (hQ: ∀e s a' w',R e s->StR k N K B s a' w'->Q (exOf e) a' w')
  (hP: ∀v hp' a' w',R (.panic v) ⟨fun _=> .any,hp'⟩->PanR K B hp' a' w'->Q (.panic (panE v)) a' w':=by intro v hp' a' w' hR;exact(nomatch hR.1)):c.wp P Q a w:=by
 rcases Bw h with⟨n,e,st',h1,_,h2⟩|⟨n,v,hp',h1,h2⟩
 ·exact B6 hm hE hC n c hs S h1 fun a' w' S'=>hQ e st' a' w' h2 S'
 ·exact Ps hm hE hC n _ v hp' h1 N K B Q a w hs S fun a' w' hR=>hP v hp' a' w' h2 hR
/-! ### a world in which some other block is changed -/
/-! ### the rounds -/
/-! ### code that calls yield -/
end
end Go.Ab
namespace Go.Ab
open Go
section
variable {P:Program}{E:Cfg}{call:Orc}{K:Nat->Prop}{k N:Nat}{B:Base}
theorem pan_opS {k N f:Nat}{B:Base}{st:AS}{a:Act}{w:World}{o:Oper}{x:Operand}{args:Array Operand}{ats:Array TypeId}{cs:List AV}{v:Value}{hp':Hp}{next:Act→World→Prop}{Q:Exit→Act→World→Prop}(hc:De P k f (args.toList.map (opA st.fr)++cs) st.hp v hp')
  (ho:o.op= .call ⟨.value x,args,ats⟩) (hx:opA st.fr x= .fn f cs) (hok:okFn P f=true) (hlt:f<1000000) (S:StR k N K B st a w) (hQ: ∀a' w',StR k N K B ⟨st.fr,hp'⟩ a' w'→Q (.panic (panE v)) a' w'):o.wp P a w next Q:=by
 obtain⟨I,m,G,E0,hf,hs,hdf⟩:=S
 have hop:=Fx G hf
 have hxr:=hop x
 rw[hx] at hxr
 simp only[Rep] at hxr
 obtain⟨us,hu,hcs⟩:=hxr
 simp only[mkFn,if_pos hlt] at hu
 have hall0:AllR (Rep k I m st.hp w) (args.toList.map (opA st.fr)) (args.toList.map a.eval):=by
  refine⟨by simp,fun j x u h1 h2=>?_⟩
  rw[List.getElem?_map] at h1 h2
  cases hj:args.toList[j]? with
  |none=>rw[hj] at h1;cases h1
  |some z=>rw[hj] at h1 h2;cases h1;cases h2;exact hop z
 have hall:=hall0.append ((Ai _ _).1 hcs)
 have hcalls:=hc I K m w _ hok G hall
 have harr:(⟨args.toList.map a.eval++us⟩:Array Value)=args.map a.eval++⟨us⟩:=by apply Array.ext';simp
 rw[harr] at hcalls
 unfold okFn at hok
 split at hok
 ·rename_i fn hfn
  simp only[Bool.and_eq_true,Bool.not_eq_true'] at hok
  have hrun:(execOp a.eval o).run P w= .ok (.enter f (args.map a.eval++⟨us⟩)) w:=by
   have hb:fn.body≠none:=fun hq=>by simp[hq] at hok
   have hnm:fn.name≠ "runtime.NumGoroutine" :=by simpa using hok.2
   obtain⟨dst,op,type,pos,after,guard⟩:=o
   simp only at ho
   subst ho
   simp[execOp,resolve,hu,Deferred.ofValue,invoke,callFunc,hfn,hnm,hb]
  unfold Oper.wp
  rw[hrun]
  refine hcalls.mono fun e w' he=>?_
  obtain⟨rfl,I',m',G',E'⟩:=he
  exact hQ a w' ⟨I',m',G',E0.trans E',fun t=>Rep.mono E' _ _ _ (hf t),hs,hdf⟩
 ·cases hok
theorem Hm (hE:ELaw P E)(hC:Ba P call){all:Array Oper}{Q:Exit->Act->World->Prop}{L:List Nat}: ∀(os:List Oper) (n:Nat) {st st':AS} {a:Act} {w:World},(∀j,j<os.length->os[j]?=all[n+j]?)->(∀o∈os,∀x,o.dst=some x->x<N)->
  StR k N K B st a w->evOps P E k call all os st=some st'->(∀a' w',StR k N K B st' a' w'->wpOps P all Q L a' w')->wpOps P all Q (List.range' n os.length++L) a w
 |[],n,st,st',a,w,_,_,S,h,hQ=>by
  simp only[evOps,Option.some.injEq] at h
  subst h
  simpa using hQ a w S
 |o::os,n,st,st',a,w,hl,hd,S,h,hQ=>by
  have h0:all[n]?=some o:=by simpa using(hl 0 (by simp)).symm
  have hl': ∀j,j<os.length->os[j]?=all[n+1+j]?:=fun j hj=>by have:=hl (j+1) (by simpa using hj);simpa[Nat.add_assoc,Nat.add_comm 1 j] using this
  have hd': ∀o∈os,∀x,o.dst=some x->x<N:=fun p hp=>hd p (List.mem_cons_of_mem _ hp)
  have hdo:=hd o (List.mem_cons_self ..)
  simp only[evOps] at h
  simp only[List.length_cons,List.range'_succ,List.cons_append,wpOps,h0]
  split at h
  ·rename_i hg
   rw[S.guard hg,if_pos rfl]
   split at h
   ·rename_i v hp hr
    refine .inl ((S.op hE hC hdo hr).wp fun u w' S'=>?_)
    exact Hm hE hC os (n+1) hl' hd' S' h hQ
   ·cases h
  ·rename_i hg
   rw[S.guard hg]
   simp only[Bool.false_eq_true,if_false]
   exact Hm hE hC os (n+1) hl' hd' (S.skip hdo) h hQ
  ·cases h
theorem Kn (hE:ELaw P E)(hC:Ba P call){Q:Exit->Act->World->Prop}{st st':AS}{a:Act}{w:World}{id f:Nat}{pre:List Oper}{dd:Option Nat}{x:Operand}{args:Array Operand}{ats:Array TypeId}{ty:TypeId}{pos:String}{aft:Array Edge}{cs:List AV}{v:Value}{hp':Hp}
  (hs:slotsIn N (.region id (pre++[(⟨dd,.call ⟨.value x,args,ats⟩,ty,pos,aft,none⟩:Oper)]).toArray false)=true) (S:StR k N K B st a w)
  (h:evOps P E k call (pre++[(⟨dd,.call ⟨.value x,args,ats⟩,ty,pos,aft,none⟩:Oper)]).toArray pre st=some st') (hx:opA st'.fr x= .fn f cs) (hok:okFn P f=true) (hlt:f<1000000) (hc:De P k f (args.toList.map (opA st'.fr)++cs) st'.hp v hp')
  (hQ: ∀a' w',StR k N K B ⟨st'.fr,hp'⟩ a' w'->Q (.panic (panE v)) a' w'):(Code.region id (pre++[(⟨dd,.call ⟨.value x,args,ats⟩,ty,pos,aft,none⟩:Oper)]).toArray false).wp P Q a w:=by
 refine wp_region ?_
 have hd:=Fq hs
 have hsz:(pre++[(⟨dd,.call ⟨.value x,args,ats⟩,ty,pos,aft,none⟩:Oper)]).toArray.size=pre.length+1:=by simp
 rw[hsz,List.range_eq_range',List.range'_1_concat]
 simp only[Nat.zero_add]
 refine Hm hE hC pre 0 (fun j hj=>by simp[List.getElem?_append,hj]) (fun o ho=>hd o (by simp[ho])) S h (fun a' w' S'=>?_)
 simp only[wpOps]
 have h0:(pre++[(⟨dd,.call ⟨.value x,args,ats⟩,ty,pos,aft,none⟩:Oper)]).toArray[pre.length]?=some ⟨dd,.call ⟨.value x,args,ats⟩,ty,pos,aft,none⟩:=by simp
 rw[h0]
 simp only[Region.wanted,if_true]
 exact .inl (pan_opS hc rfl hx hok hlt S' hQ)
end
def chain :List Code->Code->Code
 |[],y=>y
 |c::cs,y=> .seq c (chain cs y)
section
variable {P:Program}{K:Nat->Prop}{k N:Nat}{B:Base}{E:Cfg}{call:Orc}
def Wch (P:Program)(E:Cfg)(k:Nat)(call:Orc)(R:Ex->AS->Prop)(F:AS->Prop):List Code->AS->Prop
 |[],s=>F s
 |c::cs,s=>W P E k call c s (thenW (Wch P E k call R F cs) R)
theorem Wch.wp (hm:P.follows .mixedOrders=true)(hE:ELaw P E)(hC:Ba P call){R:Ex->AS->Prop}{F:AS->Prop}{y:Code}{Q:Exit->Act->World->Prop}
  (hF: ∀s a' w',F s->StR k N K B s a' w'->y.wp P Q a' w') (hR: ∀e s a' w',e≠ .normal->R e s->StR k N K B s a' w'->Q (exOf e) a' w')
  (hP: ∀v hp' a' w',R (.panic v) ⟨fun _=> .any,hp'⟩->PanR K B hp' a' w'->Q (.panic (panE v)) a' w'):
  ∀(cs:List Code) {st:AS} {a:Act} {w:World},Wch P E k call R F cs st->(∀c∈cs,slotsIn N c=true)->StR k N K B st a w->(chain cs y).wp P Q a w
 |[],st,a,w,h,_,S=>hF st a w h S
 |c::cs,st,a,w,h,hs,S=>by
  refine wp_seq ?_
  refine W.wp hm hE hC h (hs c (by simp)) S (fun e s a' w' h1 S'=>?_) (fun v hp' a' w' h1 hp=>?_)
  ·cases e with
   |normal=>exact Wch.wp hm hE hC hF hR hP cs h1 (fun c hc=>hs c (by simp[hc])) S'
   |exit i=>exact hR (.exit i) s a' w' (by simp) h1 S'
   |ret=>exact hR .ret s a' w' (by simp) h1 S'
   |panic v=>exact hR (.panic v) s a' w' (by simp) h1 S'
  ·exact hP v hp' a' w' h1 hp
theorem W.pick {c:Code}{st:AS}{R:Ex->AS->Prop}(h:W P E k call c st R): ∃e s',W P E k call c st (fun e1 s1=>e1=e/\s1=s')/\R e s':=by
 obtain⟨e,s',h1,h2⟩:=h
 exact⟨e,s',⟨e,s',h1,rfl,rfl⟩,h2⟩
theorem Wch.pick {R:Ex->AS->Prop}{F:AS->Prop}: ∀(cs:List Code) {st:AS},Wch P E k call R F cs st->
  ∃e s',Wch P E k call (fun e1 s1=>e1=e/\s1=s') (fun s1=>s1=s'/\e= .normal) cs st/\((e= .normal/\F s')\/(e≠ .normal/\R e s'))
 |[],st,h=>⟨.normal,st,⟨rfl,rfl⟩,.inl ⟨rfl,h⟩⟩
 |c::cs,st,h=>by
  obtain⟨e1,s1,h1,h2⟩:=h
  cases e1 with
  |normal=>
   obtain⟨e,s',h3,h4⟩:=Wch.pick cs h2
   exact⟨e,s',⟨.normal,s1,h1,h3⟩,h4⟩
  |exit i=>exact⟨.exit i,s1,⟨.exit i,s1,h1,rfl,rfl⟩,.inr ⟨by simp,h2⟩⟩
  |ret=>exact⟨.ret,s1,⟨.ret,s1,h1,rfl,rfl⟩,.inr ⟨by simp,h2⟩⟩
  |panic v=>exact⟨.panic v,s1,⟨.panic v,s1,h1,rfl,rfl⟩,.inr ⟨by simp,h2⟩⟩
end
end Go.Ab
