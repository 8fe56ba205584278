/- A part of the proof: Ab28, Ab34. -/
import Derived.Test.YtpedpkegmalgmaaGreatDoorZ02
import Derived.RangeFuncLeaves
import Derived.RangeFuncNested
import Derived.Test.YtpedpkegmalgmaaGreatDoorZ04
import Derived.Recover
set_option linter.unusedSimpArgs false
set_option linter.unusedVariables false
namespace Go.Ab
section
open Go Go.RowKit
section
variable {P:Program}{K:Nat→Prop}{k N:Nat}{B:Base}{E:Cfg}{call:Orc}
theorem W.wp (hm:P.follows .mixedOrders=true)(hE:ELaw P E)(hC:OrcOk P call){c:Code}{st:AS}{R:Ex→AS→Prop}(h:W P E k call c st R)(hs:slotsIn N c=true){a:Act}{w:World}(S:StR k N K B st a w)
  {Q:Exit→Act→World→Prop} (hQ: ∀e s a' w',R e s→StR k N K B s a' w'→Q (exOf e) a' w')
  (hP: ∀v hp' a' w',R (.panic v) ⟨fun _=> .any,hp'⟩→PanR K B hp' a' w'→Q (.panic (panE v)) a' w':=by intro v hp' a' w' hR;exact(nomatch hR.1)):c.wp P Q a w:=by
 rcases W_cases h with⟨n,e,st',h1,_,h2⟩|⟨n,v,hp',h1,h2⟩
 ·exact evC_ok hm hE hC n c hs S h1 fun a' w' S'=>hQ e st' a' w' h2 S'
 ·exact pan_ok hm hE hC n _ v hp' h1 N K B Q a w hs S fun a' w' hR=>hP v hp' a' w' h2 hR
theorem W.wpIn (hm:P.follows .mixedOrders=true)(hE:ELaw P E)(hC:OrcOk P call){c:Code}{st:AS}{R:Ex→AS→Prop}(h:W P E k call c st R)(hs:slotsIn N c=true){a:Act}{w:World}(S:StR k N K B st a w)
  {Q:Exit→Act→World→Prop} {n:Nat} (hQ: ∀e s a' w',R e s→StR k N K B s a' w'→Q (exOf e) a' w')
  (hP: ∀v hp' a' w',R (.panic v) ⟨fun _=> .any,hp'⟩→PanR K B hp' a' w'→Q (.panic (panE v)) a' w':=by intro v hp' a' w' hR;exact(nomatch hR.1)):c.wpIn Fence.wide n P Q a w:=
 wpIn_wide.2 (W.wp hm hE hC h hs S hQ hP)
theorem wpIn_loopN {F:Fence}{n:Nat}{c:Code}{Q:Exit→Act→World→Prop}{a:Act}{w:World}(I:Nat→Act→World→Prop){j:Nat}(h0:I j a w)
  (round: ∀j a w,I j a w→c.wpIn F n P (Exit.then (fun a' w'=> ∃i,i<j∧I i a' w') Q) a w):(Code.loop c).wpIn F n P Q a w:=by
 refine wpIn_loop (fun a w=> ∃j,I j a w) (fun a w=>least fun j=>I j a w) ⟨j,h0⟩ ?_
 intro a w h
 obtain⟨h1,_⟩:=least_spec (p:=fun j=>I j a w) h
 refine wpIn_mono (round _ a w h1) ?_
 intro e a' w' hq
 cases e with
 |normal=>
  obtain⟨i,hi,h⟩:=hq
  exact⟨⟨i,h⟩,Nat.lt_of_le_of_lt ((least_spec (p:=fun j=>I j a' w') ⟨i,h⟩).2 i h) hi⟩
 |_=>exact hq
/-! ### a world in which some other block is changed -/
theorem Gam.lessK {I K K':Nat→Prop}{m:Mp}{hp:Hp}{w:World}(G:Gam I K' m hp w)(h: ∀b,K b→K' b):Gam I K m hp w where
 obj:=fun x=>by
  have ho:=G.obj x
  cases hx:hp x with
  |no g=>trivial
  |box g cells fz=>
   rw[hx] at ho
   obtain⟨b,c,us,T,mk,h1,h2,h3,h4,h5,h6⟩:=ho
   exact⟨b,c,us,T,mk,h1,h2,h3,h4,h5,fun hf=>⟨(h6 hf).1,fun hk=>(h6 hf).2 (h b hk)⟩⟩
  |arr g sz e rows fz=>
   rw[hx] at ho
   rcases ho with ho|⟨b,cap,us,mk,h1,h2,h3,h4,h5,h6,h7,h8,h9⟩
   ·exact .inl ho
   ·exact .inr ⟨b,cap,us,mk,h1,h2,h3,h4,h5,h6,h7,h8,fun hf=>⟨(h9 hf).1,fun hk=>(h9 hf).2 (h b hk)⟩⟩
  |map g ag ks rows fz=>
   rw[hx] at ho
   obtain⟨b,c,es,clock,h1,h2,h3,h4,h5,h6⟩:=ho
   exact⟨b,c,es,clock,h1,h2,h3,h4,h5,fun hf=>⟨(h6 hf).1,fun hk=>(h6 hf).2 (h b hk)⟩⟩
 inj:=G.inj
 ilt:=G.ilt
 klt:=fun b hb=>G.klt b (h b hb)
 ik:=fun b hb hk=>G.ik b hb (h b hk)
 gl:=G.gl
theorem Gam.moreK {I K K2:Nat→Prop}{m:Mp}{hp:Hp}{w:World}(G:Gam I K m hp w)(h1: ∀b,K2 b→b<w.heap.size)(h2: ∀b,K2 b→ ¬I b)(h3: ∀b,K2 b→(∀us T mk,w.heap[b]?≠some (.cells us T mk))∧ ∀es c,w.heap[b]?≠some (.map es c)):
  Gam I (fun b=>K b∨K2 b) m hp w where
 obj:=fun x=>by
  have ho:=G.obj x
  cases hx:hp x with
  |no g=>trivial
  |box g cells fz=>
   rw[hx] at ho
   obtain⟨b,c,us,T,mk,o1,o2,o3,o4,o5,o6⟩:=ho
   exact⟨b,c,us,T,mk,o1,o2,o3,o4,o5,fun hf=>⟨(o6 hf).1,fun hk=>hk.elim (o6 hf).2 fun hk=>(h3 b hk).1 us T mk o2⟩⟩
  |arr g sz e rows fz=>
   rw[hx] at ho
   rcases ho with ho|⟨b,cap,us,mk,o1,o2,o3,o4,o5,o6,o7,o8,o9⟩
   ·exact .inl ho
   ·exact .inr ⟨b,cap,us,mk,o1,o2,o3,o4,o5,o6,o7,o8,fun hf=>⟨(o9 hf).1,fun hk=>hk.elim (o9 hf).2 fun hk=>(h3 b hk).1 us e mk o2⟩⟩
  |map g ag ks rows fz=>
   rw[hx] at ho
   obtain⟨b,c,es,clock,o1,o2,o3,o4,o5,o6⟩:=ho
   exact⟨b,c,es,clock,o1,o2,o3,o4,o5,fun hf=>⟨(o6 hf).1,fun hk=>hk.elim (o6 hf).2 fun hk=>(h3 b hk).2 es clock o2⟩⟩
 inj:=G.inj
 ilt:=G.ilt
 klt:=fun b hb=>hb.elim (G.klt b) (h1 b)
 ik:=fun b hb hk=>hk.elim (G.ik b hb) fun hk=>h2 b hk hb
 gl:=G.gl
theorem Ext.lessK {I K K' I':Nat→Prop}{m m':Mp}{hp hp':Hp}{w w':World}(E:Ext I K' m hp w I' m' hp' w')(h: ∀b,K b→K' b):Ext I K m hp w I' m' hp' w':=
 ⟨E.isub,fun b hb=>E.keep b (hb.imp id (h b)),E.size,E.os,E.tape,E.output,E.gmono,E.stable⟩
theorem Ext.wx {I K:Nat→Prop}{m:Mp}{hp:Hp}{w w':World}(X:WX I K w w'):Ext I K m hp w I m hp w':=
 {isub:=fun _ h=>h,keep:=X.keep,size:=X.size,os:=X.os,tape:=X.tape,output:=X.output,gmono:=fun _=>Nat.le_refl _,stable:=fun x _=>(by cases hp x<;>simp<;>exact⟨_,_,⟨rfl,rfl⟩,Nat.le_refl _⟩)}
theorem Gam.world' {I K:Nat→Prop}{m:Mp}{hp:Hp}{w w':World}(G:Gam I K m hp w)(hold: ∀b,LiveB m hp b→w'.heap[b]?=w.heap[b]?)(X:WX I K w w'):Gam I K m hp w'∧Ext I K m hp w I m hp w':=by
 refine⟨Gam.step G (Ext.wx X) (fun _=>False) (fun y _=>⟨rfl,rfl⟩) (fun y h=>h.elim) (fun y _ hl q hq=>hold _ ⟨y,q,hl,hq,rfl⟩) (fun y _ hl _ q hq hn hI=>hn hI) G.inj (fun b hb=>Nat.lt_of_lt_of_le (G.ilt b hb) X.size) G.ik,Ext.wx X⟩
theorem Gam.liveCells {I K:Nat→Prop}{m:Mp}{hp:Hp}{w:World}(G:Gam I K m hp w){b:Nat}(h:LiveB m hp b):(∃us T mk,w.heap[b]?=some (.cells us T mk))∨ ∃es c,w.heap[b]?=some (.map es c):=by
 obtain⟨x,p,hl,hp0,rfl⟩:=h
 have ho:=G.obj x
 cases hx:hp x with
 |no g=>rw[hx] at hl;simp[AObj.live] at hl
 |box g cells fz=>
  rw[hx] at ho
  obtain⟨b,c,us,T,mk,o1,o2,_⟩:=ho
  rw[o1] at hp0;cases hp0
  exact .inl ⟨us,T,mk,o2⟩
 |arr g sz e rows fz=>
  rw[hx] at ho
  rcases ho with⟨ho,_⟩|⟨b,cap,us,mk,o1,o2,_⟩
  ·rw[ho] at hp0;cases hp0
  ·rw[o1] at hp0;cases hp0
   exact .inl ⟨us,e,mk,o2⟩
 |map g ag ks rows fz=>
  rw[hx] at ho
  obtain⟨b,c,es,clock,o1,o2,_⟩:=ho
  rw[o1] at hp0;cases hp0
  exact .inr ⟨es,clock,o2⟩
theorem Gam.putObj {I K:Nat→Prop}{m:Mp}{hp:Hp}{w:World}(G:Gam I K m hp w){l:Nat}{r:Obj}(hr:w.heap[l]?=some r)(hc:r.isCells=false)(hi: ¬I l)(hk: ¬K l)(o:Obj)(hc2: ∀es c,r≠ .map es c:=by nofun):
  Gam I K m hp (w.putObj l o)∧Ext I K m hp w I m hp (w.putObj l o):=by
 refine G.world' (fun b hb=>?_) ⟨fun b hb=>?_,by simp[World.putObj],rfl,rfl,rfl⟩
 ·refine World.putObj_heap_other fun e=>?_
  subst e
  rcases G.liveCells hb with⟨us,T,mk,h⟩|⟨es,c,h⟩
  ·rw[hr] at h;cases h;simp[Obj.isCells] at hc
  ·rw[hr] at h;cases h;exact hc2 _ _ rfl
 ·refine World.putObj_heap_other fun e=>?_
  subst e
  exact hb.elim hi hk
theorem Gam.alloc' {I K:Nat→Prop}{m:Mp}{hp:Hp}{w:World}(G:Gam I K m hp w)(o:Obj):Gam I K m hp (w.alloc o)∧Ext I K m hp w I m hp (w.alloc o):=by
 refine G.world' (fun b hb=>?_) (WX.alloc o G.ilt G.klt)
 obtain⟨x,p,hl,hp0,rfl⟩:=hb
 have:=G.blk hl hp0
 exact(Below.heap_alloc w o p.1 this)
theorem putObj_back {w:World}{l:Nat}{r o:Obj}(h:w.heap[l]?=some r):(w.putObj l o).putObj l r=w:=by
 have e:(w.heap.setIfInBounds l o).setIfInBounds l r=w.heap:=by
  apply Array.ext'
  apply List.ext_getElem?
  intro i
  rw[Array.getElem?_toList,Array.getElem?_toList]
  by_cases hi:i=l
  ·subst hi
   have hlt:=(Array.getElem?_eq_some_iff.1 h).1
   rw[h]
   simp[hlt]
  ·rw[Array.getElem?_setIfInBounds_ne (Ne.symm hi),Array.getElem?_setIfInBounds_ne (Ne.symm hi)]
 unfold World.putObj
 simp only[e]
/-! ### the rounds -/
def Idle (n:Nat)(r:Loop):Prop:=r.state= .ready∧r.pending=none∧r.params.size=n∧r.assign= .skip∧ ∃id,r.body= .block id .skip
theorem idle_yield {n l:Nat}{r:Loop}{args:Array Value}{w:World}(h:w.heap[l]?=some (.loop r))(hi:Idle args.size r):YieldAt Fence.wide n P l args w (fun e w'=>e= .returned (.bool true)∧w'=w):=by
 obtain⟨h1,h2,h3,h4,id,h5⟩:=hi
 refine⟨_,_,_,_,run_yield h h3.symm,?_⟩
 rw[h4,h5]
 have hlt:=(Array.getElem?_eq_some_iff.1 h).1
 have hl:(w.putObj l (.loop {r with state:= .busy})).heap[l]?=some (.loop {r with state:= .busy}):=World.putObj_heap_same hlt
 refine roundIn_of_wpIn trivial (wpIn_skip ⟨_,run_beginRound h h1,wpIn_block (wpIn_skip ⟨_,_,run_endRound none hl,rfl,?_⟩)⟩)
 have e:({{r with state:= .busy} with state:=if (none:Option Code).isNone then .ready else .done,pending:=none}:Loop)=r:=by
  cases r with
  |_=>simp only at h1 h2;subst h1 h2;rfl
 rw[e]
 exact putObj_back h
/-! ### code that calls yield -/
def YlOk (E:Cfg)(K:Nat→Prop)(w:World):Prop:= ∀l,E.yl l=true→K l∧ ∃r,w.heap[l]?=some (.loop r)∧Idle 1 r
def isYl (E:Cfg)(fr:Nat→AV)(o:Oper):Prop:= ∃x args ats l,o.op= .call ⟨.value x,args,ats⟩∧opA fr x= .sc (.func (.yield l) #[] #[])∧E.yl l=true∧args.size=1
theorem evOp_dry {fr:Nat→AV}{o:Oper}{v:AV}{hp hp':Hp}(h:(evOp P E k call fr o).run hp=some (v,hp')):(evOp P E.dry k call fr o).run hp=some (v,hp')∨(isYl E fr o∧v= .sc (.bool true)∧hp'=hp):=by
 obtain⟨dst,op,type,pos,after,guard⟩:=o
 unfold evOp at h⊢
 cases op<;>simp only at h⊢
 case call c=>
  obtain⟨callee,args,ats⟩:=c
  simp only at h⊢
  split at h
  ·left;exact h
  ·left;exact h
  ·left;exact h
  ·left;exact h
  ·left;exact h
  ·rename_i x
   split at h
   ·left
    exact h
   ·rename_i l a b hx
    split at h
    ·rename_i hc
     obtain⟨hc,hl,ha,hb⟩:=hc
     simp only[Prog.run,Option.some.injEq,Prod.mk.injEq] at h
     have ha:=Array.eq_empty_of_size_eq_zero ha
     have hb:=Array.eq_empty_of_size_eq_zero hb
     subst ha hb
     right
     exact⟨⟨x,args,ats,l,rfl,hx,hc,by simpa using hl⟩,h.1.symm,h.2.symm⟩
    ·simp[Prog.run] at h
   ·simp[Prog.run] at h
  ·simp[Prog.run] at h
 case makeFunc fn first caps=>cases fn<;>exact .inl h
 case makeMap t r=>cases r<;>exact .inl h
 all_goals exact .inl h
def OpRY (P:Program)(o:Oper)(a:Act)(w:World)(Post:Value→World→Prop):Prop:=
 match (execOp a.eval o).run P w with
 | .ok (.value u) w'=>Post u w'
 | .ok .skip w'=>Post undef w'
 | .ok (.enter f args) w'=>Calls P f args w' fun e w''=> ∃u,e= .returned u∧Post u w''
 | .ok (.round l f tmps assign body) w'=>RoundIn Fence.wide 0 P l f tmps assign body w' fun e w''=> ∃u,e= .returned u∧Post u w''
 |_=>False
theorem OpR.y {o:Oper}{a:Act}{w:World}{Post:Value→World→Prop}(h:OpR P o a w Post):OpRY P o a w Post:=by
 unfold OpR at h
 unfold OpRY
 split at h
 ·rename_i he;rw[he];exact h
 ·rename_i he;rw[he];exact h
 ·rename_i he;rw[he];exact h
 ·exact h.elim
theorem OpRY.wp {o:Oper}{a:Act}{w:World}{Post:Value→World→Prop}(h:OpRY P o a w Post){next:Act→World→Prop}{Q:Exit→Act→World→Prop}(hn: ∀u w',Post u w'→next (a.put o.dst u) w'):o.wpIn Fence.wide 0 P a w next Q:=by
 refine⟨fun _ _=>trivial,?_⟩
 unfold OpRY at h
 rw[show Fence.wide.round=none from rfl,Oper.semAt_none]
 split at h
 ·rename_i u w' he;rw[he];exact hn _ _ h
 ·rename_i w' he;rw[he];exact hn _ _ h
 ·rename_i f args w' he
  rw[he]
  refine⟨fun h=>by simp[Fence.wide] at h,(callsIn_wide.2 h).mono ?_⟩
  rintro e w'' ⟨u,rfl,h2⟩
  exact hn _ _ h2
 ·rename_i l f tmps assign body w' he
  rw[he]
  refine⟨fun h=>by simp[Fence.wide] at h,h.mono ?_⟩
  rintro e w'' ⟨u,rfl,h2⟩
  exact hn _ _ h2
 ·exact h.elim
theorem StR.opY (hE:EqLaw P E.eq)(hC:OrcOk P call)(hY:YlOk E K B.w){st:AS}{a:Act}{w:World}(S:StR k N K B st a w){o:Oper}{v:AV}{hp':Hp}(hd: ∀x,o.dst=some x→x<N)(h:(evOp P E k call st.fr o).run st.hp=some (v,hp')):
  OpRY P o a w (fun u w'=>StR k N K B ⟨setd st.fr o.dst v,hp'⟩ (a.put o.dst u) w'):=by
 rcases evOp_dry h with h|⟨⟨x,args,ats,l,ho,hx,hl,hsz⟩,rfl,rfl⟩
 ·exact(StR.op (ELaw.dry hE) hC S hd h).y
 ·obtain⟨hk,r,hr,hi⟩:=hY l hl
  obtain⟨I,m,G,E0,hf,hs,hdf⟩:=S
  have hr':w.heap[l]?=some (.loop r):=(E0.keep l (.inr hk)).trans hr
  have hxv:=opA_ok G hf x
  rw[hx] at hxv
  simp only[Rep] at hxv
  obtain⟨fn,tmps,assign,body,hy,hR⟩:=idle_yield (P:=P) (n:=0) (args:=args.map a.eval) hr' (by simpa[hsz] using hi)
  have hrun:(execOp a.eval o).run P w= .ok (.round l fn tmps assign body) w:=by
   obtain⟨dst,op,type,pos,after,guard⟩:=o
   simp only at ho
   subst ho
   simp[execOp,resolve,Deferred.ofValue,hxv,invoke,hy]
  unfold OpRY
  rw[hrun]
  refine hR.mono ?_
  rintro e w' ⟨rfl,rfl⟩
  exact⟨_,rfl,I,m,G,E0,setd_ok hf (by simp only[Rep]) (fun x hx=>by rw[hs];exact hd x hx),by rw[put_size];exact hs,by rw[put_defers];exact hdf⟩
theorem evOps_okY (hE:EqLaw P E.eq)(hC:OrcOk P call)(hY:YlOk E K B.w){all:Array Oper}{Q:Exit→Act→World→Prop}: ∀(os:List Oper) (n:Nat) {st st':AS} {a:Act} {w:World},(∀j,os[j]?=all[n+j]?)→(∀o∈os,∀x,o.dst=some x→x<N)→
  StR k N K B st a w→evOps P E k call all os st=some st'→(∀a' w',StR k N K B st' a' w'→Q .normal a' w')→wpOpsIn Fence.wide 0 P all Q (List.range' n os.length) a w
 |[],n,st,st',a,w,_,_,S,h,hQ=>by
  simp only[evOps,Option.some.injEq] at h
  subst h
  exact hQ a w S
 |o::os,n,st,st',a,w,hl,hd,S,h,hQ=>by
  have h0:all[n]?=some o:=by simpa using(hl 0).symm
  have hl': ∀j,os[j]?=all[n+1+j]?:=fun j=>by have:=hl (j+1);simpa[Nat.add_assoc,Nat.add_comm 1 j] using this
  have hd': ∀o∈os,∀x,o.dst=some x→x<N:=fun p hp=>hd p (List.mem_cons_of_mem _ hp)
  have hdo:=hd o (List.mem_cons_self ..)
  simp only[evOps] at h
  simp only[List.length_cons,List.range'_succ,wpOpsIn,h0]
  split at h
  ·rename_i hg
   rw[S.guard hg,if_pos rfl]
   split at h
   ·rename_i v hp hr
    exact(S.opY hE hC hY hdo hr).wp fun u w' S'=>evOps_okY hE hC hY os (n+1) hl' hd' S' h hQ
   ·cases h
  ·rename_i hg
   rw[S.guard hg]
   simp only[Bool.false_eq_true,if_false]
   exact⟨fun _ _=>trivial,evOps_okY hE hC hY os (n+1) hl' hd' (S.skip hdo) h hQ⟩
  ·cases h
theorem evC_okY (hm:P.follows .mixedOrders=true)(hE:EqLaw P E.eq)(hC:OrcOk P call)(hY:YlOk E K B.w): ∀(n:Nat) (c:Code) {Q:Exit→Act→World→Prop} {st st':AS} {e:Ex} {a:Act} {w:World},slotsIn N c=true→StR k N K B st a w→evC P E k call n c st=some (e,st')→
  (∀a' w',StR k N K B st' a' w'→Q (exOf e) a' w')→c.wpIn Fence.wide 0 P Q a w
 |0,c,Q,st,st',e,a,w,_,_,h,_=>by simp[evC] at h
 |n+1,c,Q,st,st',e,a,w,hs,S,h,hQ=>by
  cases c with
  |skip=>
   simp only[evC,Option.some.injEq,Prod.mk.injEq] at h
   obtain⟨rfl,rfl⟩:=h
   exact wpIn_skip (hQ a w S)
  |label l=>
   simp only[evC,Option.some.injEq,Prod.mk.injEq] at h
   obtain⟨rfl,rfl⟩:=h
   exact wpIn_label (hQ a w S)
  |region id ops d=>
   simp only[evC] at h
   cases hr:evRegion P E k call ops d st with
   |none=>rw[hr] at h;cases h
   |some s=>
    rw[hr] at h
    simp only[Option.map_some,Option.some.injEq,Prod.mk.injEq] at h
    obtain⟨rfl,rfl⟩:=h
    have hds: ∀o∈ops.toList,∀x,o.dst=some x→x<N:=fun o ho x hx=>by
     simp only[slotsIn,List.all_eq_true,Bool.and_eq_true] at hs
     have:=(hs o ho).1
     rw[hx] at this
     simpa using this
    cases d with
    |true=>
     have hr':evRegion P E.dry k call ops true st=some s:=hr
     exact wpIn_wide.2 (evRegion_ok hm (ELaw.dry hE) hC hds S hr' hQ)
    |false=>
     refine wpIn_region ?_
     have:=evOps_okY hE hC hY (Q:=Q) ops.toList 0 (by simp) hds S hr hQ
     rwa [Array.length_toList,←List.range_eq_range'] at this
  |seq x y=>
   simp only[slotsIn,Bool.and_eq_true] at hs
   simp only[evC] at h
   split at h
   ·rename_i s h1
    exact wpIn_seq (evC_okY hm hE hC hY n x hs.1 S h1 fun a' w' S'=>evC_okY hm hE hC hY n y hs.2 S' h hQ)
   ·rename_i hne
    refine wpIn_seq (evC_okY hm hE hC hY n x hs.1 S h fun a' w' S'=>?_)
    have:=hQ a' w' S'
    cases e with
    |normal=>exact(hne st' h).elim
    |exit id=>exact this
    |ret=>exact this
    |panic v=>exact this
  |cond c x y=>
   simp only[slotsIn,Bool.and_eq_true] at hs
   simp only[evC] at h
   split at h
   ·rename_i t ht
    have hc:a.eval c= .bool t:=by
     obtain⟨I,m,G,E0,hf,hsz,hdf⟩:=S
     have:=opA_ok G hf c
     rw[ht] at this
     simpa only[Rep] using this
    refine wpIn_cond hc ?_
    cases t with
    |true=>exact evC_okY hm hE hC hY n x hs.1.2 S (by simpa using h) hQ
    |false=>exact evC_okY hm hE hC hY n y hs.2 S (by simpa using h) hQ
   ·cases h
  |block id x=>
   simp only[slotsIn] at hs
   simp only[evC] at h
   split at h
   ·rename_i i s h1
    refine wpIn_block (evC_okY hm hE hC hY n x hs S h1 fun a' w' S'=>?_)
    simp only[exOf,Exit.inBlock]
    split at h
    ·rename_i hi
     simp only[Option.some.injEq,Prod.mk.injEq] at h
     obtain⟨rfl,rfl⟩:=h
     rw[if_pos hi]
     exact hQ a' w' S'
    ·rename_i hi
     simp only[Option.some.injEq,Prod.mk.injEq] at h
     obtain⟨rfl,rfl⟩:=h
     rw[if_neg hi]
     exact hQ a' w' S'
   ·rename_i hne
    refine wpIn_block (evC_okY hm hE hC hY n x hs S h fun a' w' S'=>?_)
    have:=hQ a' w' S'
    cases e with
    |normal=>exact this
    |exit i=>exact(hne i st' h).elim
    |ret=>exact this
    |panic v=>exact this
  |loop x=>
   simp only[slotsIn] at hs
   refine wpIn_loopN (I:=fun g a w=> ∃s,g≤n+1∧StR k N K B s a w∧evC P E k call g (.loop x) s=some (e,st')) (j:=n+1) ⟨st,Nat.le_refl _,S,h⟩ ?_
   rintro g a w ⟨s,hg,S,h⟩
   cases g with
   |zero=>simp[evC] at h
   |succ g'=>
    have hlt:g'<n+1:=by omega
    simp only[evC] at h
    split at h
    ·rename_i s1 h1
     exact evC_okY hm hE hC hY g' x hs S h1 fun a' w' S'=>⟨g',Nat.lt_succ_self _,s1,by omega,S',h⟩
    ·rename_i hne
     refine evC_okY hm hE hC hY g' x hs S h fun a' w' S'=>?_
     have:=hQ a' w' S'
     cases e with
     |normal=>exact(hne st' h).elim
     |exit i=>exact this
     |ret=>exact this
     |panic v=>exact this
  |scope x=>
   simp only[slotsIn] at hs
   simp only[evC] at h
   exact wpIn_wide.2 (wp_scope_straight (wpIn_wide.1 (evC_okY hm hE hC hY n x hs S h fun a' w' S'=>by have:=hQ a' w' S';cases e<;>exact this)))
  |exit id=>
   simp only[evC,Option.some.injEq,Prod.mk.injEq] at h
   obtain⟨rfl,rfl⟩:=h
   exact wpIn_exit (hQ a w S)
  |ret=>
   simp only[evC,Option.some.injEq,Prod.mk.injEq] at h
   obtain⟨rfl,rfl⟩:=h
   exact wpIn_ret (hQ a w S)
  |_=>simp[evC] at h
termination_by n=>n
theorem iter_ok {f:Nat}{fn:Func}{c:Code}(hfn:P.funcs[f]?=some fn)(hb:fn.body=some c)(hbo:bodyOk fn=true)(hres:fn.results= #[]){l:Nat}{caps:List AV}{us:List Value}(hlen:caps.length+1=fn.params.size+fn.nfree)
  {I:Nat→Prop} {m:Mp} {hp:Hp} {w:World} (G:Gam I K m hp w) (ha:AllR (Rep k I m hp w) caps us) {HP:Hp→Prop}
  (hm:P.follows .mixedOrders=true) (hE:EqLaw P E.eq) (hC:OrcOk P call) (hY:YlOk E K w)
  (walk:W P E (k+1) call c ⟨frame0 (.sc (.func (.yield l) #[] #[])::caps),hp⟩ (fun e s=>(e= .normal∨e= .ret)∧HP s.hp)):
  CallsIn Fence.wide 0 P f (#[.func (.yield l) #[] #[]]++⟨us⟩) w (fun e w'=>(∃u,e= .returned u)∧ ∃hp',HP hp'∧ ∃I' m',Gam I' K m' hp' w'∧Ext I K m hp w I' m' hp' w'):=by
 have hbo':=hbo
 unfold bodyOk at hbo
 rw[hb] at hbo
 simp only[Bool.and_eq_true,decide_eq_true_eq] at hbo
 obtain⟨⟨hs1,hs2⟩,hs3⟩:=hbo
 have hus:us.length+1=fn.params.size+fn.nfree:=by rw[←ha.1];exact hlen
 have ha2:AllR (Rep k I m hp w) (.sc (.func (.yield l) #[] #[])::caps) (.func (.yield l) #[] #[]::us):= .cons (by simp only[Rep]) ha
 have e0:(#[.func (.yield l) #[] #[]]++⟨us⟩:Array Value)=⟨.func (.yield l) #[] #[]::us⟩:=by simp
 rw[e0]
 refine callsIn_of_wp hfn hb trivial ?_
 have S0:StR (k+1) fn.ntmps K ⟨I,m,hp,w,[]⟩ ⟨frame0 (.sc (.func (.yield l) #[] #[])::caps),hp⟩ {tmps:=(⟨.func (.yield l) #[] #[]::us⟩:Array Value)++Array.replicate (fn.ntmps - (⟨.func (.yield l) #[] #[]::us⟩:Array Value).size) undef,defers:=[]} w:=by
  refine⟨I,m,G,.refl _ _ _ _ _,fun t=>frame_ok (ha2.imp fun a u h=>Rep.depth (Nat.le_succ k) a u h) t,?_,rfl⟩
  simp only[Array.size_append,List.size_toArray,Array.size_replicate,List.length_cons]
  omega
 obtain⟨g,e,s,hev,he,hs⟩: ∃g e s,evC P E (k+1) call g c ⟨frame0 (.sc (.func (.yield l) #[] #[])::caps),hp⟩=some (e,s)∧(e= .normal∨e= .ret)∧HP s.hp:=by
  rcases W_cases walk with⟨g,e,s,h1,_,h2⟩|⟨g,v,hp',_,h2⟩
  ·exact⟨g,e,s,h1,h2⟩
  ·exact(h2.1.elim nofun nofun)
 refine evC_okY hm hE hC hY g c hs1 S0 hev ?_
 intro a' w' S
 obtain⟨I1,m1,G1,E1,hf1,_,hd1⟩:=S
 have hrun:(results fn a'.tmps).run P w'= .ok (retV []) w':=run_results fn _ [] (by rw[hres];rfl)
 have hfin:a'.defers=[]∧ ∃v',(results fn a'.tmps).run P w'= .ok v' w'∧((∃u,Ending.returned v'= .returned u)∧ ∃hp',HP hp'∧ ∃I' m',Gam I' K m' hp' w'∧Ext I K m hp w I' m' hp' w'):=
  ⟨hd1,_,hrun,⟨_,rfl⟩,_,hs,I1,m1,G1,E1⟩
 rcases he with rfl|rfl
 ·exact hfin
 ·exact hfin
theorem range_idle {g:Operand}{ps:Array Tmp}{id f:Nat}{fn:Func}{caps:List AV}{st:AS}{a:Act}{w:World}(hf:P.funcs[f]?=some fn)(hst: ∀args w,(callFunc f args).run P w= .ok (.enter f args) w)
  (S:StR k N K B st a w) (hg:opA st.fr g= .fn f caps) {HP:Hp→Prop} (hlt:f<1000000)
  (it: ∀(l:Nat) (r:Loop) (I K':Nat→Prop) (m:Mp) (us:List Value) (w1:World),Gam I K' m st.hp w1→AllR (Rep k I m st.hp w1) caps us→K' l→w1.heap[l]?=some (.loop r)→Idle ps.size r→
   CallsIn Fence.wide 0 P f (#[.func (.yield l) #[] #[]]++⟨us⟩) w1 (fun e w'=>(∃u,e= .returned u)∧ ∃hp',HP hp'∧ ∃I' m',Gam I' K' m' hp' w'∧Ext I K' m st.hp w1 I' m' hp' w'))
  {Q:Exit→Act→World→Prop}
  (hQ: ∀(D:Nat) (I':Nat→Prop) (m':Mp) (hp':Hp) (a':Act) (w':World),HP hp'→w'.heap[D]?=some (.deferred (some []))→ ¬I' D→ ¬K D→Ext B.I K B.m B.hp B.w I' m' hp' w'→
   StR k N (fun b=>K b∨b=D) ⟨I',m',hp',w',{target:= .collected D,args:= #[]}::B.df⟩ ⟨st.fr,hp'⟩ a' w'→Q .normal a' w'):
  (Code.rangeFunc g ps .skip (.block id .skip)).wpIn Fence.wide 0 P Q a w:=by
 obtain⟨I,m,G,E0,hfr,hs,hdf⟩:=S
 have hr:=opA_ok G hfr g
 rw[hg] at hr
 simp only[Rep] at hr
 obtain⟨us,hu,hus⟩:=hr
 simp only[mkFn,if_pos hlt] at hu
 have hus:=(RepL_iff _ _).1 hus
 refine wpIn_rangeFunc ?_
 intro fn' _
 obtain⟨r,hrd⟩: ∃r:Loop,r={state:= .ready,pending:=none,fn:=fn',tmps:=a.tmps,params:=ps,assign:= .skip,body:= .block id .skip,defers:=w.heap.size}:=⟨_,rfl⟩
 obtain⟨w1,hw1⟩: ∃w1,(w.alloc (.deferred (some []))).alloc (.loop r)=w1:=⟨_,rfl⟩
 have hL:w1.heap[w.heap.size+1]?=some (.loop r):=by
  rw[←hw1];have:=World.alloc_heap_new (w.alloc (.deferred (some []))) (.loop r);rwa [World.size_alloc] at this
 have hD:w1.heap[w.heap.size]?=some (.deferred (some [])):=by
  rw[←hw1];exact(Below.heap_alloc _ _ _ (by simp)).trans (World.alloc_heap_new w _)
 have hsz:w1.heap.size=w.heap.size+2:=by rw[←hw1];simp
 obtain⟨G1,E1⟩:=G.alloc' (.deferred (some []))
 obtain⟨G2,E2⟩:=G1.alloc' (.loop r)
 rw[hw1] at G2 E2
 have E12:=E1.trans E2
 have G3:Gam I (fun b=>K b∨(b=w.heap.size∨b=w.heap.size+1)) m st.hp w1:=G2.moreK (fun b hb=>by omega) (fun b hb hi=>by have:=G.ilt b hi;omega) (fun b hb=>by
  rcases hb with rfl|rfl
  ·exact⟨fun us T mk h=>(by rw[hD] at h;cases h),fun es c h=>(by rw[hD] at h;cases h)⟩
  ·exact⟨fun us T mk h=>(by rw[hL] at h;cases h),fun es c h=>(by rw[hL] at h;cases h)⟩)
 have hid:Idle ps.size r:=by rw[hrd];exact⟨rfl,rfl,rfl,rfl,_,rfl⟩
 refine⟨w.heap.size+1,[{target:= .collected w.heap.size,args:= #[]}],w1,{target:= .fn (.func f) ⟨us⟩,args:= #[.func (.yield (w.heap.size+1)) #[] #[]]},w1,f,#[.func (.yield (w.heap.size+1)) #[] #[]]++⟨us⟩,w1,?_,?_,fun _ _=>trivial,?_,fun h=>by simp[Fence.wide] at h,?_⟩
 ·rw[←hw1,hrd];exact run_enterLoop_outer _ _ _ _ _
 ·simp only[resolve,hu]
  simp[go_sem]
 ·simp[invoke,go_sem,hst]
 ·refine(it _ r I _ m us w1 G3 (hus.imp fun a u h=>Rep.mono E12 _ a u h) (.inr (.inr rfl)) hL hid).mono ?_
  rintro e w' ⟨⟨u,rfl⟩,hp',hHP,I',m',G4,E4⟩
  have hL':w'.heap[w.heap.size+1]?=some (.loop r):=(E4.keep _ (.inr (.inr (.inr rfl)))).trans hL
  have hD':w'.heap[w.heap.size]?=some (.deferred (some [])):=(E4.keep _ (.inr (.inr (.inl rfl)))).trans hD
  have hend:(Instr.endLoop (w.heap.size+1)).run P w'= .ok none (w'.putObj (w.heap.size+1) (.loop {r with state:= .exhausted})):=by
   have:=run_endLoop (P:=P) hL' (by rw[hid.1];simp)
   rw[hid.2.1] at this
   simpa only[hid.2.1] using this
  refine⟨none,_,hend,?_⟩
  have hsub: ∀b,(K b∨b=w.heap.size)→(K b∨(b=w.heap.size∨b=w.heap.size+1)):=fun b hb=>hb.imp (fun h=>h) .inl
  have G5:=G4.lessK hsub
  have hnk: ¬(K (w.heap.size+1)∨w.heap.size+1=w.heap.size):=fun h=>h.elim (fun h=>by have:=G.klt _ h;omega) (by omega)
  have hpe:=hid.2.1
  obtain⟨G6,E6⟩:=G5.putObj hL' rfl (fun hi=>G4.ik _ hi (.inr (.inr rfl))) hnk (.loop {r with state:= .exhausted})
  have E4':Ext I (fun b=>K b∨b=w.heap.size) m st.hp w1 I' m' hp' w':=E4.lessK hsub
  have E46:=E4'.trans E6
  have EK:Ext I K m st.hp w I' m' hp' (w'.putObj (w.heap.size+1) (.loop {r with state:= .exhausted})):=E12.trans (E46.lessK fun b hb=> .inl hb)
  exact hQ w.heap.size I' m' hp' _ _ hHP ((World.putObj_heap_other (by omega)).trans hD') (fun hi=>G4.ik _ hi (.inr (.inl rfl))) (fun hk=>by have:=G.klt _ hk;omega) (E0.trans EK)
   ⟨I',m',G6,.refl _ _ _ _ _,fun t=>Rep.mono EK _ _ _ (hfr t),hs,by simp[hdf]⟩
theorem fnM_ok {f:Nat}{fn:Func}{c:Code}(hfn:P.funcs[f]?=some fn)(hb:fn.body=some c)(hbo:bodyOk fn=true){args rs:List AV}(hlen:args.length=fn.params.size+fn.nfree)
  {I:Nat→Prop} {w:World} {us:List Value} (hI: ∀b,I b→b<w.heap.size) (hgl:GlOk I w) (ha:AllR (RepA I w) args us)
  (walk: ∀a,StR 0 fn.ntmps (fun b=>b<w.heap.size∧ ¬I b) ⟨I,fun _=>none,hp0,w,[]⟩ ⟨frame0 args,hp0⟩ a w→
   c.wpIn Fence.wide 0 P (fun e a' w'=>(e= .normal∨e= .ret)∧ ∃D I1 m1 hp1 w1 s hpf,w1.heap[D]?=some (.deferred (some []))∧ ¬(D<w.heap.size∧ ¬I D)∧Ext I (fun b=>b<w.heap.size∧ ¬I b) (fun _=>none) hp0 w I1 m1 hp1 w1∧
    StR 0 fn.ntmps (fun b=>(b<w.heap.size∧ ¬I b)∨b=D) ⟨I1,m1,hp1,w1,[{target:= .collected D,args:= #[]}]⟩ s a' w'∧(resultsP P s.fr fn.resultTypes.toList fn.results.toList).run s.hp=some (rs,hpf)) a w):
  Calls P f ⟨us⟩ w (fun e w'=> ∃u,e= .returned u∧CallPost P I w (rtys P f) rs u w'):=by
 have hbo':=hbo
 unfold bodyOk at hbo
 rw[hb] at hbo
 simp only[Bool.and_eq_true,decide_eq_true_eq] at hbo
 obtain⟨⟨hs1,hs2⟩,hs3⟩:=hbo
 have hus:us.length=fn.params.size+fn.nfree:=by rw[←ha.1];exact hlen
 have hrt:rtys P f=fn.resultTypes.toList:=by simp[rtys,hfn]
 refine callsIn_wide.1 (callsIn_of_wp_marks (n:=0) hfn hb trivial (wpIn_mono (walk _ ?_) ?_))
 ·refine⟨I,fun _=>none,⟨fun x=>trivial,fun x y p q hl=>by simp[hp0,AObj.live] at hl,hI,fun b hb=>hb.1,fun b hb hk=>hk.2 hb,hgl⟩,.refl _ _ _ _ _,fun t=>?_,?_,rfl⟩
  ·exact frame_ok (ha.imp fun a u h=>repA_rep h) t
  ·simp only[Array.size_append,List.size_toArray,Array.size_replicate]
   omega
 ·rintro e a' w' ⟨he,D,I1,m1,hp1,w1,s,hpf,hD,hDK,E01,S,hr⟩
  obtain⟨I2,m2,G2,E2,hf2,_,hd2⟩:=S
  have hD2:w'.heap[D]?=some (.deferred (some [])):=(E2.keep D (.inr (.inr rfl))).trans hD
  have G3:=G2.lessK (K:=fun b=>b<w.heap.size∧ ¬I b) fun b hb=> .inl hb
  obtain⟨G4,E4⟩:=G3.putObj hD2 rfl (fun hi=>G2.ik _ hi (.inr rfl)) hDK (.deferred none)
  obtain⟨I5,bs,us',hrun,G5,E5,d5,nb,i5,l5,m5,n5⟩:=results_ok G4 (fun t=>Rep.mono E4 _ _ _ (hf2 t)) hr
  have E12:=((E01.trans (E2.lessK fun b hb=> .inl hb)).trans E4).trans E5
  have post:CallPost P I w (rtys P f) rs (retV us') (w'.putObj D (.deferred none)):={
   old:=fun b hb=>E12.keep b (by
    by_cases hi:I b
    ·exact .inl hi
    ·exact .inr ⟨hb,hi⟩)
   size:=E12.size
   os:=E12.os
   tape:=E12.tape
   output:=E12.output
   res:=⟨I5,us',bs,rfl,E12.isub,fun b hb=>by
     by_cases hi:I b
     ·exact .inl hi
     ·exact .inr (Nat.le_of_not_lt fun hlt=>G5.ik b hb ⟨hlt,hi⟩),G5.ilt,fun b hb=>by
     refine⟨Nat.le_of_not_lt fun hlt=>?_,(nb b hb).1⟩
     by_cases hi:I b
     ·exact(nb b hb).1 (E12.isub b hi)
     ·exact(nb b hb).2 ⟨hlt,hi⟩,n5,by rw[hrt];exact d5⟩}
  have fin:LeavesInM Fence.wide 0 P fn a'.tmps (fun e w'=> ∃u,e= .returned u∧CallPost P I w (rtys P f) rs u w') a'.defers .returning w':=by
   rw[hd2]
   exact⟨by simp,.inl ⟨_,_,rfl,run_takeDeferred hD2,_,run_results fn _ us' hrun,_,rfl,post⟩⟩
  rcases he with rfl|rfl
  ·exact fin
  ·exact fin
end
end
section
open Go
section
variable {P:Program}{E:Cfg}{call:Orc}{K:Nat→Prop}{k N:Nat}{B:Base}
theorem pan_opS {k N f:Nat}{B:Base}{st:AS}{a:Act}{w:World}{o:Oper}{x:Operand}{args:Array Operand}{ats:Array TypeId}{cs:List AV}{v:Value}{hp':Hp}{next:Act→World→Prop}{Q:Exit→Act→World→Prop}(hc:PanCalls P k f (args.toList.map (opA st.fr)++cs) st.hp v hp')
  (ho:o.op= .call ⟨.value x,args,ats⟩) (hx:opA st.fr x= .fn f cs) (hok:okFn P f=true) (hlt:f<1000000) (S:StR k N K B st a w) (hQ: ∀a' w',StR k N K B ⟨st.fr,hp'⟩ a' w'→Q (.panic (panE v)) a' w'):o.wp P a w next Q:=by
 obtain⟨I,m,G,E0,hf,hs,hdf⟩:=S
 have hop:=opA_ok G hf
 have hxr:=hop x
 rw[hx] at hxr
 simp only[Rep] at hxr
 obtain⟨us,hu,hcs⟩:=hxr
 simp only[mkFn,if_pos hlt] at hu
 have hall0:AllR (Rep k I m st.hp w) (args.toList.map (opA st.fr)) (args.toList.map a.eval):=by
  refine⟨by simp,fun j x u h1 h2=>?_⟩
  rw[List.getElem?_map] at h1 h2
  cases hj:args.toList[j]? with
  |none=>rw[hj] at h1;cases h1
  |some z=>rw[hj] at h1 h2;cases h1;cases h2;exact hop z
 have hall:=hall0.append ((RepL_iff _ _).1 hcs)
 have hcalls:=hc I K m w _ hok G hall
 have harr:(⟨args.toList.map a.eval++us⟩:Array Value)=args.map a.eval++⟨us⟩:=by apply Array.ext';simp
 rw[harr] at hcalls
 unfold okFn at hok
 split at hok
 ·rename_i fn hfn
  simp only[Bool.and_eq_true,Bool.not_eq_true'] at hok
  have hrun:(execOp a.eval o).run P w= .ok (.enter f (args.map a.eval++⟨us⟩)) w:=by
   have hb:fn.body≠none:=fun hq=>by simp[hq] at hok
   have hnm:fn.name≠ "runtime.NumGoroutine" :=by simpa using hok.2
   obtain⟨dst,op,type,pos,after,guard⟩:=o
   simp only at ho
   subst ho
   simp[execOp,resolve,hu,Deferred.ofValue,invoke,callFunc,hfn,hnm,hb]
  unfold Oper.wp
  rw[hrun]
  refine hcalls.mono fun e w' he=>?_
  obtain⟨rfl,I',m',G',E'⟩:=he
  exact hQ a w' ⟨I',m',G',E0.trans E',fun t=>Rep.mono E' _ _ _ (hf t),hs,hdf⟩
 ·cases hok
theorem evOps_then (hE:ELaw P E)(hC:OrcOk P call){all:Array Oper}{Q:Exit→Act→World→Prop}{L:List Nat}: ∀(os:List Oper) (n:Nat) {st st':AS} {a:Act} {w:World},(∀j,j<os.length→os[j]?=all[n+j]?)→(∀o∈os,∀x,o.dst=some x→x<N)→
  StR k N K B st a w→evOps P E k call all os st=some st'→(∀a' w',StR k N K B st' a' w'→wpOps P all Q L a' w')→wpOps P all Q (List.range' n os.length++L) a w
 |[],n,st,st',a,w,_,_,S,h,hQ=>by
  simp only[evOps,Option.some.injEq] at h
  subst h
  simpa using hQ a w S
 |o::os,n,st,st',a,w,hl,hd,S,h,hQ=>by
  have h0:all[n]?=some o:=by simpa using(hl 0 (by simp)).symm
  have hl': ∀j,j<os.length→os[j]?=all[n+1+j]?:=fun j hj=>by have:=hl (j+1) (by simpa using hj);simpa[Nat.add_assoc,Nat.add_comm 1 j] using this
  have hd': ∀o∈os,∀x,o.dst=some x→x<N:=fun p hp=>hd p (List.mem_cons_of_mem _ hp)
  have hdo:=hd o (List.mem_cons_self ..)
  simp only[evOps] at h
  simp only[List.length_cons,List.range'_succ,List.cons_append,wpOps,h0]
  split at h
  ·rename_i hg
   rw[S.guard hg,if_pos rfl]
   split at h
   ·rename_i v hp hr
    refine .inl ((S.op hE hC hdo hr).wp fun u w' S'=>?_)
    exact evOps_then hE hC os (n+1) hl' hd' S' h hQ
   ·cases h
  ·rename_i hg
   rw[S.guard hg]
   simp only[Bool.false_eq_true,if_false]
   exact evOps_then hE hC os (n+1) hl' hd' (S.skip hdo) h hQ
  ·cases h
theorem region_panS (hE:ELaw P E)(hC:OrcOk P call){Q:Exit→Act→World→Prop}{st st':AS}{a:Act}{w:World}{id f:Nat}{pre:List Oper}{dd:Option Nat}{x:Operand}{args:Array Operand}{ats:Array TypeId}{ty:TypeId}{pos:String}{aft:Array Edge}{cs:List AV}{v:Value}{hp':Hp}
  (hs:slotsIn N (.region id (pre++[(⟨dd,.call ⟨.value x,args,ats⟩,ty,pos,aft,none⟩:Oper)]).toArray false)=true) (S:StR k N K B st a w)
  (h:evOps P E k call (pre++[(⟨dd,.call ⟨.value x,args,ats⟩,ty,pos,aft,none⟩:Oper)]).toArray pre st=some st') (hx:opA st'.fr x= .fn f cs) (hok:okFn P f=true) (hlt:f<1000000) (hc:PanCalls P k f (args.toList.map (opA st'.fr)++cs) st'.hp v hp')
  (hQ: ∀a' w',StR k N K B ⟨st'.fr,hp'⟩ a' w'→Q (.panic (panE v)) a' w'):(Code.region id (pre++[(⟨dd,.call ⟨.value x,args,ats⟩,ty,pos,aft,none⟩:Oper)]).toArray false).wp P Q a w:=by
 refine wp_region ?_
 have hd:=slotsIn_dst hs
 have hsz:(pre++[(⟨dd,.call ⟨.value x,args,ats⟩,ty,pos,aft,none⟩:Oper)]).toArray.size=pre.length+1:=by simp
 rw[hsz,List.range_eq_range',List.range'_1_concat]
 simp only[Nat.zero_add]
 refine evOps_then hE hC pre 0 (fun j hj=>by simp[List.getElem?_append,hj]) (fun o ho=>hd o (by simp[ho])) S h (fun a' w' S'=>?_)
 simp only[wpOps]
 have h0:(pre++[(⟨dd,.call ⟨.value x,args,ats⟩,ty,pos,aft,none⟩:Oper)]).toArray[pre.length]?=some ⟨dd,.call ⟨.value x,args,ats⟩,ty,pos,aft,none⟩:=by simp
 rw[h0]
 simp only[Region.wanted,if_true]
 exact .inl (pan_opS hc rfl hx hok hlt S' hQ)
end
def chain :List Code→Code→Code
 |[],y=>y
 |c::cs,y=> .seq c (chain cs y)
section
variable {P:Program}{K:Nat→Prop}{k N:Nat}{B:Base}{E:Cfg}{call:Orc}
def Wch (P:Program)(E:Cfg)(k:Nat)(call:Orc)(R:Ex→AS→Prop)(F:AS→Prop):List Code→AS→Prop
 |[],s=>F s
 |c::cs,s=>W P E k call c s (thenW (Wch P E k call R F cs) R)
theorem Wch.wp (hm:P.follows .mixedOrders=true)(hE:ELaw P E)(hC:OrcOk P call){R:Ex→AS→Prop}{F:AS→Prop}{y:Code}{Q:Exit→Act→World→Prop}
  (hF: ∀s a' w',F s→StR k N K B s a' w'→y.wp P Q a' w') (hR: ∀e s a' w',e≠ .normal→R e s→StR k N K B s a' w'→Q (exOf e) a' w')
  (hP: ∀v hp' a' w',R (.panic v) ⟨fun _=> .any,hp'⟩→PanR K B hp' a' w'→Q (.panic (panE v)) a' w'):
  ∀(cs:List Code) {st:AS} {a:Act} {w:World},Wch P E k call R F cs st→(∀c∈cs,slotsIn N c=true)→StR k N K B st a w→(chain cs y).wp P Q a w
 |[],st,a,w,h,_,S=>hF st a w h S
 |c::cs,st,a,w,h,hs,S=>by
  refine wp_seq ?_
  refine W.wp hm hE hC h (hs c (by simp)) S (fun e s a' w' h1 S'=>?_) (fun v hp' a' w' h1 hp=>?_)
  ·cases e with
   |normal=>exact Wch.wp hm hE hC hF hR hP cs h1 (fun c hc=>hs c (by simp[hc])) S'
   |exit i=>exact hR (.exit i) s a' w' (by simp) h1 S'
   |ret=>exact hR .ret s a' w' (by simp) h1 S'
   |panic v=>exact hR (.panic v) s a' w' (by simp) h1 S'
  ·exact hP v hp' a' w' h1 hp
theorem W.pick {c:Code}{st:AS}{R:Ex→AS→Prop}(h:W P E k call c st R): ∃e s',W P E k call c st (fun e1 s1=>e1=e∧s1=s')∧R e s':=by
 obtain⟨e,s',h1,h2⟩:=h
 exact⟨e,s',⟨e,s',h1,rfl,rfl⟩,h2⟩
theorem Wch.pick {R:Ex→AS→Prop}{F:AS→Prop}: ∀(cs:List Code) {st:AS},Wch P E k call R F cs st→
  ∃e s',Wch P E k call (fun e1 s1=>e1=e∧s1=s') (fun s1=>s1=s'∧e= .normal) cs st∧((e= .normal∧F s')∨(e≠ .normal∧R e s'))
 |[],st,h=>⟨.normal,st,⟨rfl,rfl⟩,.inl ⟨rfl,h⟩⟩
 |c::cs,st,h=>by
  obtain⟨e1,s1,h1,h2⟩:=h
  cases e1 with
  |normal=>
   obtain⟨e,s',h3,h4⟩:=Wch.pick cs h2
   exact⟨e,s',⟨.normal,s1,h1,h3⟩,h4⟩
  |exit i=>exact⟨.exit i,s1,⟨.exit i,s1,h1,rfl,rfl⟩,.inr ⟨by simp,h2⟩⟩
  |ret=>exact⟨.ret,s1,⟨.ret,s1,h1,rfl,rfl⟩,.inr ⟨by simp,h2⟩⟩
  |panic v=>exact⟨.panic v,s1,⟨.panic v,s1,h1,rfl,rfl⟩,.inr ⟨by simp,h2⟩⟩
end
end
end Go.Ab
