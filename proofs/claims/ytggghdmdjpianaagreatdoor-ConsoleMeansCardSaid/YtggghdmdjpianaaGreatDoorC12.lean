/- A part of the proof: Ab28, Ab34. -/
import Derived.Test.YtggghdmdjpianaaGreatDoorC02
import Derived.RangeFuncLeaves
import Derived.RangeFuncNested
import Derived.Test.YtggghdmdjpianaaGreatDoorC06
import Derived.Recover
set_option linter.unusedSimpArgs false
set_option linter.unusedVariables false
namespace Go.Ab
section
open Go Go.RowKit
variable {st:AS}{v:AV}{a:Act}{c:Code}{R:Ex->AS->Prop}{Q:Exit->Act->World->Prop}{fn:Func}{hp hp':Hp}{HP:Hp->Prop}{caps:List AV}{us:List Value}{m:Mp}{n l f:Nat}{I K':Nat->Prop}{r:Obj}{o:Oper}{Post:Value->World->Prop}{w w':World}
section
variable {P:Program}{K:Nat->Prop}{k N:Nat}{B:jZ}{E:cD}{call:aS}
theorem W.wp (hm:P.follows .mixedOrders=true)(hE:dS P E)(hC:Av P call)(h:W P E k call c st R)(hs:Im N c=true)(S:aX k N K B st a w)
 (hQ: ∀e s a' w',R e s->aX k N K B s a' w'->Q (xP e) a' w')
  (hP: ∀v hp' a' w',R (.panic v) ⟨fun _=> .any,hp'⟩->uO K B hp' a' w'->Q (.panic (iN v)) a' w':=by intro v hp' a' w' hR;exact(nomatch hR.1)):c.wp P Q a w:=by
 rcases B4 h with⟨n,e,st',h1,_,h2⟩|⟨n,v,hp',h1,h2⟩
 ·exact Cn hm hE hC n c hs S h1 fun a' w' S'=>hQ e st' a' w' h2 S'
 ·exact Tg hm hE hC n _ v hp' h1 N K B Q a w hs S fun a' w' hR=>hP v hp' a' w' h2 hR
theorem W.wpIn (hm:P.follows .mixedOrders=true)(hE:dS P E)(hC:Av P call)(h:W P E k call c st R)(hs:Im N c=true)(S:aX k N K B st a w)
 (hQ: ∀e s a' w',R e s->aX k N K B s a' w'->Q (xP e) a' w')
  (hP: ∀v hp' a' w',R (.panic v) ⟨fun _=> .any,hp'⟩->uO K B hp' a' w'->Q (.panic (iN v)) a' w':=by intro v hp' a' w' hR;exact(nomatch hR.1)):c.wpIn Fence.wide n P Q a w:=
 wpIn_wide.2 (W.wp hm hE hC h hs S hQ hP)
theorem Yl {F:Fence}(I:Nat->Act->World->Prop){j:Nat}(h0:I j a w)
  (round: ∀j a w,I j a w->c.wpIn F n P (Exit.then (fun a' w'=> ∃i,i<j/\I i a' w') Q) a w):(Code.loop c).wpIn F n P Q a w:=by
 refine wpIn_loop (fun a w=> ∃j,I j a w) (fun a w=>kH fun j=>I j a w) ⟨j,h0⟩ ?_;intro a w h;obtain⟨h1,_⟩:=C4 (p:=fun j=>I j a w) h;refine wpIn_mono (round _ a w h1) ?_;intro e a' w' hq
 cases e with
 |normal=>
  obtain⟨i,hi,h⟩:=hq;exact⟨⟨i,h⟩,Ac7 ((C4 (p:=fun j=>I j a' w') ⟨i,h⟩).2 i h) hi⟩
 |_=>exact hq
/-! ### a world in which some other block is changed -/
theorem Uj.lessK {K:Nat->Prop}(G:Uj I K' m hp w)(h: ∀b,K b->K' b):Uj I K m hp w where
 obj:=fun x=>by
  have ho:=G.obj x
  cases hx:hp x with
  |no g=>trivial
  |box g cells fz=>
   rw[hx] at ho;obtain⟨b,c,us,T,mk,h1,h2,h3,h4,h5,h6⟩:=ho;exact⟨b,c,us,T,mk,h1,h2,h3,h4,h5,fun hf=>⟨(h6 hf).1,fun hk=>(h6 hf).2 (h b hk)⟩⟩
  |arr g sz e rows fz=>
   rw[hx] at ho;rcases ho with ho|⟨b,cap,us,mk,h1,h2,h3,h4,h5,h6,h7,h8,h9⟩
   ·exact .inl ho
   ·exact .inr ⟨b,cap,us,mk,h1,h2,h3,h4,h5,h6,h7,h8,fun hf=>⟨(h9 hf).1,fun hk=>(h9 hf).2 (h b hk)⟩⟩
  |map g ag ks rows fz=>
   rw[hx] at ho;obtain⟨b,c,es,clock,h1,h2,h3,h4,h5,h6⟩:=ho;exact⟨b,c,es,clock,h1,h2,h3,h4,h5,fun hf=>⟨(h6 hf).1,fun hk=>(h6 hf).2 (h b hk)⟩⟩
 inj:=G.inj
 ilt:=G.ilt
 klt:=fun b hb=>G.klt b (h b hb)
 ik:=fun b hb hk=>G.ik b hb (h b hk)
 gl:=G.gl
theorem Uj.moreK {K K2:Nat->Prop}(G:Uj I K m hp w)(h1: ∀b,K2 b->b<w.heap.size)(h2: ∀b,K2 b-> ¬I b)(h3: ∀b,K2 b->(∀us T mk,w.heap[b]?≠some (.cells us T mk))/\ ∀es c,w.heap[b]?≠some (.map es c)):
  Uj I (fun b=>K b\/K2 b) m hp w where
 obj:=fun x=>by
  have ho:=G.obj x
  cases hx:hp x with
  |no g=>trivial
  |box g cells fz=>
   rw[hx] at ho;obtain⟨b,c,us,T,mk,o1,o2,o3,o4,o5,o6⟩:=ho;exact⟨b,c,us,T,mk,o1,o2,o3,o4,o5,fun hf=>⟨(o6 hf).1,fun hk=>hk.elim (o6 hf).2 fun hk=>(h3 b hk).1 us T mk o2⟩⟩
  |arr g sz e rows fz=>
   rw[hx] at ho;rcases ho with ho|⟨b,cap,us,mk,o1,o2,o3,o4,o5,o6,o7,o8,o9⟩
   ·exact .inl ho
   ·exact .inr ⟨b,cap,us,mk,o1,o2,o3,o4,o5,o6,o7,o8,fun hf=>⟨(o9 hf).1,fun hk=>hk.elim (o9 hf).2 fun hk=>(h3 b hk).1 us e mk o2⟩⟩
  |map g ag ks rows fz=>
   rw[hx] at ho;obtain⟨b,c,es,clock,o1,o2,o3,o4,o5,o6⟩:=ho;exact⟨b,c,es,clock,o1,o2,o3,o4,o5,fun hf=>⟨(o6 hf).1,fun hk=>hk.elim (o6 hf).2 fun hk=>(h3 b hk).2 es clock o2⟩⟩
 inj:=G.inj
 ilt:=G.ilt
 klt:=fun b hb=>hb.elim (G.klt b) (h1 b)
 ik:=fun b hb hk=>hk.elim (G.ik b hb) fun hk=>h2 b hk hb
 gl:=G.gl
theorem aL.lessK {K I':Nat->Prop}{m':Mp}(E:aL I K' m hp w I' m' hp' w')(h: ∀b,K b->K' b):aL I K m hp w I' m' hp' w':=
 ⟨E.isub,fun b hb=>E.keep b (hb.imp id (h b)),E.size,E.os,E.tape,E.output,E.gmono,E.stable⟩
theorem aL.wx {K:Nat->Prop}(X:WX I K w w'):aL I K m hp w I m hp w':=
 {isub:=fun _ h=>h,keep:=X.keep,size:=X.size,os:=X.os,tape:=X.tape,output:=X.output,gmono:=fun _=>D5 _,stable:=fun x _=>(by cases hp x<;>simp<;>exact⟨_,_,⟨rfl,rfl⟩,D5 _⟩)}
theorem Uj.world' {K:Nat->Prop}(G:Uj I K m hp w)(tA: ∀b,Ao m hp b->w'.heap[b]?=w.heap[b]?)(X:WX I K w w'):Uj I K m hp w'/\aL I K m hp w I m hp w':=by
 refine⟨Uj.step G (aL.wx X) (fun _=>False) (fun y _=>⟨rfl,rfl⟩) (fun y h=>h.elim) (fun y _ hl q hq=>tA _ ⟨y,q,hl,hq,rfl⟩) (fun y _ hl _ q hq hn hI=>hn hI) G.inj (fun b hb=>AY (G.ilt b hb) X.size) G.ik,aL.wx X⟩
theorem Uj.liveCells {K:Nat->Prop}(G:Uj I K m hp w){b:Nat}(h:Ao m hp b):(∃us T mk,w.heap[b]?=some (.cells us T mk))\/ ∃es c,w.heap[b]?=some (.map es c):=by
 obtain⟨x,p,hl,U9,rfl⟩:=h;have ho:=G.obj x
 cases hx:hp x with
 |no g=>rw[hx] at hl;simp[It.live] at hl
 |box g cells fz=>
  rw[hx] at ho;obtain⟨b,c,us,T,mk,o1,o2,_⟩:=ho;rw[o1] at U9;cases U9;exact .inl ⟨us,T,mk,o2⟩
 |arr g sz e rows fz=>
  rw[hx] at ho;rcases ho with⟨ho,_⟩|⟨b,cap,us,mk,o1,o2,_⟩
  ·rw[ho] at U9;cases U9
  ·rw[o1] at U9;cases U9
   exact .inl ⟨us,e,mk,o2⟩
 |map g ag ks rows fz=>
  rw[hx] at ho;obtain⟨b,c,es,clock,o1,o2,_⟩:=ho;rw[o1] at U9;cases U9;exact .inr ⟨es,clock,o2⟩
theorem Uj.putObj {K:Nat->Prop}(G:Uj I K m hp w)(hr:w.heap[l]?=some r)(hc:r.isCells=false)(hi: ¬I l)(hk: ¬K l)(o:Obj)(hc2: ∀es c,r≠ .map es c:=by nofun):
  Uj I K m hp (w.putObj l o)/\aL I K m hp w I m hp (w.putObj l o):=by
 refine G.world' (fun b hb=>?_) ⟨fun b hb=>?_,by simp[World.putObj],rfl,rfl,rfl⟩
 ·refine World.putObj_heap_other fun e=>?_
  subst e;rcases G.liveCells hb with⟨us,T,mk,h⟩|⟨es,c,h⟩
  ·rw[hr] at h;cases h;simp[Obj.isCells] at hc
  ·rw[hr] at h;cases h;exact hc2 _ _ rfl
 ·refine World.putObj_heap_other fun e=>?_
  subst e;exact hb.elim hi hk
theorem Uj.alloc' {K:Nat->Prop}(G:Uj I K m hp w)(o:Obj):Uj I K m hp (w.alloc o)/\aL I K m hp w I m hp (w.alloc o):=by
 refine G.world' (fun b hb=>?_) (WX.alloc o G.ilt G.klt);obtain⟨x,p,hl,U9,rfl⟩:=hb;have:=G.blk hl U9;exact(Below.heap_alloc w o p.1 this)
theorem Vv{o:Obj}(h:w.heap[l]?=some r):(w.putObj l o).putObj l r=w:=by
 have e:(w.heap.setIfInBounds l o).setIfInBounds l r=w.heap:=by
  apply sI;apply Acy;intro i;rw[Acd,Acd];by_cases hi:i=l
  ·subst hi
   have Ii:=(Xc.1 h).1;rw[h];simp[Ii]
  ·rw[Ac1 (Ne.symm hi),Ac1 (Ne.symm hi)]
 unfold World.putObj;simp only[e]
/-! ### the rounds -/
def NY (n:Nat)(r:Loop):Prop:=r.state= .ready/\r.pending=none/\r.params.size=n/\r.assign= .skip/\ ∃id,r.body= .block id .skip
theorem Aia{r:Loop}{args:Array Value}(h:w.heap[l]?=some (.loop r))(hi:NY args.size r):YieldAt Fence.wide n P l args w (fun e w'=>e= .returned (.bool true)/\w'=w):=by
 obtain⟨h1,h2,h3,h4,id,h5⟩:=hi;refine⟨_,_,_,_,run_yield h h3.symm,?_⟩;rw[h4,h5];have Ii:=(Xc.1 h).1;have hl:(w.putObj l (.loop {r with state:= .busy})).heap[l]?=some (.loop {r with state:= .busy}):=World.putObj_heap_same Ii;refine roundIn_of_wpIn trivial (wpIn_skip ⟨_,run_beginRound h h1,wpIn_block (wpIn_skip ⟨_,_,run_endRound none hl,rfl,?_⟩)⟩);have e:({{r with state:= .busy} with state:=if (none:Option Code).isNone then .ready else .done,pending:=none}:Loop)=r:=by
  cases r with
  |_=>simp only at h1 h2;subst h1 h2;rfl
 rw[e];exact Vv h
/-! ### code that calls yield -/
def NR (E:cD)(K:Nat->Prop)(w:World):Prop:= ∀l,E.yl l=true->K l/\ ∃r,w.heap[l]?=some (.loop r)/\NY 1 r
def isYl (E:cD)(fr:Nat->AV)(o:Oper):Prop:= ∃x args ats l,o.op= .call ⟨.value x,args,ats⟩/\Uy fr x= .sc (.func (.yield l) #[] #[])/\E.yl l=true/\args.size=1
theorem J7a {fr:Nat->AV}(h:(bL P E k call fr o).run hp=some (v,hp')):(bL P E.dry k call fr o).run hp=some (v,hp')\/(isYl E fr o/\v= .sc (.bool true)/\hp'=hp):=by
 obtain⟨dst,op,type,pos,after,guard⟩:=o;unfold bL at h⊢
 cases op<;>simp only at h⊢
 case call c=>
  obtain⟨callee,args,ats⟩:=c;simp only at h⊢
  split at h
  ·left;exact h
  ·left;exact h
  ·left;exact h
  ·left;exact h
  ·left;exact h
  ·rename_i x
   split at h
   ·left
    exact h
   ·rename_i l a b hx
    split at h
    ·rename_i hc
     obtain⟨hc,hl,ha,hb⟩:=hc;simp only[Ia.run,Bc,Br] at h;have ha:=Ach ha;have hb:=Ach hb;subst ha hb;right;exact⟨⟨x,args,ats,l,rfl,hx,hc,by simpa using hl⟩,h.1.symm,h.2.symm⟩
    ·simp[Ia.run] at h
   ·simp[Ia.run] at h
  ·simp[Ia.run] at h
 case makeFunc fn first caps=>cases fn<;>exact .inl h
 case makeMap t r=>cases r<;>exact .inl h
 all_goals exact .inl h
def xV (P:Program)(o:Oper)(a:Act)(w:World)(Post:Value->World->Prop):Prop:=
 match (execOp a.eval o).run P w with
 | .ok (.value u) w'=>Post u w'
 | .ok .skip w'=>Post undef w'
 | .ok (.enter f args) w'=>Calls P f args w' fun e w''=> ∃u,e= .returned u/\Post u w''
 | .ok (.round l f tmps assign body) w'=>RoundIn Fence.wide 0 P l f tmps assign body w' fun e w''=> ∃u,e= .returned u/\Post u w''
 |_=>False
theorem yV.y(h:yV P o a w Post):xV P o a w Post:=by
 unfold yV at h;unfold xV
 split at h
 ·rename_i he;rw[he];exact h
 ·rename_i he;rw[he];exact h
 ·rename_i he;rw[he];exact h
 ·exact h.elim
theorem xV.wp(h:xV P o a w Post){next:Act->World->Prop}(hn: ∀u w',Post u w'->next (a.put o.dst u) w'):o.wpIn Fence.wide 0 P a w next Q:=by
 refine⟨fun _ _=>trivial,?_⟩;unfold xV at h;rw[show Fence.wide.round=none from rfl,Oper.semAt_none]
 split at h
 ·rename_i u w' he;rw[he];exact hn _ _ h
 ·rename_i w' he;rw[he];exact hn _ _ h
 ·rename_i f args w' he
  rw[he];refine⟨fun h=>by simp[Fence.wide] at h,(callsIn_wide.2 h).mono ?_⟩;rintro e w'' ⟨u,rfl,h2⟩;exact hn _ _ h2
 ·rename_i l f tmps assign body w' he
  rw[he];refine⟨fun h=>by simp[Fence.wide] at h,h.mono ?_⟩;rintro e w'' ⟨u,rfl,h2⟩;exact hn _ _ h2
 ·exact h.elim
theorem aX.opY (hE:Mu P E.eq)(hC:Av P call)(hY:NR E K B.w)(S:aX k N K B st a w)(hd: ∀x,o.dst=some x->x<N)(h:(bL P E k call st.fr o).run st.hp=some (v,hp')):
  xV P o a w (fun u w'=>aX k N K B ⟨Uw st.fr o.dst v,hp'⟩ (a.put o.dst u) w'):=by
 rcases J7a h with h|⟨⟨x,args,ats,l,ho,hx,hl,aZ⟩,rfl,rfl⟩
 ·exact(aX.op (dS.dry hE) hC S hd h).y
 ·obtain⟨hk,r,hr,hi⟩:=hY l hl
  obtain⟨I,m,G,E0,hf,hs,rX⟩:=S;have hr':w.heap[l]?=some (.loop r):=(E0.keep l (.inr hk)).trans hr;have hxv:=D0 G hf x;rw[hx] at hxv;simp only[Ie] at hxv;obtain⟨fn,tmps,assign,body,hy,hR⟩:=Aia (P:=P) (n:=0) (args:=args.map a.eval) hr' (by simpa[aZ] using hi);have Uk:(execOp a.eval o).run P w= .ok (.round l fn tmps assign body) w:=by
   obtain⟨dst,op,type,pos,after,guard⟩:=o;simp only at ho;subst ho;simp[execOp,resolve,Deferred.ofValue,hxv,invoke,hy]
  unfold xV;rw[Uk];refine hR.mono ?_;rintro e w' ⟨rfl,rfl⟩;exact⟨_,rfl,I,m,G,E0,Sz hf (by simp only[Ie]) (fun x hx=>by rw[hs];exact hd x hx),by rw[Eu];exact hs,by rw[Jp];exact rX⟩
theorem Lw (hE:Mu P E.eq)(hC:Av P call)(hY:NR E K B.w){all:Array Oper}{Q:Exit->Act->World->Prop}: ∀(os:List Oper) (n:Nat) {st st':AS} {a:Act} {w:World},(∀j,os[j]?=all[n+j]?)->(∀o∈os,∀x,o.dst=some x->x<N)->
  aX k N K B st a w->cW P E k call all os st=some st'->(∀a' w',aX k N K B st' a' w'->Q .normal a' w')->wpOpsIn Fence.wide 0 P all Q (List.range' n os.length) a w
 |[],n,st,st',a,w,_,_,S,h,hQ=>by
  simp only[cW,Bc] at h;subst h;exact hQ a w S
 |o::os,n,st,st',a,w,hl,hd,S,h,hQ=>by
  have h0:all[n]?=some o:=by simpa using(hl 0).symm
  have tD: ∀j,os[j]?=all[n+1+j]?:=fun j=>by have:=hl (j+1);simpa[tJ,OF 1 j] using this
  have uT: ∀o∈os,∀x,o.dst=some x->x<N:=fun p hp=>hd p (T8 _ hp)
  have DD:=hd o (Vc ..);simp only[cW] at h;simp only[wP,Acg,wpOpsIn,h0]
  split at h
  ·rename_i hg
   rw[S.guard hg,Ka rfl]
   split at h
   ·rename_i v hp hr
    exact(S.opY hE hC hY DD hr).wp fun u w' S'=>Lw hE hC hY os (n+1) tD uT S' h hQ
   ·cases h
  ·rename_i hg
   rw[S.guard hg];simp only[pW,lJ];exact⟨fun _ _=>trivial,Lw hE hC hY os (n+1) tD uT (S.skip DD) h hQ⟩
  ·cases h
theorem De (hm:P.follows .mixedOrders=true)(hE:Mu P E.eq)(hC:Av P call)(hY:NR E K B.w): ∀(n:Nat) (c:Code) {Q:Exit->Act->World->Prop} {st st':AS} {e:Ex} {a:Act} {w:World},Im N c=true->aX k N K B st a w->bP P E k call n c st=some (e,st')->
  (∀a' w',aX k N K B st' a' w'->Q (xP e) a' w')->c.wpIn Fence.wide 0 P Q a w
 |0,c,Q,st,st',e,a,w,_,_,h,_=>by simp[bP] at h
 |n+1,c,Q,st,st',e,a,w,hs,S,h,hQ=>by
  cases c with
  |skip=>
   simp only[bP,Bc,Br] at h;obtain⟨rfl,rfl⟩:=h;exact wpIn_skip (hQ a w S)
  |label l=>
   simp only[bP,Bc,Br] at h;obtain⟨rfl,rfl⟩:=h;exact wpIn_label (hQ a w S)
  |region id ops d=>
   simp only[bP] at h
   cases hr:bR P E k call ops d st with
   |none=>rw[hr] at h;cases h
   |some s=>
    rw[hr] at h;simp only[wD,Bc,Br] at h;obtain⟨rfl,rfl⟩:=h;have hds: ∀o∈ops.toList,∀x,o.dst=some x->x<N:=fun o ho x hx=>by
     simp only[Im,nU,Ed] at hs;have:=(hs o ho).1;rw[hx] at this;simpa using this
    cases d with
    |true=>
     have hr':bR P E.dry k call ops true st=some s:=hr;exact wpIn_wide.2 (Mo hm (dS.dry hE) hC hds S hr' hQ)
    |false=>
     refine wpIn_region ?_;have:=Lw hE hC hY (Q:=Q) ops.toList 0 Zi hds S hr hQ;rwa [wN,<-Acj] at this
  |seq x y=>
   simp only[Im,Ed] at hs;simp only[bP] at h
   split at h
   ·rename_i s h1
    exact wpIn_seq (De hm hE hC hY n x hs.1 S h1 fun a' w' S'=>De hm hE hC hY n y hs.2 S' h hQ)
   ·rename_i Ir
    refine wpIn_seq (De hm hE hC hY n x hs.1 S h fun a' w' S'=>?_);have:=hQ a' w' S'
    cases e with
    |normal=>exact(Ir st' h).elim
    |exit id=>exact this
    |ret=>exact this
    |panic v=>exact this
  |cond c x y=>
   simp only[Im,Ed] at hs;simp only[bP] at h
   split at h
   ·rename_i t ht
    have hc:a.eval c= .bool t:=by
     obtain⟨I,m,G,E0,hf,aZ,rX⟩:=S;have:=D0 G hf c;rw[ht] at this;simpa only[Ie] using this
    refine wpIn_cond hc ?_
    cases t with
    |true=>exact De hm hE hC hY n x hs.1.2 S (by simpa using h) hQ
    |false=>exact De hm hE hC hY n y hs.2 S (by simpa using h) hQ
   ·cases h
  |block id x=>
   simp only[Im] at hs;simp only[bP] at h
   split at h
   ·rename_i i s h1
    refine wpIn_block (De hm hE hC hY n x hs S h1 fun a' w' S'=>?_);simp only[xP,Exit.inBlock]
    split at h
    ·rename_i hi
     simp only[Bc,Br] at h;obtain⟨rfl,rfl⟩:=h;rw[Ka hi];exact hQ a' w' S'
    ·rename_i hi
     simp only[Bc,Br] at h;obtain⟨rfl,rfl⟩:=h;rw[Jx hi];exact hQ a' w' S'
   ·rename_i Ir
    refine wpIn_block (De hm hE hC hY n x hs S h fun a' w' S'=>?_);have:=hQ a' w' S'
    cases e with
    |normal=>exact this
    |exit i=>exact(Ir i st' h).elim
    |ret=>exact this
    |panic v=>exact this
  |loop x=>
   simp only[Im] at hs;refine Yl (I:=fun g a w=> ∃s,g<=n+1/\aX k N K B s a w/\bP P E k call g (.loop x) s=some (e,st')) (j:=n+1) ⟨st,D5 _,S,h⟩ ?_;rintro g a w ⟨s,hg,S,h⟩
   cases g with
   |zero=>simp[bP] at h
   |succ g'=>
    have Ii:g'<n+1:=Zo;simp only[bP] at h
    split at h
    ·rename_i s1 h1
     exact De hm hE hC hY g' x hs S h1 fun a' w' S'=>⟨g',vB _,s1,Zo,S',h⟩
    ·rename_i Ir
     refine De hm hE hC hY g' x hs S h fun a' w' S'=>?_
     have:=hQ a' w' S'
     cases e with
     |normal=>exact(Ir st' h).elim
     |exit i=>exact this
     |ret=>exact this
     |panic v=>exact this
  |scope x=>
   simp only[Im] at hs;simp only[bP] at h;exact wpIn_wide.2 (Aeh (wpIn_wide.1 (De hm hE hC hY n x hs S h fun a' w' S'=>by have:=hQ a' w' S';cases e<;>exact this)))
  |exit id=>
   simp only[bP,Bc,Br] at h;obtain⟨rfl,rfl⟩:=h;exact wpIn_exit (hQ a w S)
  |ret=>
   simp only[bP,Bc,Br] at h;obtain⟨rfl,rfl⟩:=h;exact wpIn_ret (hQ a w S)
  |_=>simp[bP] at h
termination_by n=>n
theorem LI(kI:P.funcs[f]?=some fn)(hb:fn.body=some c)(lI:Bb fn=true)(sZ:fn.results= #[])(Ij:caps.length+1=fn.params.size+fn.nfree)
 (G:Uj I K m hp w) (ha:Ue (Ie k I m hp w) caps us)
  (hm:P.follows .mixedOrders=true) (hE:Mu P E.eq) (hC:Av P call) (hY:NR E K w)
  (walk:W P E (k+1) call c ⟨Uh (.sc (.func (.yield l) #[] #[])::caps),hp⟩ (fun e s=>(e= .normal\/e= .ret)/\HP s.hp)):
  CallsIn Fence.wide 0 P f (#[.func (.yield l) #[] #[]]++⟨us⟩) w (fun e w'=>(∃u,e= .returned u)/\ ∃hp',HP hp'/\ ∃I' m',Uj I' K m' hp' w'/\aL I K m hp w I' m' hp' w'):=by
 have hbo':=lI;unfold Bb at lI;rw[hb] at lI;simp only[Ed,oW] at lI;obtain⟨⟨pN,kM⟩,hs3⟩:=lI;have jS:us.length+1=fn.params.size+fn.nfree:=by rw[<-ha.1];exact Ij
 have cT:Ue (Ie k I m hp w) (.sc (.func (.yield l) #[] #[])::caps) (.func (.yield l) #[] #[]::us):= .cons (by simp only[Ie]) ha;have e0:(#[.func (.yield l) #[] #[]]++⟨us⟩:Array Value)=⟨.func (.yield l) #[] #[]::us⟩:=Zi;rw[e0];refine callsIn_of_wp kI hb trivial ?_;have S0:aX (k+1) fn.ntmps K ⟨I,m,hp,w,[]⟩ ⟨Uh (.sc (.func (.yield l) #[] #[])::caps),hp⟩ {tmps:=(⟨.func (.yield l) #[] #[]::us⟩:Array Value)++Array.replicate (fn.ntmps - (⟨.func (.yield l) #[] #[]::us⟩:Array Value).size) undef,defers:=[]} w:=by
  refine⟨I,m,G,.refl _ _ _ _ _,fun t=>Cl (cT.imp fun a u h=>Ie.depth (uY k) a u h) t,?_,rfl⟩;simp only[AX,AW,BA,wP];omega
 obtain⟨g,e,s,gE,he,hs⟩: ∃g e s,bP P E (k+1) call g c ⟨Uh (.sc (.func (.yield l) #[] #[])::caps),hp⟩=some (e,s)/\(e= .normal\/e= .ret)/\HP s.hp:=by
  rcases B4 walk with⟨g,e,s,h1,_,h2⟩|⟨g,v,hp',_,h2⟩
  ·exact⟨g,e,s,h1,h2⟩
  ·exact(h2.1.elim nofun nofun)
 refine De hm hE hC hY g c pN S0 gE ?_;intro a' w' S;obtain⟨I1,m1,G1,E1,mY,_,nX⟩:=S;have Uk:(results fn a'.tmps).run P w'= .ok (gF []) w':=Bl fn _ [] (by rw[sZ];rfl);have lH:a'.defers=[]/\ ∃v',(results fn a'.tmps).run P w'= .ok v' w'/\((∃u,Ending.returned v'= .returned u)/\ ∃hp',HP hp'/\ ∃I' m',Uj I' K m' hp' w'/\aL I K m hp w I' m' hp' w'):=
  ⟨nX,_,Uk,⟨_,rfl⟩,_,hs,I1,m1,G1,E1⟩
 rcases he with rfl|rfl
 ·exact lH
 ·exact lH
theorem Y7 {g:Operand}{ps:Array Tmp}{id:Nat}(hf:P.funcs[f]?=some fn)(dN: ∀args w,(callFunc f args).run P w= .ok (.enter f args) w)
  (S:aX k N K B st a w) (hg:Uy st.fr g= .fn f caps) (Ii:f<1000000)
  (it: ∀(l:Nat) (r:Loop) (I K':Nat->Prop) (m:Mp) (us:List Value) (w1:World),Uj I K' m st.hp w1->Ue (Ie k I m st.hp w1) caps us->K' l->w1.heap[l]?=some (.loop r)->NY ps.size r->
   CallsIn Fence.wide 0 P f (#[.func (.yield l) #[] #[]]++⟨us⟩) w1 (fun e w'=>(∃u,e= .returned u)/\ ∃hp',HP hp'/\ ∃I' m',Uj I' K' m' hp' w'/\aL I K' m st.hp w1 I' m' hp' w'))

  (hQ: ∀(D:Nat) (I':Nat->Prop) (m':Mp) (hp':Hp) (a':Act) (w':World),HP hp'->w'.heap[D]?=some (.deferred (some []))-> ¬I' D-> ¬K D->aL B.I K B.m B.hp B.w I' m' hp' w'->
   aX k N (fun b=>K b\/b=D) ⟨I',m',hp',w',{target:= .collected D,args:= #[]}::B.df⟩ ⟨st.fr,hp'⟩ a' w'->Q .normal a' w'):
  (Code.rangeFunc g ps .skip (.block id .skip)).wpIn Fence.wide 0 P Q a w:=by
 obtain⟨I,m,G,E0,lW,hs,rX⟩:=S;have hr:=D0 G lW g;rw[hg] at hr;simp only[Ie] at hr;obtain⟨us,hu,jS⟩:=hr;simp only[sW,Ka Ii] at hu;have jS:=(Ae _ _).1 jS;refine wpIn_rangeFunc ?_;intro fn' _;obtain⟨r,eB⟩: ∃r:Loop,r={state:= .ready,pending:=none,fn:=fn',tmps:=a.tmps,params:=ps,assign:= .skip,body:= .block id .skip,defers:=w.heap.size}:=⟨_,rfl⟩;obtain⟨w1,hw1⟩: ∃w1,(w.alloc (.deferred (some []))).alloc (.loop r)=w1:=⟨_,rfl⟩;have hL:w1.heap[w.heap.size+1]?=some (.loop r):=by
  rw[<-hw1];have:=World.alloc_heap_new (w.alloc (.deferred (some []))) (.loop r);rwa [World.size_alloc] at this
 have hD:w1.heap[w.heap.size]?=some (.deferred (some [])):=by
  rw[<-hw1];exact(Below.heap_alloc _ _ _ Zi).trans (World.alloc_heap_new w _)
 have aZ:w1.heap.size=w.heap.size+2:=by rw[<-hw1];simp
 obtain⟨G1,E1⟩:=G.alloc' (.deferred (some []));obtain⟨G2,E2⟩:=G1.alloc' (.loop r);rw[hw1] at G2 E2;have E12:=E1.trans E2;have G3:Uj I (fun b=>K b\/(b=w.heap.size\/b=w.heap.size+1)) m st.hp w1:=G2.moreK (fun b hb=>Zo) (fun b hb hi=>by have:=G.ilt b hi;omega) (fun b hb=>by
  rcases hb with rfl|rfl
  ·exact⟨fun us T mk h=>(by rw[hD] at h;cases h),fun es c h=>(by rw[hD] at h;cases h)⟩
  ·exact⟨fun us T mk h=>(by rw[hL] at h;cases h),fun es c h=>(by rw[hL] at h;cases h)⟩)
 have hid:NY ps.size r:=by rw[eB];exact⟨rfl,rfl,rfl,rfl,_,rfl⟩
 refine⟨w.heap.size+1,[{target:= .collected w.heap.size,args:= #[]}],w1,{target:= .fn (.func f) ⟨us⟩,args:= #[.func (.yield (w.heap.size+1)) #[] #[]]},w1,f,#[.func (.yield (w.heap.size+1)) #[] #[]]++⟨us⟩,w1,?_,?_,fun _ _=>trivial,?_,fun h=>by simp[Fence.wide] at h,?_⟩
 ·rw[<-hw1,eB];exact run_enterLoop_outer _ _ _ _ _
 ·simp only[resolve,hu]
  simp[go_sem]
 ·simp[invoke,go_sem,dN]
 ·refine(it _ r I _ m us w1 G3 (jS.imp fun a u h=>Ie.mono E12 _ a u h) (.inr (.inr rfl)) hL hid).mono ?_
  rintro e w' ⟨⟨u,rfl⟩,hp',hHP,I',m',G4,E4⟩;have hL':w'.heap[w.heap.size+1]?=some (.loop r):=(E4.keep _ (.inr (.inr (.inr rfl)))).trans hL;have qO:w'.heap[w.heap.size]?=some (.deferred (some [])):=(E4.keep _ (.inr (.inr (.inl rfl)))).trans hD;have xK:(Instr.endLoop (w.heap.size+1)).run P w'= .ok none (w'.putObj (w.heap.size+1) (.loop {r with state:= .exhausted})):=by
   have:=run_endLoop (P:=P) hL' (by rw[hid.1];simp);rw[hid.2.1] at this;simpa only[hid.2.1] using this
  refine⟨none,_,xK,?_⟩;have hsub: ∀b,(K b\/b=w.heap.size)->(K b\/(b=w.heap.size\/b=w.heap.size+1)):=fun b hb=>hb.imp (fun h=>h) .inl
  have G5:=G4.lessK hsub;have iC: ¬(K (w.heap.size+1)\/w.heap.size+1=w.heap.size):=fun h=>h.elim (fun h=>by have:=G.klt _ h;omega) Zo
  have kX:=hid.2.1;obtain⟨G6,E6⟩:=G5.putObj hL' rfl (fun hi=>G4.ik _ hi (.inr (.inr rfl))) iC (.loop {r with state:= .exhausted});have E4':aL I (fun b=>K b\/b=w.heap.size) m st.hp w1 I' m' hp' w':=E4.lessK hsub;have E46:=E4'.trans E6;have EK:aL I K m st.hp w I' m' hp' (w'.putObj (w.heap.size+1) (.loop {r with state:= .exhausted})):=E12.trans (E46.lessK fun b hb=> .inl hb);exact hQ w.heap.size I' m' hp' _ _ hHP ((World.putObj_heap_other Zo).trans qO) (fun hi=>G4.ik _ hi (.inr (.inl rfl))) (fun hk=>by have:=G.klt _ hk;omega) (E0.trans EK)
   ⟨I',m',G6,.refl _ _ _ _ _,fun t=>Ie.mono EK _ _ _ (lW t),hs,by simp[rX]⟩
theorem fnM_ok(kI:P.funcs[f]?=some fn)(hb:fn.body=some c)(lI:Bb fn=true){args rs:List AV}(Ij:args.length=fn.params.size+fn.nfree)
 (hI: ∀b,I b->b<w.heap.size) (oJ:tG I w) (ha:Ue (mE I w) args us)
  (walk: ∀a,aX 0 fn.ntmps (fun b=>b<w.heap.size/\ ¬I b) ⟨I,fun _=>none,U9,w,[]⟩ ⟨Uh args,U9⟩ a w->
   c.wpIn Fence.wide 0 P (fun e a' w'=>(e= .normal\/e= .ret)/\ ∃D I1 m1 hp1 w1 s U7,w1.heap[D]?=some (.deferred (some []))/\ ¬(D<w.heap.size/\ ¬I D)/\aL I (fun b=>b<w.heap.size/\ ¬I b) (fun _=>none) U9 w I1 m1 hp1 w1/\
    aX 0 fn.ntmps (fun b=>(b<w.heap.size/\ ¬I b)\/b=D) ⟨I1,m1,hp1,w1,[{target:= .collected D,args:= #[]}]⟩ s a' w'/\(aN P s.fr fn.resultTypes.toList fn.results.toList).run s.hp=some (rs,U7)) a w):
  Calls P f ⟨us⟩ w (fun e w'=> ∃u,e= .returned u/\aW P I w (Iv P f) rs u w'):=by
 have hbo':=lI;unfold Bb at lI;rw[hb] at lI;simp only[Ed,oW] at lI;obtain⟨⟨pN,kM⟩,hs3⟩:=lI;have jS:us.length=fn.params.size+fn.nfree:=by rw[<-ha.1];exact Ij
 have hrt:Iv P f=fn.resultTypes.toList:=by simp[Iv,kI]
 refine callsIn_wide.1 (callsIn_of_wp_marks (n:=0) kI hb trivial (wpIn_mono (walk _ ?_) ?_))
 ·refine⟨I,fun _=>none,⟨fun x=>trivial,fun x y p q hl=>by simp[U9,It.live] at hl,hI,fun b hb=>hb.1,fun b hb hk=>hk.2 hb,oJ⟩,.refl _ _ _ _ _,fun t=>?_,?_,rfl⟩
  ·exact Cl (ha.imp fun a u h=>Gz h) t
  ·simp only[AX,AW,BA]
   omega
 ·rintro e a' w' ⟨he,D,I1,m1,hp1,w1,s,U7,hD,hDK,E01,S,hr⟩
  obtain⟨I2,m2,G2,E2,Ic,_,Uc⟩:=S;have hD2:w'.heap[D]?=some (.deferred (some [])):=(E2.keep D (.inr (.inr rfl))).trans hD;have G3:=G2.lessK (K:=fun b=>b<w.heap.size/\ ¬I b) fun b hb=> .inl hb
  obtain⟨G4,E4⟩:=G3.putObj hD2 rfl (fun hi=>G2.ik _ hi (.inr rfl)) hDK (.deferred none);obtain⟨I5,bs,us',Uk,G5,E5,d5,nb,i5,l5,m5,n5⟩:=Et G4 (fun t=>Ie.mono E4 _ _ _ (Ic t)) hr;have E12:=((E01.trans (E2.lessK fun b hb=> .inl hb)).trans E4).trans E5;have post:aW P I w (Iv P f) rs (gF us') (w'.putObj D (.deferred none)):={
   old:=fun b hb=>E12.keep b (by
    by_cases hi:I b
    ·exact .inl hi
    ·exact .inr ⟨hb,hi⟩)
   size:=E12.size
   os:=E12.os
   tape:=E12.tape
   output:=E12.output
   res:=⟨I5,us',bs,rfl,E12.isub,fun b hb=>by
     by_cases hi:I b
     ·exact .inl hi
     ·exact .inr (GN fun Ii=>G5.ik b hb ⟨Ii,hi⟩),G5.ilt,fun b hb=>by
     refine⟨GN fun Ii=>?_,(nb b hb).1⟩;by_cases hi:I b
     ·exact(nb b hb).1 (E12.isub b hi)
     ·exact(nb b hb).2 ⟨Ii,hi⟩,n5,by rw[hrt];exact d5⟩}
  have fin:LeavesInM Fence.wide 0 P fn a'.tmps (fun e w'=> ∃u,e= .returned u/\aW P I w (Iv P f) rs u w') a'.defers .returning w':=by
   rw[Uc];exact⟨Zi,.inl ⟨_,_,rfl,run_takeDeferred hD2,_,Bl fn _ us' Uk,_,rfl,post⟩⟩
  rcases he with rfl|rfl
  ·exact fin
  ·exact fin
end
end
section
open Go
variable {st:AS}{a:Act}{args:Array Operand}{ats:Array TypeId}{hp':Hp}{cs:List AV}{f:Nat}{x:Operand}{v:Value}{w:World}
section
variable {P:Program}{E:cD}{call:aS}{K:Nat->Prop}{k N:Nat}{B:jZ}
theorem Bta {k N:Nat}{B:jZ}{o:Oper}{next:Act→World→Prop}{Q:Exit→Act→World→Prop}(hc:B7 P k f (args.toList.map (Uy st.fr)++cs) st.hp v hp')
  (ho:o.op= .call ⟨.value x,args,ats⟩) (hx:Uy st.fr x= .fn f cs) (Uz:Il P f=true) (Ii:f<1000000) (S:aX k N K B st a w) (hQ: ∀a' w',aX k N K B ⟨st.fr,hp'⟩ a' w'→Q (.panic (iN v)) a' w'):o.wp P a w next Q:=by
 obtain⟨I,m,G,E0,hf,hs,rX⟩:=S;have eY:=D0 G hf;have sY:=eY x;rw[hx] at sY;simp only[Ie] at sY;obtain⟨us,hu,cB⟩:=sY;simp only[sW,Ka Ii] at hu;have pR:Ue (Ie k I m st.hp w) (args.toList.map (Uy st.fr)) (args.toList.map a.eval):=by
  refine⟨Zi,fun j x u h1 h2=>?_⟩;rw[qY] at h1 h2
  cases hj:args.toList[j]? with
  |none=>rw[hj] at h1;cases h1
  |some z=>rw[hj] at h1 h2;cases h1;cases h2;exact eY z
 have cU:=pR.append ((Ae _ _).1 cB);have fV:=hc I K m w _ Uz G cU;have DG:(⟨args.toList.map a.eval++us⟩:Array Value)=args.map a.eval++⟨us⟩:=by apply sI;simp
 rw[DG] at fV;unfold Il at Uz
 split at Uz
 ·rename_i fn kI
  simp only[Ed,zC] at Uz;have Uk:(execOp a.eval o).run P w= .ok (.enter f (args.map a.eval++⟨us⟩)) w:=by
   have hb:fn.body≠none:=fun hq=>by simp[hq] at Uz
   have uG:fn.name≠ "runtime.NumGoroutine" :=by simpa using Uz.2
   obtain⟨dst,op,type,pos,after,guard⟩:=o;simp only at ho;subst ho;simp[execOp,resolve,hu,Deferred.ofValue,invoke,callFunc,kI,uG,hb]
  unfold Oper.wp;rw[Uk];refine fV.mono fun e w' he=>?_
  obtain⟨rfl,I',m',G',E'⟩:=he;exact hQ a w' ⟨I',m',G',E0.trans E',fun t=>Ie.mono E' _ _ _ (hf t),hs,rX⟩
 ·cases Uz
theorem Ey (hE:dS P E)(hC:Av P call){all:Array Oper}{Q:Exit->Act->World->Prop}{L:List Nat}: ∀(os:List Oper) (n:Nat) {st st':AS} {a:Act} {w:World},(∀j,j<os.length->os[j]?=all[n+j]?)->(∀o∈os,∀x,o.dst=some x->x<N)->
  aX k N K B st a w->cW P E k call all os st=some st'->(∀a' w',aX k N K B st' a' w'->wpOps P all Q L a' w')->wpOps P all Q (List.range' n os.length++L) a w
 |[],n,st,st',a,w,_,_,S,h,hQ=>by
  simp only[cW,Bc] at h;subst h;simpa using hQ a w S
 |o::os,n,st,st',a,w,hl,hd,S,h,hQ=>by
  have h0:all[n]?=some o:=by simpa using(hl 0 Zi).symm
  have tD: ∀j,j<os.length->os[j]?=all[n+1+j]?:=fun j hj=>by have:=hl (j+1) (by simpa using hj);simpa[tJ,OF 1 j] using this
  have uT: ∀o∈os,∀x,o.dst=some x->x<N:=fun p hp=>hd p (T8 _ hp)
  have DD:=hd o (Vc ..);simp only[cW] at h;simp only[wP,Acg,FG,wpOps,h0]
  split at h
  ·rename_i hg
   rw[S.guard hg,Ka rfl]
   split at h
   ·rename_i v hp hr
    refine .inl ((S.op hE hC DD hr).wp fun u w' S'=>?_);exact Ey hE hC os (n+1) tD uT S' h hQ
   ·cases h
  ·rename_i hg
   rw[S.guard hg];simp only[pW,lJ];exact Ey hE hC os (n+1) tD uT (S.skip DD) h hQ
  ·cases h
theorem Mf (hE:dS P E)(hC:Av P call){Q:Exit->Act->World->Prop}{st':AS}{id:Nat}{pre:List Oper}{dd:Option Nat}{ty:TypeId}{pos:String}{aft:Array Edge}
  (hs:Im N (.region id (pre++[(⟨dd,.call ⟨.value x,args,ats⟩,ty,pos,aft,none⟩:Oper)]).toArray false)=true) (S:aX k N K B st a w)
  (h:cW P E k call (pre++[(⟨dd,.call ⟨.value x,args,ats⟩,ty,pos,aft,none⟩:Oper)]).toArray pre st=some st') (hx:Uy st'.fr x= .fn f cs) (Uz:Il P f=true) (Ii:f<1000000) (hc:B7 P k f (args.toList.map (Uy st'.fr)++cs) st'.hp v hp')
  (hQ: ∀a' w',aX k N K B ⟨st'.fr,hp'⟩ a' w'->Q (.panic (iN v)) a' w'):(Code.region id (pre++[(⟨dd,.call ⟨.value x,args,ats⟩,ty,pos,aft,none⟩:Oper)]).toArray false).wp P Q a w:=by
 refine vA ?_;have hd:=B8 hs;have aZ:(pre++[(⟨dd,.call ⟨.value x,args,ats⟩,ty,pos,aft,none⟩:Oper)]).toArray.size=pre.length+1:=Zi;rw[aZ,Acj,List.range'_1_concat];simp only[mH];refine Ey hE hC pre 0 (fun j hj=>by simp[Acz,hj]) (fun o ho=>hd o (by simp[ho])) S h (fun a' w' S'=>?_);simp only[wpOps];have h0:(pre++[(⟨dd,.call ⟨.value x,args,ats⟩,ty,pos,aft,none⟩:Oper)]).toArray[pre.length]?=some ⟨dd,.call ⟨.value x,args,ats⟩,ty,pos,aft,none⟩:=Zi;rw[h0];simp only[Region.wanted,iW];exact .inl (Bta hc rfl hx Uz Ii S' hQ)
end
def chain :List Code->Code->Code
 |[],y=>y
 |c::cs,y=> .seq c (chain cs y)
section
variable {P:Program}{K:Nat->Prop}{k N:Nat}{B:jZ}{E:cD}{call:aS}
def lM (P:Program)(E:cD)(k:Nat)(call:aS)(R:Ex->AS->Prop)(F:AS->Prop):List Code->AS->Prop
 |[],s=>F s
 |c::cs,s=>W P E k call c s (lO (lM P E k call R F cs) R)
theorem lM.wp (hm:P.follows .mixedOrders=true)(hE:dS P E)(hC:Av P call){R:Ex->AS->Prop}{F:AS->Prop}{y:Code}{Q:Exit->Act->World->Prop}
  (hF: ∀s a' w',F s->aX k N K B s a' w'->y.wp P Q a' w') (hR: ∀e s a' w',e≠ .normal->R e s->aX k N K B s a' w'->Q (xP e) a' w')
  (hP: ∀v hp' a' w',R (.panic v) ⟨fun _=> .any,hp'⟩->uO K B hp' a' w'->Q (.panic (iN v)) a' w'):
  ∀(cs:List Code) {st:AS} {a:Act} {w:World},lM P E k call R F cs st->(∀c∈cs,Im N c=true)->aX k N K B st a w->(chain cs y).wp P Q a w
 |[],st,a,w,h,_,S=>hF st a w h S
 |c::cs,st,a,w,h,hs,S=>by
  refine nM ?_;refine W.wp hm hE hC h (hs c Zi) S (fun e s a' w' h1 S'=>?_) (fun v hp' a' w' h1 hp=>?_)
  ·cases e with
   |normal=>exact lM.wp hm hE hC hF hR hP cs h1 (fun c hc=>hs c (by simp[hc])) S'
   |exit i=>exact hR (.exit i) s a' w' Zi h1 S'
   |ret=>exact hR .ret s a' w' Zi h1 S'
   |panic v=>exact hR (.panic v) s a' w' Zi h1 S'
  ·exact hP v hp' a' w' h1 hp
theorem W.pick {c:Code}{R:Ex->AS->Prop}(h:W P E k call c st R): ∃e s',W P E k call c st (fun e1 s1=>e1=e/\s1=s')/\R e s':=by
 obtain⟨e,s',h1,h2⟩:=h;exact⟨e,s',⟨e,s',h1,rfl,rfl⟩,h2⟩
theorem lM.pick {R:Ex->AS->Prop}{F:AS->Prop}: ∀(cs:List Code) {st:AS},lM P E k call R F cs st->
  ∃e s',lM P E k call (fun e1 s1=>e1=e/\s1=s') (fun s1=>s1=s'/\e= .normal) cs st/\((e= .normal/\F s')\/(e≠ .normal/\R e s'))
 |[],st,h=>⟨.normal,st,⟨rfl,rfl⟩,.inl ⟨rfl,h⟩⟩
 |c::cs,st,h=>by
  obtain⟨e1,s1,h1,h2⟩:=h
  cases e1 with
  |normal=>
   obtain⟨e,s',h3,h4⟩:=lM.pick cs h2;exact⟨e,s',⟨.normal,s1,h1,h3⟩,h4⟩
  |exit i=>exact⟨.exit i,s1,⟨.exit i,s1,h1,rfl,rfl⟩,.inr ⟨Zi,h2⟩⟩
  |ret=>exact⟨.ret,s1,⟨.ret,s1,h1,rfl,rfl⟩,.inr ⟨Zi,h2⟩⟩
  |panic v=>exact⟨.panic v,s1,⟨.panic v,s1,h1,rfl,rfl⟩,.inr ⟨Zi,h2⟩⟩
end
end
end Go.Ab
