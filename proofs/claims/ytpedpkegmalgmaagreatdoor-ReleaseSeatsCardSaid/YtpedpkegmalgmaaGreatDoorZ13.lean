/- A part of the proof: Ab32. -/
import Derived.Test.YtpedpkegmalgmaaGreatDoorZ09
import Derived.RangeFuncCalls
import Derived.OwnWalkIn
set_option linter.unusedSimpArgs false
set_option linter.unusedVariables false
namespace Go.Ab
section
open Go Go.RowKit
def flatC :Code→Bool
 | .seq a b=>flatC a&&flatC b
 | .cond _ a b=>flatC a&&flatC b
 | .block _ c=>flatC c
 | .loop c=>flatC c
 | .scope _=>false
 |_=>true
section
variable {P:Program}{K:Nat→Prop}{k N:Nat}{B:Base}{E:Cfg}{call:Orc}{l0 n0:Nat}
theorem evOp_nd {fr:Nat→AV}{o:Oper}{hp:Hp}{r:AV×Hp}(h:(evOp P E k call fr o).run hp=some r): ∀c,o.op≠ .defer c:=by
 intro c hc
 unfold evOp at h
 rw[hc] at h
 simp[Prog.run] at h
theorem OpR.wpR {o:Oper}{a:Act}{w:World}{Post:Value→World→Prop}(hnd: ∀c,o.op≠ .defer c)(h:OpR P o a w Post){next:Act→World→Prop}{Q:Exit→Act→World→Prop}(hn: ∀u w',Post u w'→next (a.put o.dst u) w'):o.wpIn (Fence.wide.inRound l0) n0 P a w next Q:=by
 refine⟨fun _ _=>trivial,?_⟩
 unfold OpR at h
 rw[Oper.semAt_plain _ _ _ hnd]
 split at h
 ·rename_i u w' he;rw[he];exact hn _ _ h
 ·rename_i w' he;rw[he];exact hn _ _ h
 ·rename_i f args w' he
  rw[he]
  refine⟨fun h=>by simp[Fence.wide,Fence.inRound] at h,((callsIn_wide.2 h).inRound l0).mono ?_⟩
  rintro e w'' ⟨u,rfl,h2⟩
  exact hn _ _ h2
 ·exact h.elim
theorem evOps_okR (hE:ELaw P E)(hC:OrcOk P call){all:Array Oper}{Q:Exit→Act→World→Prop}: ∀(os:List Oper) (n:Nat) {st st':AS} {a:Act} {w:World},(∀j,os[j]?=all[n+j]?)→(∀o∈os,∀x,o.dst=some x→x<N)→
  StR k N K B st a w→evOps P E k call all os st=some st'→(∀a' w',StR k N K B st' a' w'→Q .normal a' w')→wpOpsIn (Fence.wide.inRound l0) n0 P all Q (List.range' n os.length) a w
 |[],n,st,st',a,w,_,_,S,h,hQ=>by
  simp only[evOps,Option.some.injEq] at h
  subst h
  exact hQ a w S
 |o::os,n,st,st',a,w,hl,hd,S,h,hQ=>by
  have h0:all[n]?=some o:=by simpa using(hl 0).symm
  have hl': ∀j,os[j]?=all[n+1+j]?:=fun j=>by have:=hl (j+1);simpa[Nat.add_assoc,Nat.add_comm 1 j] using this
  have hd': ∀o∈os,∀x,o.dst=some x→x<N:=fun p hp=>hd p (List.mem_cons_of_mem _ hp)
  have hdo:=hd o (List.mem_cons_self ..)
  simp only[evOps] at h
  simp only[List.length_cons,List.range'_succ,wpOpsIn,h0]
  split at h
  ·rename_i hg
   rw[S.guard hg,if_pos rfl]
   split at h
   ·rename_i v hp hr
    exact(S.op hE hC hdo hr).wpR (evOp_nd hr) fun u w' S'=>evOps_okR hE hC os (n+1) hl' hd' S' h hQ
   ·cases h
  ·rename_i hg
   rw[S.guard hg]
   simp only[Bool.false_eq_true,if_false]
   exact⟨fun _ _=>trivial,evOps_okR hE hC os (n+1) hl' hd' (S.skip hdo) h hQ⟩
  ·cases h
theorem any_okR (hE:ELaw P E)(hC:OrcOk P call){all:Array Oper}{fs:List Foot}{stf:AS}{Q:Exit→Act→World→Prop}(hd: ∀o∈all.toList,∀x,o.dst=some x→x<N)(hQ: ∀a' w',StR k N K B stf a' w'→Q .normal a' w'):
  ∀(n:Nat) (listed:Array Bool) {st:AS} {a:Act} {w:World},anyA P E k call all fs stf n listed st→StR k N K B st a w→wpAnyIn (Fence.wide.inRound l0) n0 P .any all Q n listed a w
 |0,listed,st,a,w,h,S=>by
  obtain⟨h1,rfl⟩:=h
  exact⟨h1,hQ a w S⟩
 |n+1,listed,st,a,w,h,S=>by
  refine⟨fun hr=>hQ a w (h.1 hr▸S),fun i hi=>?_⟩
  obtain⟨o,st',ho,hs,H⟩:=h.2 i hi
  have hdo:=hd o (by have:=Array.mem_of_getElem? ho;simpa using this)
  obtain⟨b,v,hp,R,W,g,r,rfl,hf⟩:=stepF_iff.1 hs
  unfold wpOpIn
  simp only[ho]
  rw[S.guard g]
  cases b with
  |true=>
   simp only[if_true] at r⊢
   exact(S.op hE hC hdo (runF_run _ r)).wpR (evOp_nd (runF_run _ r)) fun u w' S'=>any_okR hE hC hd hQ n _ H S'
  |false=>
   simp only[Bool.false_eq_true,if_false,Prog.runF,Option.some.injEq,Prod.mk.injEq] at r⊢
   obtain⟨rfl,rfl,_⟩:=r
   exact⟨fun _ _=>trivial,any_okR hE hC hd hQ n _ H (S.skip hdo)⟩
theorem region_anyR (hm:P.follows .mixedOrders=true)(hE:ELaw P E)(hC:OrcOk P call){all:Array Oper}{Q:Exit→Act→World→Prop}{st st':AS}{a:Act}{w:World}{id:Nat}{fs:List Foot}(hd: ∀o∈all.toList,∀x,o.dst=some x→x<N)(S:StR k N K B st a w)
  (h:runDraw P E k call all all.toList st []=some (st',fs)) (h1:drawS all=true) (h2:drawF all fs=true) (hQ: ∀a' w',StR k N K B st' a' w'→Q .normal a' w'):
  (Code.region id all true).wpIn (Fence.wide.inRound l0) n0 P Q a w:=
 wpIn_region_any hm (any_okR hE hC hd hQ all.size _ (draw_any h h1 h2) (S.drawn _))
theorem evRegion_okR (hm:P.follows .mixedOrders=true)(hE:ELaw P E)(hC:OrcOk P call){Q:Exit→Act→World→Prop}{ops:Array Oper}{draw:Bool}{st st':AS}{a:Act}{w:World}{id:Nat}(hd: ∀o∈ops.toList,∀x,o.dst=some x→x<N)
  (S:StR k N K B st a w) (h:evRegion P E k call ops draw st=some st') (hQ: ∀a' w',StR k N K B st' a' w'→Q .normal a' w'):(Code.region id ops draw).wpIn (Fence.wide.inRound l0) n0 P Q a w:=by
 unfold evRegion at h
 cases draw with
 |true=>
  simp only[if_true] at h
  split at h
  ·rename_i st1 fs hr
   split at h
   ·rename_i hc
    simp only[Bool.and_eq_true] at hc
    cases h
    exact region_anyR hm (E:=E.dry) (ELaw.dry hE.1) hC hd S hr hc.1 hc.2 hQ
   ·split at h
    ·rename_i st2 fs2 hr2
     split at h
     ·rename_i hc
      simp only[Bool.and_eq_true] at hc
      cases h
      exact region_anyR hm (E:=E.dry) (ELaw.dry hE.1) hC hd (StR.dryAll _ S) hr2 hc.1 hc.2 hQ
     ·cases h
    ·cases h
  ·cases h
 |false=>
  simp only[Bool.false_eq_true,if_false] at h
  refine wpIn_region ?_
  have:=evOps_okR (l0:=l0) (n0:=n0) hE hC (Q:=Q) ops.toList 0 (by simp) hd S h hQ
  rwa [Array.length_toList,←List.range_eq_range'] at this
theorem evC_okR (hm:P.follows .mixedOrders=true)(hE:ELaw P E)(hC:OrcOk P call): ∀(n:Nat) (c:Code) {Q:Exit→Act→World→Prop} {st st':AS} {e:Ex} {a:Act} {w:World},slotsIn N c=true→flatC c=true→StR k N K B st a w→evC P E k call n c st=some (e,st')→
  (∀a' w',StR k N K B st' a' w'→Q (exOf e) a' w')→c.wpIn (Fence.wide.inRound l0) n0 P Q a w
 |0,c,Q,st,st',e,a,w,_,_,_,h,_=>by simp[evC] at h
 |n+1,c,Q,st,st',e,a,w,hs,hfl,S,h,hQ=>by
  cases c with
  |skip=>
   simp only[evC,Option.some.injEq,Prod.mk.injEq] at h
   obtain⟨rfl,rfl⟩:=h
   exact wpIn_skip (hQ a w S)
  |label l=>
   simp only[evC,Option.some.injEq,Prod.mk.injEq] at h
   obtain⟨rfl,rfl⟩:=h
   exact wpIn_label (hQ a w S)
  |region id ops d=>
   simp only[evC] at h
   cases hr:evRegion P E k call ops d st with
   |none=>rw[hr] at h;cases h
   |some s=>
    rw[hr] at h
    simp only[Option.map_some,Option.some.injEq,Prod.mk.injEq] at h
    obtain⟨rfl,rfl⟩:=h
    have hds: ∀o∈ops.toList,∀x,o.dst=some x→x<N:=fun o ho x hx=>by
     simp only[slotsIn,List.all_eq_true,Bool.and_eq_true] at hs
     have:=(hs o ho).1
     rw[hx] at this
     simpa using this
    exact evRegion_okR hm hE hC hds S hr hQ
  |seq x y=>
   simp only[slotsIn,Bool.and_eq_true] at hs
   simp only[flatC,Bool.and_eq_true] at hfl
   simp only[evC] at h
   split at h
   ·rename_i s h1
    exact wpIn_seq (evC_okR hm hE hC n x hs.1 hfl.1 S h1 fun a' w' S'=>evC_okR hm hE hC n y hs.2 hfl.2 S' h hQ)
   ·rename_i hne
    refine wpIn_seq (evC_okR hm hE hC n x hs.1 hfl.1 S h fun a' w' S'=>?_)
    have:=hQ a' w' S'
    cases e with
    |normal=>exact(hne st' h).elim
    |exit id=>exact this
    |ret=>exact this
    |panic v=>exact this
  |cond c x y=>
   simp only[slotsIn,Bool.and_eq_true] at hs
   simp only[flatC,Bool.and_eq_true] at hfl
   simp only[evC] at h
   split at h
   ·rename_i t ht
    have hc:a.eval c= .bool t:=by
     obtain⟨I,m,G,E0,hf,hsz,hdf⟩:=S
     have:=opA_ok G hf c
     rw[ht] at this
     simpa only[Rep] using this
    refine wpIn_cond hc ?_
    cases t with
    |true=>exact evC_okR hm hE hC n x hs.1.2 hfl.1 S (by simpa using h) hQ
    |false=>exact evC_okR hm hE hC n y hs.2 hfl.2 S (by simpa using h) hQ
   ·cases h
  |block id x=>
   simp only[slotsIn] at hs
   simp only[flatC] at hfl
   simp only[evC] at h
   split at h
   ·rename_i i s h1
    refine wpIn_block (evC_okR hm hE hC n x hs hfl S h1 fun a' w' S'=>?_)
    simp only[exOf,Exit.inBlock]
    split at h
    ·rename_i hi
     simp only[Option.some.injEq,Prod.mk.injEq] at h
     obtain⟨rfl,rfl⟩:=h
     rw[if_pos hi]
     exact hQ a' w' S'
    ·rename_i hi
     simp only[Option.some.injEq,Prod.mk.injEq] at h
     obtain⟨rfl,rfl⟩:=h
     rw[if_neg hi]
     exact hQ a' w' S'
   ·rename_i hne
    refine wpIn_block (evC_okR hm hE hC n x hs hfl S h fun a' w' S'=>?_)
    have:=hQ a' w' S'
    cases e with
    |normal=>exact this
    |exit i=>exact(hne i st' h).elim
    |ret=>exact this
    |panic v=>exact this
  |loop x=>
   simp only[slotsIn] at hs
   simp only[flatC] at hfl
   refine wpIn_loopN (I:=fun g a w=> ∃s,g≤n+1∧StR k N K B s a w∧evC P E k call g (.loop x) s=some (e,st')) (j:=n+1) ⟨st,Nat.le_refl _,S,h⟩ ?_
   rintro g a w ⟨s,hg,S,h⟩
   cases g with
   |zero=>simp[evC] at h
   |succ g'=>
    have hlt:g'<n+1:=by omega
    simp only[evC] at h
    split at h
    ·rename_i s1 h1
     exact evC_okR hm hE hC g' x hs hfl S h1 fun a' w' S'=>⟨g',Nat.lt_succ_self _,s1,by omega,S',h⟩
    ·rename_i hne
     refine evC_okR hm hE hC g' x hs hfl S h fun a' w' S'=>?_
     have:=hQ a' w' S'
     cases e with
     |normal=>exact(hne st' h).elim
     |exit i=>exact this
     |ret=>exact this
     |panic v=>exact this
  |scope x=>simp[flatC] at hfl
  |exit id=>
   simp only[evC,Option.some.injEq,Prod.mk.injEq] at h
   obtain⟨rfl,rfl⟩:=h
   exact wpIn_exit (hQ a w S)
  |ret=>
   simp only[evC,Option.some.injEq,Prod.mk.injEq] at h
   obtain⟨rfl,rfl⟩:=h
   exact wpIn_ret (hQ a w S)
  |_=>simp[evC] at h
termination_by n=>n
noncomputable def evRange (P:Program)(E:Cfg)(k:Nat)(call:Orc)(n:Nat)(asg body:Code)(fr:Nat→AV)(p:Nat):List Value→Hp→Option Hp
 |[],hp=>some hp
 |v::vs,hp=>match evC P E k call n asg ⟨setd fr (some p) (.sc v),hp⟩ with
  |some (.normal,s1)=>match evC P E k call n body s1 with
   |some (.normal,s)=>evRange P E k call n asg body fr p vs s.hp
   |_=>none
  |_=>none
def ItOk (P:Program)(f:Nat)(caps:List AV)(vs:List Value):Prop:=
 ∀(I:Nat→Prop) (w:World) (us:List Value),AllR (RepD I w) caps us→ ∀(l:Nat) (J:Nat→World→Prop),
  (∀i W q,J i W→J i (W.drewN q))→(∀i W,J i W→ ∀b,I b→W.heap[b]?=w.heap[b]?)→
  (∀i v W,vs[i]?=some v→J i W→YieldAt Fence.wide 0 P l #[v] W fun e W'=>e= .returned (.bool true)∧J (i+1) W')→J 0 w→
  CallsIn Fence.wide 0 P f (#[.func (.yield l) #[] #[]]++⟨us⟩) w fun e w'=>(∃u,e= .returned u)∧J vs.length w'
theorem range_ev {g:Operand}{p f nf:Nat}{asg body:Code}{caps:List AV}{vs:List Value}{st:AS}{hpF:Hp}{a:Act}{w:World}(hm:P.follows .mixedOrders=true)(hE:ELaw P E)(hC:OrcOk P call)(hst: ∀args w,(callFunc f args).run P w= .ok (.enter f args) w)
  (S:StR k N K B st a w) (hg:opA st.fr g= .fn f caps) (hlt:f<1000000) (hcap:caps.all isDat0=true) (it:ItOk P f caps vs) (hs:slotsIn N body=true) (hfl:flatC body=true) (hsa:slotsIn N asg=true) (hfa:flatC asg=true) (hpN:p<N)
  (hev:evRange P E k call nf asg body st.fr p vs st.hp=some hpF) {Q:Exit→Act→World→Prop}
  (hQ: ∀(D:Nat) (I':Nat→Prop) (m':Mp) (a':Act) (w':World),w'.heap[D]?=some (.deferred (some []))→ ¬I' D→ ¬(D<B.w.heap.size)→Ext B.I K B.m B.hp B.w I' m' hpF w'→
   StR k N (fun b=>K b∨b=D) ⟨I',m',hpF,w',{target:= .collected D,args:= #[]}::B.df⟩ ⟨st.fr,hpF⟩ a' w'→Q .normal a' w'):
  (Code.rangeFunc g #[p] asg body).wpIn Fence.wide 0 P Q a w:=by
 obtain⟨I,m,G,E0,hfr,hsz0,hdf⟩:=S
 have hr:=opA_ok G hfr g
 rw[hg] at hr
 simp only[Rep] at hr
 obtain⟨us,hu,hus⟩:=hr
 simp only[mkFn,if_pos hlt] at hu
 have husD:=(RepDL_iff _ _).1 (datL_dat0 hcap hus)
 refine wpIn_rangeFunc ?_
 intro fn' _
 obtain⟨r,hrd⟩: ∃r:Loop,r={state:= .ready,pending:=none,fn:=fn',tmps:=a.tmps,params:= #[p],assign:=asg,body:=body,defers:=w.heap.size}:=⟨_,rfl⟩
 obtain⟨w1,hw1⟩: ∃w1,(w.alloc (.deferred (some []))).alloc (.loop r)=w1:=⟨_,rfl⟩
 have hL:w1.heap[w.heap.size+1]?=some (.loop r):=by
  rw[←hw1];have:=World.alloc_heap_new (w.alloc (.deferred (some []))) (.loop r);rwa [World.size_alloc] at this
 have hD:w1.heap[w.heap.size]?=some (.deferred (some [])):=by
  rw[←hw1];exact(Below.heap_alloc _ _ _ (by simp)).trans (World.alloc_heap_new w _)
 have hsz:w1.heap.size=w.heap.size+2:=by rw[←hw1];simp
 obtain⟨G1,E1⟩:=G.alloc' (.deferred (some []))
 obtain⟨G2,E2⟩:=G1.alloc' (.loop r)
 rw[hw1] at G2 E2
 have E12:=E1.trans E2
 have G2':Gam I (fun b=>K b∨b=w.heap.size) m st.hp w1:=G2.moreK (fun b hb=>by omega) (fun b hb hi=>by have:=G.ilt b hi;omega) (fun b hb=>by
  subst hb;exact⟨fun us T mk h=>(by rw[hD] at h;cases h),fun es c h=>(by rw[hD] at h;cases h)⟩)
 have lay: ∀{I':Nat→Prop} {m':Mp} {hp':Hp} {W:World} {q:Loop},Gam I' (fun b=>K b∨b=w.heap.size) m' hp' W→W.heap[w.heap.size+1]?=some (.loop q)→ ¬I' (w.heap.size+1)→Gam I' (fun b=>(K b∨b=w.heap.size)∨b=w.heap.size+1) m' hp' W:=by
  intro I' m' hp' W q G hl hi
  refine G.moreK (fun b hb=>?_) (fun b hb=>by subst hb;exact hi) (fun b hb=>by
   subst hb;exact⟨fun us T mk h=>(by rw[hl] at h;cases h),fun es c h=>(by rw[hl] at h;cases h)⟩)
  subst hb
  exact(Array.getElem?_eq_some_iff.1 hl).1
 have hnk: ¬(K (w.heap.size+1)∨w.heap.size+1=w.heap.size):=fun h=>h.elim (fun h=>by have:=G.klt _ h;omega) (by omega)
 have turn: ∀{I':Nat→Prop} {m':Mp} {hp':Hp} {W:World} {q:Loop} (q':Loop),Gam I' (fun b=>(K b∨b=w.heap.size)∨b=w.heap.size+1) m' hp' W→W.heap[w.heap.size+1]?=some (.loop q)→
   Gam I' (fun b=>K b∨b=w.heap.size) m' hp' (W.putObj (w.heap.size+1) (.loop q'))∧Ext I' (fun b=>K b∨b=w.heap.size) m' hp' W I' m' hp' (W.putObj (w.heap.size+1) (.loop q'))∧(W.putObj (w.heap.size+1) (.loop q')).heap[w.heap.size+1]?=some (.loop q')∧ ¬I' (w.heap.size+1):=by
  intro I' m' hp' W q q' G hl
  have hni: ¬I' (w.heap.size+1):=fun hi=>G.ik _ hi (.inr rfl)
  obtain⟨g1,g2⟩:=(G.lessK (K:=fun b=>K b∨b=w.heap.size) fun b hb=> .inl hb).putObj hl rfl hni hnk (.loop q')
  exact⟨g1,g2,World.putObj_heap_same (Array.getElem?_eq_some_iff.1 hl).1,hni⟩
 have hni0: ¬I (w.heap.size+1):=fun hi=>by have:=G.ilt _ hi;omega
 obtain⟨J,hJ⟩: ∃J:Nat→World→Prop,J=fun i W=>W.heap[w.heap.size+1]?=some (.loop r)∧ ∃hp' I' m',evRange P E k call nf asg body st.fr p (vs.drop i) hp'=some hpF∧Gam I' (fun b=>(K b∨b=w.heap.size)∨b=w.heap.size+1) m' hp' W∧Ext I (fun b=>K b∨b=w.heap.size) m st.hp w1 I' m' hp' W:=⟨_,rfl⟩
 refine⟨w.heap.size+1,[{target:= .collected w.heap.size,args:= #[]}],w1,{target:= .fn (.func f) ⟨us⟩,args:= #[.func (.yield (w.heap.size+1)) #[] #[]]},w1,f,#[.func (.yield (w.heap.size+1)) #[] #[]]++⟨us⟩,w1,?_,?_,fun _ _=>trivial,?_,fun h=>by simp[Fence.wide] at h,?_⟩
 ·rw[←hw1,hrd];exact run_enterLoop_outer _ _ _ _ _
 ·simp only[resolve,hu]
  simp[go_sem]
 ·simp[invoke,go_sem,hst]
 ·refine(it I w1 us (husD.imp fun a u h=>RepD.mono (fun _ h=>h) (fun b hb=>E12.keep b (.inl hb)) a u h) (w.heap.size+1) J ?_ ?_ ?_ ?_).mono ?_
  ·intro i W q hj
   rw[hJ] at hj⊢
   obtain⟨hl,hp',I',m',he,G',E'⟩:=hj
   obtain⟨G3,E3⟩:=G'.world' (w':=W.drewN q) (fun _ _=>rfl) ⟨fun _ _=>rfl,Nat.le_refl _,rfl,rfl,rfl⟩
   exact⟨hl,hp',I',m',he,G3,E'.trans (E3.lessK fun b hb=> .inl hb)⟩
  ·intro i W hj b hb
   rw[hJ] at hj
   obtain⟨hl,hp',I',m',he,G',E'⟩:=hj
   exact E'.keep b (.inl hb)
  ·intro i v W hv hj
   rw[hJ] at hj
   obtain⟨hl,hp',I',m',he,G',E'⟩:=hj
   obtain⟨hlt',hv'⟩:=List.getElem?_eq_some_iff.1 hv
   rw[List.drop_eq_getElem_cons hlt',hv'] at he
   simp only[evRange] at he
   split at he
   case h_2=>cases he
   rename_i s1 ha1
   split at he
   case h_2=>cases he
   rename_i s hb
   have hy:=run_yield (P:=P) (args:= #[v]) hl (by rw[hrd];rfl)
   refine⟨_,_,_,_,hy,?_⟩
   rw[hrd] at hl⊢
   simp only
   refine roundIn_of_wpIn trivial ?_
   have hslots: ∀t,Rep k I' m' hp' _ (st.fr t) (Act.eval {tmps:=a.tmps,defers:=[]} (.tmp t)):=fun t=>Rep.mono E' k _ _ (Rep.mono E12 k _ _ (hfr t))
   have S1:=setd_ok (d:=some p) hslots (v:= .sc v) (u:=v) (by simp only[Rep]) (fun x hx=>by cases hx;rw[show(⟨a.tmps,[]⟩:Act).tmps.size=N from hsz0];exact hpN)
   have S2:StR k N (fun b=>(K b∨b=w.heap.size)∨b=w.heap.size+1) ⟨I',m',hp',_,[]⟩ ⟨setd st.fr (some p) (.sc v),hp'⟩ {tmps:=a.tmps.setIfInBounds p v,defers:=[]} _:=⟨I',m',G',.refl _ _ _ _ _,S1,by simpa using hsz0,rfl⟩
   refine evC_okR hm hE hC nf asg hsa hfa (a:={tmps:=_,defers:=[]}) (by rw[show((#[p].zip #[v]).foldl (fun(tmps:Array Value) (x:Nat×Value)=>tmps.setIfInBounds x.1 x.2) a.tmps)=a.tmps.setIfInBounds p v by simp] at*;exact S2) ha1 ?_
   intro a1 W1 S3
   obtain⟨I3,m3,G3,E3,hfr3,hsz3,hdf3⟩:=S3
   have hl3:=(E3.keep _ (.inr (.inr rfl))).trans hl
   refine⟨_,run_beginRound hl3 rfl,?_⟩
   obtain⟨Gb,Eb,hl2,hni2⟩:=turn {r with state:= .busy} G3 hl3
   rw[hrd] at Gb Eb hl2
   have Gc:=lay Gb hl2 hni2
   have S4:StR k N (fun b=>(K b∨b=w.heap.size)∨b=w.heap.size+1) ⟨I3,m3,s1.hp,_,[]⟩ s1 a1 _:=⟨I3,m3,Gc,.refl _ _ _ _ _,fun t=>Rep.mono Eb k _ _ (hfr3 t),hsz3,hdf3⟩
   refine evC_okR hm hE hC nf body hs hfl S4 hb ?_
   intro a3 W3 S5
   obtain⟨I5,m5,G5,E5,_,_,_⟩:=S5
   have hl5:=(E5.keep _ (.inr (.inr rfl))).trans hl2
   refine⟨_,_,run_endRound none hl5,rfl,?_⟩
   obtain⟨Gd,Ed,hl4,hni4⟩:=turn _ G5 hl5
   rw[hJ,hrd]
   exact⟨hl4,s.hp,I5,m5,he,lay Gd hl4 hni4,(((E'.trans (E3.lessK fun b hb=> .inl hb)).trans Eb).trans (E5.lessK fun b hb=> .inl hb)).trans Ed⟩
  ·rw[hJ]
   exact⟨hL,st.hp,I,m,hev,lay G2' hL hni0,.refl _ _ _ _ _⟩
  ·rintro e w' ⟨⟨u,rfl⟩,hj⟩
   rw[hJ] at hj
   obtain⟨hl,hp',I',m',he,G',E'⟩:=hj
   rw[List.drop_length] at he
   simp only[evRange,Option.some.injEq] at he
   subst he
   have hend:(Instr.endLoop (w.heap.size+1)).run P w'= .ok none (w'.putObj (w.heap.size+1) (.loop {r with state:= .exhausted})):=by
    have:=run_endLoop (P:=P) hl (by rw[hrd];simp)
    rw[this,hrd]
   refine⟨none,_,hend,?_⟩
   have hD':w'.heap[w.heap.size]?=some (.deferred (some [])):=(E'.keep _ (.inr (.inr rfl))).trans hD
   obtain⟨Gb,Eb,hl2,hni2⟩:=turn {r with state:= .exhausted} G' hl
   have EK:Ext I K m st.hp w I' m' hp' (w'.putObj (w.heap.size+1) (.loop {r with state:= .exhausted})):=E12.trans ((E'.trans Eb).lessK fun b hb=> .inl hb)
   exact hQ w.heap.size I' m' _ _ ((World.putObj_heap_other (by omega)).trans hD') (fun hi=>G'.ik _ hi (.inl (.inr rfl))) (fun hk=>by have:=E0.size;omega) (E0.trans EK)
    ⟨I',m',Gb,.refl _ _ _ _ _,fun t=>Rep.mono EK _ _ _ (hfr t),hsz0,by simp[hdf]⟩
abbrev Its :=Nat→List AV→Option (List Value)
def ItLaw (P:Program)(it:Its):Prop:= ∀f caps vs,it f caps=some vs→ItOk P f caps vs∧ ∀args w,(callFunc f args).run P w= .ok (.enter f args) w
def hasR :Code→Bool
 | .rangeFunc _ _ _ _=>true
 | .seq a b=>hasR a||hasR b
 | .block _ c=>hasR c
 |_=>false
noncomputable def evM (P:Program)(E:Cfg)(call:Orc)(it:Its)(n N:Nat):Code→AS→Option (Ex×AS)
 | .rangeFunc g ps asg body,st=>match ps.toList,opA st.fr g with
  |[p],.fn f caps=>if f<1000000∧caps.all isDat0=true∧flatC body=true∧slotsIn N body=true∧flatC asg=true∧slotsIn N asg=true∧p<N then
    match it f caps with
    |some vs=>match evRange P E 0 call n asg body st.fr p vs st.hp with
     |some hp=>some (.normal,⟨st.fr,hp⟩)
     |none=>none
    |none=>none
   else none
  |_,_=>none
 | .block id c,st=>match evM P E call it n N c st with
  |some (.normal,s)=>some (.normal,s)
  |_=>none
 | .seq a b,st=>if hasR a then match evM P E call it n N a st with
   |some (.normal,s)=>evC P E 0 call n b s
   |_=>none
  else match evC P E 0 call n a st with
   |some (.normal,s)=>evM P E call it n N b s
   |_=>none
 |_,_=>none
noncomputable def evFnM (P:Program)(E:Cfg)(call:Orc)(it:Its)(n:Nat)(fn:Func)(args:List AV):Option (List AV):=
 match fn.body with
 |some c=>if bodyOk fn&&args.length==fn.params.size+fn.nfree then match evM P E call it n fn.ntmps c ⟨frame0 args,hp0⟩ with
   |some (.normal,st)=>((resultsP P st.fr fn.resultTypes.toList fn.results.toList).run st.hp).map (·.1)
   |some (.ret,st)=>((resultsP P st.fr fn.resultTypes.toList fn.results.toList).run st.hp).map (·.1)
   |_=>none
  else none
 |none=>none
theorem evM_ok (hm:P.follows .mixedOrders=true)(hE:ELaw P E)(hC:OrcOk P call){it:Its}(hI:ItLaw P it){n:Nat}: ∀(c:Code) {Q:Exit→Act→World→Prop} {st st':AS} {e:Ex} {a:Act} {w:World},slotsIn N c=true→StR 0 N K B st a w→evM P E call it n N c st=some (e,st')→
  (∀(D:Nat) (I1:Nat→Prop) (m1:Mp) (hp1:Hp) (w1:World) (a':Act) (w':World),w1.heap[D]?=some (.deferred (some []))→ ¬(D<B.w.heap.size)→ ¬I1 D→Ext B.I K B.m B.hp B.w I1 m1 hp1 w1→
   StR 0 N (fun b=>K b∨b=D) ⟨I1,m1,hp1,w1,{target:= .collected D,args:= #[]}::B.df⟩ st' a' w'→Q (exOf e) a' w')→c.wpIn Fence.wide 0 P Q a w
 | .seq x y,Q,st,st',e,a,w,hs,S,h,hQ=>by
  simp only[slotsIn,Bool.and_eq_true] at hs
  simp only[evM] at h
  split at h
  ·split at h
   ·rename_i s h1
    refine wpIn_seq (evM_ok hm hE hC hI x hs.1 S h1 ?_)
    intro D I' m' hp1 w1 a1 w2 z1 z2 z3 z4 z5
    exact wpIn_wide.2 (evC_ok hm hE hC n y hs.2 z5 h fun a2 w3 z6=>hQ D I' m' hp1 w1 a2 w3 z1 z2 z3 z4 z6)
   ·cases h
  ·split at h
   ·rename_i s h1
    exact wpIn_seq (wpIn_wide.2 (evC_ok hm hE hC n x hs.1 S h1 fun a1 w1 S1=>evM_ok hm hE hC hI y hs.2 S1 h hQ))
   ·cases h
 | .block id x,Q,st,st',e,a,w,hs,S,h,hQ=>by
  simp only[slotsIn] at hs
  simp only[evM] at h
  split at h
  ·rename_i s h1
   simp only[Option.some.injEq,Prod.mk.injEq] at h
   obtain⟨rfl,rfl⟩:=h
   refine wpIn_block (evM_ok hm hE hC hI x hs S h1 ?_)
   intro D I' m' hp1 w1 a1 w2 z1 z2 z3 z4 z5
   exact hQ D I' m' hp1 w1 a1 w2 z1 z2 z3 z4 z5
  ·cases h
 | .rangeFunc g ps asg body,Q,st,st',e,a,w,hs,S,h,hQ=>by
  simp only[evM] at h
  split at h
  case h_2=>cases h
  rename_i p f caps hps hg
  split at h
  case isFalse=>cases h
  rename_i hc
  obtain⟨c1,c2,c3,c4,c6,c7,c5⟩:=hc
  split at h
  case h_2=>cases h
  rename_i vs hit
  split at h
  case h_2=>cases h
  rename_i hp1 hr
  simp only[Option.some.injEq,Prod.mk.injEq] at h
  obtain⟨rfl,rfl⟩:=h
  have hps':ps= #[p]:=Array.ext' hps
  subst hps'
  obtain⟨q1,q2⟩:=hI f caps vs hit
  refine range_ev hm hE hC q2 S hg c1 c2 q1 c4 c3 c7 c6 c5 hr ?_
  intro D I' m' a1 w1 z1 z2 z3 z4 z5
  exact hQ D I' m' hp1 w1 a1 w1 z1 z3 z2 z4 z5
 | .skip,_,_,_,_,_,_,_,_,h,_=>by simp[evM] at h
 | .label _,_,_,_,_,_,_,_,_,h,_=>by simp[evM] at h
 | .region _ _ _,_,_,_,_,_,_,_,_,h,_=>by simp[evM] at h
 | .cond _ _ _,_,_,_,_,_,_,_,_,h,_=>by simp[evM] at h
 | .loop _,_,_,_,_,_,_,_,_,h,_=>by simp[evM] at h
 | .scope _,_,_,_,_,_,_,_,_,h,_=>by simp[evM] at h
 | .exit _,_,_,_,_,_,_,_,_,h,_=>by simp[evM] at h
 | .goto _,_,_,_,_,_,_,_,_,h,_=>by simp[evM] at h
 | .refuse _,_,_,_,_,_,_,_,_,h,_=>by simp[evM] at h
 | .ret,_,_,_,_,_,_,_,_,h,_=>by simp[evM] at h
theorem evFnM_ok (hm:P.follows .mixedOrders=true)(hE:ELaw P E)(hC:OrcOk P call){it:Its}(hI:ItLaw P it){n f:Nat}{fn:Func}(hfn:P.funcs[f]?=some fn){args rs:List AV}(h:evFnM P E call it n fn args=some rs)
  {I:Nat→Prop} {w:World} {us:List Value} (hlt: ∀b,I b→b<w.heap.size) (hgl:GlOk I w) (ha:AllR (RepA I w) args us):
  Calls P f ⟨us⟩ w (fun e w'=> ∃u,e= .returned u∧CallPost P I w (rtys P f) rs u w'):=by
 unfold evFnM at h
 split at h
 case h_2=>cases h
 rename_i c hb
 split at h
 case isFalse=>cases h
 rename_i hc
 simp only[Bool.and_eq_true,beq_iff_eq] at hc
 obtain⟨hbo,hlen⟩:=hc
 have hbo':=hbo
 unfold bodyOk at hbo'
 rw[hb] at hbo'
 simp only[Bool.and_eq_true,decide_eq_true_eq] at hbo'
 obtain⟨⟨hs1,hs2⟩,hs3⟩:=hbo'
 refine fnM_ok hfn hb hbo hlen hlt hgl ha fun a S=>?_
 have key: ∀(e:Ex) (s:AS),evM P E call it n fn.ntmps c ⟨frame0 args,hp0⟩=some (e,s)→(e= .normal∨e= .ret)→((resultsP P s.fr fn.resultTypes.toList fn.results.toList).run s.hp).map (·.1)=some rs→
   c.wpIn Fence.wide 0 P (fun e a' w'=>(e= .normal∨e= .ret)∧ ∃D I1 m1 hp1 w1 s hpf,w1.heap[D]?=some (.deferred (some []))∧ ¬(D<w.heap.size∧ ¬I D)∧Ext I (fun b=>b<w.heap.size∧ ¬I b) (fun _=>none) hp0 w I1 m1 hp1 w1∧
    StR 0 fn.ntmps (fun b=>(b<w.heap.size∧ ¬I b)∨b=D) ⟨I1,m1,hp1,w1,[{target:= .collected D,args:= #[]}]⟩ s a' w'∧(resultsP P s.fr fn.resultTypes.toList fn.results.toList).run s.hp=some (rs,hpf)) a w:=by
  intro e s he hen hres
  refine evM_ok hm hE hC hI c hs1 S he ?_
  intro D I1 m1 hp1 w1 a' w' z1 z2 z3 z4 z5
  obtain⟨⟨rs',hpf⟩,hr1,hr2⟩:=Option.map_eq_some_iff.1 hres
  simp only at hr2
  subst hr2
  refine⟨?_,D,I1,m1,hp1,w1,s,hpf,z1,fun h=>z2 h.1,z4,z5,hr1⟩
  rcases hen with rfl|rfl
  ·exact .inl rfl
  ·exact .inr rfl
 split at h
 ·rename_i s he;exact key _ _ he (.inl rfl) h
 ·rename_i s he;exact key _ _ he (.inr rfl) h
 ·cases h
end
end
end Go.Ab
