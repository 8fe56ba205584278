/- A part of the proof: Ab15, Ab16, Ab17, Ab18, Ab19, Ab20, Ab21, Ab30, Ab22, Ab23. -/
import Derived.Test.YtpedpkegmalgmaaGreatDoorZ01
import Derived.Scope
import Derived.IntWalk
set_option linter.unusedSimpArgs false
set_option linter.unusedVariables false
namespace Go.Ab
section
open Go
structure Base where
 I:Nat→Prop
 m:Mp
 hp:Hp
 w:World
 df:List Deferred
def StR (k N:Nat)(K:Nat→Prop)(B:Base)(st:AS)(a:Act)(w:World):Prop:=
 ∃I m,Gam I K m st.hp w∧Ext B.I K B.m B.hp B.w I m st.hp w∧(∀t,Rep k I m st.hp w (st.fr t) (a.eval (.tmp t)))∧a.tmps.size=N∧a.defers=B.df
section
variable {P:Program}{K:Nat→Prop}{k N:Nat}{B:Base}{E:Cfg}{call:Orc}
theorem put_size (a:Act)(d:Option Nat)(u:Value):(a.put d u).tmps.size=a.tmps.size:=by cases d<;>simp[Act.put]
theorem put_defers (a:Act)(d:Option Nat)(u:Value):(a.put d u).defers=a.defers:=by cases d<;>rfl
theorem put_eval (a:Act)(d:Nat)(u:Value)(t:Nat)(hd:d<a.tmps.size):(a.put (some d) u).eval (.tmp t)=if t=d then u else a.eval (.tmp t):=by
 by_cases h:t=d
 ·subst h
  simp[Act.put,Act.eval,hd]
 ·have h':d≠t:=fun e=>h e.symm
  simp[Act.put,Act.eval,h,Array.getElem?_setIfInBounds_ne h']
theorem setd_ok {I:Nat→Prop}{m:Mp}{hp:Hp}{w:World}{fr:Nat→AV}{a:Act}{d:Option Nat}{v:AV}{u:Value}(hf: ∀t,Rep k I m hp w (fr t) (a.eval (.tmp t)))(hv:Rep k I m hp w v u)(hd: ∀x,d=some x→x<a.tmps.size):
  ∀t,Rep k I m hp w (setd fr d v t) ((a.put d u).eval (.tmp t)):=by
 intro t
 cases d with
 |none=>exact hf t
 |some d=>
  rw[put_eval a d u t (hd d rfl)]
  simp only[setd]
  split
  ·exact hv
  ·exact hf t
theorem StR.op (hE:ELaw P E)(hC:OrcOk P call){st:AS}{a:Act}{w:World}(S:StR k N K B st a w){o:Oper}{v:AV}{hp':Hp}(hd: ∀x,o.dst=some x→x<N)(h:(evOp P E k call st.fr o).run st.hp=some (v,hp')):
  OpR P o a w (fun u w'=>StR k N K B ⟨setd st.fr o.dst v,hp'⟩ (a.put o.dst u) w'):=by
 obtain⟨I,m,G,E0,hf,hs,hdf⟩:=S
 have:=evOp_ok hE hC G hf h
 unfold OpR at this⊢
 have key: ∀u w',(∃I' m',Sim I' K m' hp' w' v k I m st.hp w u)→StR k N K B ⟨setd st.fr o.dst v,hp'⟩ (a.put o.dst u) w':=by
  rintro u w' ⟨I',m',G',E',R'⟩
  exact⟨I',m',G',E0.trans E',setd_ok (fun t=>Rep.mono E' _ _ _ (hf t)) R' (fun x hx=>by rw[hs];exact hd x hx),by rw[put_size];exact hs,by rw[put_defers];exact hdf⟩
 split at this
 ·exact key _ _ this
 ·exact key _ _ this
 ·exact this.mono fun e w' he=>by obtain⟨u,e1,h2⟩:=he;exact⟨u,e1,key _ _ h2⟩
 ·exact this.elim
theorem StR.skip {st:AS}{a:Act}{w:World}(S:StR k N K B st a w){d:Option Nat}(hd: ∀x,d=some x→x<N):StR k N K B ⟨setd st.fr d (.sc undef),st.hp⟩ (a.put d undef) w:=by
 obtain⟨I,m,G,E0,hf,hs,hdf⟩:=S
 exact⟨I,m,G,E0,setd_ok hf (by simp only[Rep]) (fun x hx=>by rw[hs];exact hd x hx),by rw[put_size];exact hs,by rw[put_defers];exact hdf⟩
theorem StR.guard {st:AS}{a:Act}{w:World}(S:StR k N K B st a w){all:Array Oper}{o:Oper}{b:Bool}(h:guardA all st.fr o=some b):Region.wanted o (yielded all a.tmps)=b:=by
 obtain⟨I,m,G,E0,hf,hs,hdf⟩:=S
 unfold guardA at h
 unfold Region.wanted
 split at h
 ·rename_i hg;rw[hg];simpa using h
 ·rename_i j want hg
  rw[hg]
  simp only
  split at h
  ·rename_i d hd
   have hr:=hf d
   unfold yielded
   rw[hd]
   simp only[Option.bind_some]
   simp only[Act.eval,Array.getD_eq_getD_getElem?] at hr
   split at h
   ·rename_i c hc
    rw[hc] at hr
    simp only[Rep] at hr
    cases ht:a.tmps[d]? with
    |none=>rw[ht] at hr;simp[undef] at hr
    |some u=>
     rw[ht] at hr
     simp only[Option.getD_some] at hr
     subst hr
     simp only[Option.some.injEq] at h
     rw[←h]
     cases c<;>cases want<;>rfl
   ·rename_i c hc
    rw[hc] at hr
    simp only[Rep] at hr
    simp only[Option.some.injEq] at h
    rw[←h]
    cases ht:a.tmps[d]? with
    |none=>rfl
    |some u=>
     rw[ht] at hr
     simp only[Option.getD_some] at hr
     subst hr
     rfl
   ·cases h
  ·cases h
theorem evOps_ok (hE:ELaw P E)(hC:OrcOk P call){all:Array Oper}{Q:Exit→Act→World→Prop}: ∀(os:List Oper) (n:Nat) {st st':AS} {a:Act} {w:World},(∀j,os[j]?=all[n+j]?)→(∀o∈os,∀x,o.dst=some x→x<N)→
  StR k N K B st a w→evOps P E k call all os st=some st'→(∀a' w',StR k N K B st' a' w'→Q .normal a' w')→wpOps P all Q (List.range' n os.length) a w
 |[],n,st,st',a,w,_,_,S,h,hQ=>by
  simp only[evOps,Option.some.injEq] at h
  subst h
  exact hQ a w S
 |o::os,n,st,st',a,w,hl,hd,S,h,hQ=>by
  have h0:all[n]?=some o:=by simpa using(hl 0).symm
  have hl': ∀j,os[j]?=all[n+1+j]?:=fun j=>by have:=hl (j+1);simpa[Nat.add_assoc,Nat.add_comm 1 j] using this
  have hd': ∀o∈os,∀x,o.dst=some x→x<N:=fun p hp=>hd p (List.mem_cons_of_mem _ hp)
  have hdo:=hd o (List.mem_cons_self ..)
  simp only[evOps] at h
  simp only[List.length_cons,List.range'_succ,wpOps,h0]
  split at h
  ·rename_i hg
   rw[S.guard hg,if_pos rfl]
   split at h
   ·rename_i v hp hr
    refine .inl ((S.op hE hC hdo hr).wp fun u w' S'=>?_)
    exact evOps_ok hE hC os (n+1) hl' hd' S' h hQ
   ·cases h
  ·rename_i hg
   rw[S.guard hg]
   simp only[Bool.false_eq_true,if_false]
   exact evOps_ok hE hC os (n+1) hl' hd' (S.skip hdo) h hQ
  ·cases h
theorem region_text (hE:ELaw P E)(hC:OrcOk P call){all:Array Oper}{Q:Exit→Act→World→Prop}{st st':AS}{a:Act}{w:World}{id:Nat}(hd: ∀o∈all.toList,∀x,o.dst=some x→x<N)(S:StR k N K B st a w)(h:evOps P E k call all all.toList st=some st')(hQ: ∀a' w',StR k N K B st' a' w'→Q .normal a' w'):
  (Code.region id all false).wp P Q a w:=by
 refine wp_region ?_
 have:=evOps_ok hE hC (Q:=Q) all.toList 0 (by simp) hd S h hQ
 rwa [Array.length_toList,←List.range_eq_range'] at this
end
end
section
open Go
def AgF (hp hp':Hp):Facet→Prop
 | .all x=>hp x=hp' x
 | .hd x=>(hp x).head=(hp' x).head
 | .cl x off=>cellOf (hp x) off=cellOf (hp' x) off
 | .top=>hp=hp'
 | .but _=>True
theorem setCell_head {o o':AObj}{off:Nat}{v:AV}(h:setCellOf o off v=some o'):o'.head=o.head:=by
 cases o with
 |box g c f=>
  simp only[setCellOf] at h
  split at h
  ·cases h;simp[AObj.head]
  ·cases h
 |no g=>simp[setCellOf] at h
 |arr g sz e rows f=>simp[setCellOf] at h
 |map g ag ks rows f=>simp[setCellOf] at h
theorem setCell_cell {o o':AObj}{off:Nat}{v:AV}(h:setCellOf o off v=some o')(off':Nat):cellOf o' off'=if off'=off then some v else cellOf o off':=by
 cases o with
 |box g c f=>
  simp only[setCellOf] at h
  split at h
  ·rename_i hl
   cases h
   simp only[cellOf]
   by_cases e:off'=off
   ·subst e;simp[hl]
   ·rw[if_neg e,List.getElem?_set_ne (fun h=>e h.symm)]
  ·cases h
 |no g=>simp[setCellOf] at h
 |arr g sz e rows f=>simp[setCellOf] at h
 |map g ag ks rows f=>simp[setCellOf] at h
theorem setCell_ok {o o1 p:AObj}{off:Nat}{v:AV}(h:setCellOf o off v=some o1)(hh:o.head=p.head): ∃p1,setCellOf p off v=some p1:=by
 cases o with
 |box g c f=>
  simp only[setCellOf] at h
  split at h
  ·rename_i hl
   cases p with
   |box g' c' f'=>
    simp only[AObj.head,Head.box.injEq] at hh
    exact⟨_,by simp only[setCellOf];rw[if_pos (by omega)]⟩
   |no g'=>simp[AObj.head] at hh
   |arr g' sz e rows f'=>simp[AObj.head] at hh
   |map g' ag ks rows f'=>simp[AObj.head] at hh
  ·cases h
 |no g=>simp[setCellOf] at h
 |arr g sz e rows f=>simp[setCellOf] at h
 |map g ag ks rows f=>simp[setCellOf] at h
section
variable {α:Type}
theorem runF_sub : ∀(p:Prog α) {hp hp1:Hp} {R W R1 W1:List Facet} {v:α},p.runF hp R W=some (v,hp1,R1,W1)→(∀f∈R,f∈R1)∧(∀f∈W,f∈W1)
 | .ret a,hp,hp1,R,W,R1,W1,v,h=>by
  simp only[Prog.runF,Option.some.injEq,Prod.mk.injEq] at h
  obtain⟨_,_,rfl,rfl⟩:=h
  exact⟨fun _ h=>h,fun _ h=>h⟩
 | .get x k,hp,hp1,R,W,R1,W1,v,h=>by
  simp only[Prog.runF] at h
  have:=runF_sub (k (hp x)) h
  exact⟨fun f hf=>this.1 f (List.mem_cons_of_mem _ hf),this.2⟩
 | .put x o k,hp,hp1,R,W,R1,W1,v,h=>by
  simp only[Prog.runF] at h
  have:=runF_sub k h
  exact⟨this.1,fun f hf=>this.2 f (List.mem_cons_of_mem _ hf)⟩
 | .hdr x k,hp,hp1,R,W,R1,W1,v,h=>by
  simp only[Prog.runF] at h
  have:=runF_sub (k (hp x).head) h
  exact⟨fun f hf=>this.1 f (List.mem_cons_of_mem _ hf),this.2⟩
 | .getC x off k,hp,hp1,R,W,R1,W1,v,h=>by
  simp only[Prog.runF] at h
  split at h
  ·rename_i c hc
   have:=runF_sub (k c) h
   exact⟨fun f hf=>this.1 f (List.mem_cons_of_mem _ (List.mem_cons_of_mem _ hf)),this.2⟩
  ·cases h
 | .putC x off c k,hp,hp1,R,W,R1,W1,v,h=>by
  simp only[Prog.runF] at h
  split at h
  ·have:=runF_sub k h
   exact⟨fun f hf=>this.1 f (List.mem_cons_of_mem _ hf),fun f hf=>this.2 f (List.mem_cons_of_mem _ hf)⟩
  ·cases h
 | .ext g k,hp,hp1,R,W,R1,W1,v,h=>by
  simp only[Prog.runF] at h
  split at h
  ·have:=runF_sub (k _) h
   exact⟨fun f hf=>this.1 f (List.mem_cons_of_mem _ hf),fun f hf=>this.2 f (List.mem_cons_of_mem _ hf)⟩
  ·cases h
 | .fail,_,_,_,_,_,_,_,h=>by simp[Prog.runF] at h
theorem runF_run : ∀(p:Prog α) {hp hp1:Hp} {R W R1 W1:List Facet} {v:α},p.runF hp R W=some (v,hp1,R1,W1)→p.run hp=some (v,hp1)
 | .ret a,hp,hp1,R,W,R1,W1,v,h=>by
  simp only[Prog.runF,Option.some.injEq,Prod.mk.injEq] at h
  simp[Prog.run,h]
 | .get x k,hp,hp1,R,W,R1,W1,v,h=>by
  simp only[Prog.runF] at h
  exact runF_run (k (hp x)) h
 | .put x o k,hp,hp1,R,W,R1,W1,v,h=>by
  simp only[Prog.runF] at h
  exact runF_run k h
 | .hdr x k,hp,hp1,R,W,R1,W1,v,h=>by
  simp only[Prog.runF] at h
  exact runF_run (k (hp x).head) h
 | .getC x off k,hp,hp1,R,W,R1,W1,v,h=>by
  simp only[Prog.runF] at h
  simp only[Prog.run]
  split at h
  ·rename_i c hc
   exact runF_run (k c) h
  ·cases h
 | .putC x off c k,hp,hp1,R,W,R1,W1,v,h=>by
  simp only[Prog.runF] at h
  simp only[Prog.run]
  split at h
  ·rename_i c hc
   exact runF_run k h
  ·cases h
 | .ext g k,hp,hp1,R,W,R1,W1,v,h=>by
  simp only[Prog.runF] at h
  simp only[Prog.run]
  split at h
  ·exact runF_run (k _) h
  ·cases h
 | .fail,_,_,_,_,_,_,_,h=>by simp[Prog.runF] at h
theorem runF_local : ∀(p:Prog α) {hp hp1 hp':Hp} {R W R1 W1:List Facet} {v:α},p.runF hp R W=some (v,hp1,R1,W1)→(∀f∈R1,AgF hp hp' f)→
  ∃hp1',p.runF hp' R W=some (v,hp1',R1,W1)∧(∀f,AgF hp hp' f→AgF hp1 hp1' f)∧((∀f∈W,AgF hp hp' f)→ ∀f∈W1,AgF hp1 hp1' f)
 | .ret a,hp,hp1,hp',R,W,R1,W1,v,h,ha=>by
  simp only[Prog.runF,Option.some.injEq,Prod.mk.injEq] at h
  obtain⟨rfl,rfl,rfl,rfl⟩:=h
  exact⟨hp',rfl,fun _ h=>h,fun h=>h⟩
 | .get x k,hp,hp1,hp',R,W,R1,W1,v,h,ha=>by
  simp only[Prog.runF] at h⊢
  have hx:AgF hp hp' (.all x):=ha _ ((runF_sub _ h).1 _ (List.mem_cons_self ..))
  have ih:=runF_local (k (hp x)) h ha
  simp only[AgF] at hx
  rwa [←hx]
 | .put x o k,hp,hp1,hp',R,W,R1,W1,v,h,ha=>by
  simp only[Prog.runF] at h⊢
  have key: ∀f,AgF hp hp' f→AgF (upd hp x o) (upd hp' x o) f:=by
   intro f hf
   cases f with
   |all y=>by_cases e:y=x<;>simp only[AgF,upd,e,if_true,if_false] at hf⊢;exact hf
   |hd y=>by_cases e:y=x<;>simp only[AgF,upd,e,if_true,if_false] at hf⊢;exact hf
   |cl y q=>by_cases e:y=x<;>simp only[AgF,upd,e,if_true,if_false] at hf⊢;exact hf
   |top=>simp only[AgF] at hf⊢;rw[hf]
   |but l=>trivial
  obtain⟨hp1',h1,h2,h3⟩:=runF_local k h (fun f hf=>key f (ha f hf))
  refine⟨hp1',h1,fun f hf=>h2 f (key f hf),fun hw=>h3 fun f hf=>?_⟩
  rcases List.mem_cons.1 hf with rfl|hf
  ·simp[AgF,upd]
  ·exact key f (hw f hf)
 | .hdr x k,hp,hp1,hp',R,W,R1,W1,v,h,ha=>by
  simp only[Prog.runF] at h⊢
  have hx:AgF hp hp' (.hd x):=ha _ ((runF_sub _ h).1 _ (List.mem_cons_self ..))
  have ih:=runF_local (k (hp x).head) h ha
  simp only[AgF] at hx
  rwa [←hx]
 | .getC x off k,hp,hp1,hp',R,W,R1,W1,v,h,ha=>by
  simp only[Prog.runF] at h⊢
  split at h
  ·rename_i c hc
   have hx:AgF hp hp' (.cl x off):=ha _ ((runF_sub _ h).1 _ (List.mem_cons_self ..))
   have ih:=runF_local (k c) h ha
   simp only[AgF] at hx
   rw[←hx,hc]
   exact ih
  ·cases h
 | .putC x off c k,hp,hp1,hp',R,W,R1,W1,v,h,ha=>by
  simp only[Prog.runF] at h⊢
  split at h
  ·rename_i o1 ho
   have hx:AgF hp hp' (.hd x):=ha _ ((runF_sub _ h).1 _ (List.mem_cons_self ..))
   simp only[AgF] at hx
   obtain⟨p1,hp1'⟩:=setCell_ok ho hx
   rw[hp1']
   simp only
   have hcell:cellOf (upd hp x o1 x) off=cellOf (upd hp' x p1 x) off:=by
    rw[upd_same,upd_same,setCell_cell ho off,setCell_cell hp1' off,if_pos rfl,if_pos rfl]
   have key: ∀f,AgF hp hp' f→AgF (upd hp x o1) (upd hp' x p1) f:=by
    intro f hf
    cases f with
    |all y=>
     by_cases e:y=x
     ·subst e
      simp only[AgF] at hf⊢
      rw[upd_same,upd_same]
      rw[←hf,ho] at hp1'
      exact Option.some.inj hp1'
     ·simp only[AgF] at hf⊢
      rw[upd_other _ _ e,upd_other _ _ e];exact hf
    |hd y=>
     by_cases e:y=x
     ·subst e
      simp only[AgF] at hf⊢
      rw[upd_same,upd_same,setCell_head ho,setCell_head hp1']
      exact hf
     ·simp only[AgF] at hf⊢
      rw[upd_other _ _ e,upd_other _ _ e];exact hf
    |cl y q=>
     by_cases e:y=x
     ·subst e
      simp only[AgF] at hf⊢
      rw[upd_same,upd_same,setCell_cell ho,setCell_cell hp1']
      split
      ·rfl
      ·exact hf
     ·simp only[AgF] at hf⊢
      rw[upd_other _ _ e,upd_other _ _ e];exact hf
    |top=>
     simp only[AgF] at hf⊢
     rw[←hf,ho] at hp1'
     rw[hf,Option.some.inj hp1']
    |but l=>trivial
   obtain⟨q,h1,h2,h3⟩:=runF_local k h (fun f hf=>key f (ha f hf))
   refine⟨q,h1,fun f hf=>h2 f (key f hf),fun hw=>h3 fun f hf=>?_⟩
   rcases List.mem_cons.1 hf with rfl|hf
   ·exact hcell
   ·exact key f (hw f hf)
  ·cases h
 | .ext g k,hp,hp1,hp',R,W,R1,W1,v,h,ha=>by
  simp only[Prog.runF] at h⊢
  split at h
  ·have hx:AgF hp hp' .top:=ha _ ((runF_sub _ h).1 _ (List.mem_cons_self ..))
   simp only[AgF] at hx
   subst hx
   rename_i v0 hp0 hg
   refine⟨hp1,by rw[hg];exact h,fun f hf=>?_,fun _ f _=>?_⟩<;>cases f<;>first|rfl|trivial
  ·cases h
 | .fail,_,_,_,_,_,_,_,_,h,_=>by simp[Prog.runF] at h
def Eff (W:List Facet)(hp hp1:Hp):Prop:= ∀x,(.all x∈W∨ .top∈W)∨hp1 x=hp x∨ ∃g c c' f,hp x= .box g c f∧hp1 x= .box g c' f∧c'.length=c.length∧ ∀off,.cl x off∉W→c'[off]?=c[off]?
theorem runF_eff : ∀(p:Prog α) {hp hp1 hp0:Hp} {R W R1 W1:List Facet} {v:α},p.runF hp R W=some (v,hp1,R1,W1)→Eff W hp0 hp→Eff W1 hp0 hp1
 | .ret a,hp,hp1,hp0,R,W,R1,W1,v,h,e=>by
  simp only[Prog.runF,Option.some.injEq,Prod.mk.injEq] at h
  obtain⟨_,rfl,_,rfl⟩:=h
  exact e
 | .get x k,hp,hp1,hp0,R,W,R1,W1,v,h,e=>by
  simp only[Prog.runF] at h
  exact runF_eff (k (hp x)) h e
 | .put x o k,hp,hp1,hp0,R,W,R1,W1,v,h,e=>by
  simp only[Prog.runF] at h
  refine runF_eff k h fun y=>?_
  by_cases hy:y=x
  ·subst hy;exact .inl (.inl (List.mem_cons_self ..))
  ·rcases e y with h|h|⟨g,c,c',f,h1,h2,h3,h4⟩
   ·exact .inl (h.imp (List.mem_cons_of_mem _) (List.mem_cons_of_mem _))
   ·exact .inr (.inl (by rw[upd_other _ _ hy];exact h))
   ·exact .inr (.inr ⟨g,c,c',f,h1,by rw[upd_other _ _ hy];exact h2,h3,fun off hn=>h4 off fun hm=>hn (List.mem_cons_of_mem _ hm)⟩)
 | .hdr x k,hp,hp1,hp0,R,W,R1,W1,v,h,e=>by
  simp only[Prog.runF] at h
  exact runF_eff (k (hp x).head) h e
 | .getC x off k,hp,hp1,hp0,R,W,R1,W1,v,h,e=>by
  simp only[Prog.runF] at h
  split at h
  ·exact runF_eff (k _) h e
  ·cases h
 | .putC x off cv k,hp,hp1,hp0,R,W,R1,W1,v,h,e=>by
  simp only[Prog.runF] at h
  split at h
  ·rename_i o1 ho
   refine runF_eff k h fun y=>?_
   by_cases hy:y=x
   ·subst hy
    rcases e y with h|h|⟨g,c,c',f,h1,h2,h3,h4⟩
    ·exact .inl (h.imp (List.mem_cons_of_mem _) (List.mem_cons_of_mem _))
    ·rw[h] at ho
     cases hb:hp0 y with
     |box g c f=>
      rw[hb] at ho
      simp only[setCellOf] at ho
      split at ho
      ·cases ho
       refine .inr (.inr ⟨g,c,_,f,rfl,upd_same _ _ _,by simp,fun q hq=>?_⟩)
       have hqo:off≠q:=fun e=>hq (by subst e;exact List.mem_cons_self ..)
       rw[List.getElem?_set_ne hqo]
      ·cases ho
     |no g=>rw[hb] at ho;simp[setCellOf] at ho
     |arr g sz e' rows f=>rw[hb] at ho;simp[setCellOf] at ho
     |map g ag ks rows f=>rw[hb] at ho;simp[setCellOf] at ho
    ·rw[h2] at ho
     simp only[setCellOf] at ho
     split at ho
     ·cases ho
      refine .inr (.inr ⟨g,c,_,f,h1,upd_same _ _ _,by simpa using h3,fun q hq=>?_⟩)
      have hqo:off≠q:=fun e=>hq (by subst e;exact List.mem_cons_self ..)
      rw[List.getElem?_set_ne hqo]
      exact h4 q fun hm=>hq (List.mem_cons_of_mem _ hm)
     ·cases ho
   ·rcases e y with h|h|⟨g,c,c',f,h1,h2,h3,h4⟩
    ·exact .inl (h.imp (List.mem_cons_of_mem _) (List.mem_cons_of_mem _))
    ·exact .inr (.inl (by rw[upd_other _ _ hy];exact h))
    ·exact .inr (.inr ⟨g,c,c',f,h1,by rw[upd_other _ _ hy];exact h2,h3,fun off hn=>h4 off fun hm=>hn (List.mem_cons_of_mem _ hm)⟩)
  ·cases h
 | .ext g k,hp,hp1,hp0,R,W,R1,W1,v,h,e=>by
  simp only[Prog.runF] at h
  split at h
  ·exact runF_eff (k _) h fun y=> .inl (.inr (List.mem_cons_self ..))
  ·cases h
 | .fail,_,_,_,_,_,_,_,_,h,_=>by simp[Prog.runF] at h
theorem Eff.refl (hp:Hp):Eff [] hp hp:=fun _=> .inr (.inl rfl)
theorem Eff.ag {W:List Facet}{hp hp1:Hp}(e:Eff W hp hp1){f:Facet}(hn: ∀x∈W,x.meets f=false):AgF hp hp1 f:=by
 have htop:Facet.top∉W:=fun hm=>by simpa[Facet.meets] using hn _ hm
 by_cases hft:f= .top
 ·subst hft
  have hW:W=[]:=List.eq_nil_iff_forall_not_mem.2 fun y hy=>by have:=hn y hy;cases y<;>simp[Facet.meets] at this
  subst hW
  simp only[AgF]
  funext x
  rcases e x with(h|h)|h|⟨g,c,c',fz,h1,h2,h3,h4⟩
  ·cases h
  ·cases h
  ·exact h.symm
  ·rw[h1,h2]
   congr 1
   exact List.ext_getElem? fun j=>(h4 j (by simp)).symm
 by_cases hbt: ∃l,f= .but l
 ·obtain⟨l,rfl⟩:=hbt;trivial
 have hall: ¬(Facet.all f.nm∈W∨Facet.top∈W):=fun hm=>hm.elim (fun hm=>by have:=hn _ hm;cases f<;>simp[Facet.meets,Facet.nm] at this hft hbt) htop
 rcases e f.nm with h|h|⟨g,c,c',fz,h1,h2,h3,h4⟩
 ·exact(hall h).elim
 ·cases f with
  |top=>exact absurd rfl hft
  |but l=>trivial
  |_=>simp only[Facet.nm] at h;simp only[AgF];rw[h]
 ·cases f with
  |all x=>
   simp only[Facet.nm] at h1 h2 h4
   simp only[AgF]
   rw[h1,h2]
   congr 1
   refine List.ext_getElem? fun j=>(h4 j fun hm=>?_).symm
   have:=hn _ hm
   simp[Facet.meets,Facet.nm] at this
  |hd x=>
   simp only[Facet.nm] at h1 h2 h4
   simp only[AgF]
   rw[h1,h2]
   simp[AObj.head,h3]
  |cl x off=>
   simp only[Facet.nm] at h1 h2 h4
   simp only[AgF]
   rw[h1,h2]
   simp only[cellOf]
   refine(h4 off fun hm=>?_).symm
   have:=hn _ hm
   simp[Facet.meets] at this
  |top=>exact absurd rfl hft
  |but l=>trivial
theorem Facet.meets_comm (f g:Facet):f.meets g=g.meets f:=by
 cases f<;>cases g<;>simp only[Facet.meets,Facet.nm]<;>first|done|exact BEq.comm|(congr 1<;>exact BEq.comm)
theorem Eff.same {W:List Facet}{hp hp1:Hp}(e:Eff W hp hp1){x:Nm}(hx: .all x∉W)(ht: .top∉W)(hb: ∀g c f,hp x≠ .box g c f):hp1 x=hp x:=by
 rcases (e x).resolve_left (fun h=>h.elim hx ht) with h|⟨g,c,c',f,h1,_⟩
 ·exact h
 ·exact(hb g c f h1).elim
theorem Eff.box {W:List Facet}{hp hp1:Hp}(e:Eff W hp hp1){x:Nm}(hx: .all x∉W)(ht: .top∉W){g:Nat}{c:List AV}{f:Bool}(hb:hp x= .box g c f): ∃c',hp1 x= .box g c' f:=by
 rcases (e x).resolve_left (fun h=>h.elim hx ht) with h|⟨g',c',c2,f',h1,h2,_⟩
 ·exact⟨c,by rw[h,hb]⟩
 ·rw[hb] at h1
  cases h1
  exact⟨c2,h2⟩
theorem notCell {W:List Facet}{x:Nm}{off:Nat}(h1: .all x∉W)(h2: .cl x off∉W)(h3: .top∉W)(h4: ∀l,.but l∉W): ∀y∈W,y.meets (.cl x off)=false:=by
 intro y hy
 cases y with
 |all z=>
  simp only[Facet.meets,Facet.nm]
  refine Bool.eq_false_iff.2 fun h=>h1 ?_
  rw[beq_iff_eq] at h
  subst h;exact hy
 |hd z=>rfl
 |cl z q=>
  simp only[Facet.meets]
  refine Bool.eq_false_iff.2 fun h=>h2 ?_
  simp only[Bool.and_eq_true,beq_iff_eq] at h
  obtain⟨rfl,rfl⟩:=h
  exact hy
 |top=>exact(h3 hy).elim
 |but l=>exact(h4 l hy).elim
theorem Eff.nil {hp hp1:Hp}(e:Eff [] hp hp1):hp1=hp:=by
 have:=e.ag (f:= .top) (by simp)
 exact this.symm
theorem runF_tops : ∀(p:Prog α) {hp hp1:Hp} {R W R1 W1:List Facet} {v:α},p.runF hp R W=some (v,hp1,R1,W1)→(.top∈W1→ .top∈W∨ .top∈R1)∧(∀l,.but l∈W1→ .but l∈W)
 | .ret a,hp,hp1,R,W,R1,W1,v,h=>by
  simp only[Prog.runF,Option.some.injEq,Prod.mk.injEq] at h
  obtain⟨_,_,_,rfl⟩:=h
  exact⟨.inl,fun _ h=>h⟩
 | .get x k,hp,hp1,R,W,R1,W1,v,h=>by
  simp only[Prog.runF] at h
  exact runF_tops (k (hp x)) h
 | .put x o k,hp,hp1,R,W,R1,W1,v,h=>by
  simp only[Prog.runF] at h
  obtain⟨h1,h2⟩:=runF_tops k h
  exact⟨fun ht=>(h1 ht).imp (fun h=>by simpa using h) id,fun l hl=>by simpa using h2 l hl⟩
 | .hdr x k,hp,hp1,R,W,R1,W1,v,h=>by
  simp only[Prog.runF] at h
  exact runF_tops (k (hp x).head) h
 | .getC x off k,hp,hp1,R,W,R1,W1,v,h=>by
  simp only[Prog.runF] at h
  split at h
  ·exact runF_tops (k _) h
  ·cases h
 | .putC x off c k,hp,hp1,R,W,R1,W1,v,h=>by
  simp only[Prog.runF] at h
  split at h
  ·obtain⟨h1,h2⟩:=runF_tops k h
   exact⟨fun ht=>(h1 ht).imp (fun h=>by simpa using h) id,fun l hl=>by simpa using h2 l hl⟩
  ·cases h
 | .ext g k,hp,hp1,R,W,R1,W1,v,h=>by
  simp only[Prog.runF] at h
  split at h
  ·obtain⟨_,h2⟩:=runF_tops (k _) h
   exact⟨fun _=> .inr ((runF_sub _ h).1 _ (List.mem_cons_self ..)),fun l hl=>by simpa using h2 l hl⟩
  ·cases h
 | .fail,_,_,_,_,_,_,_,h=>by simp[Prog.runF] at h
theorem runF_swap {β:Type}{p:Prog α}{q:Prog β}{hp hp1 hp2:Hp}{v:α}{u:β}{Rp Wp Rq Wq:List Facet}(h1:p.runF hp [] []=some (v,hp1,Rp,Wp))(h2:q.runF hp1 [] []=some (u,hp2,Rq,Wq))(ha:apartF ⟨Rp,Wp⟩ ⟨Rq,Wq⟩=true):
  ∃hq,q.runF hp [] []=some (u,hq,Rq,Wq)∧p.runF hq [] []=some (v,hp2,Rp,Wp):=by
 simp only[apartF,Bool.and_eq_true,List.all_eq_true,Bool.not_eq_true'] at ha
 obtain⟨ha1,ha2⟩:=ha
 have ep:=runF_eff p h1 (Eff.refl hp)
 have eq2:=runF_eff q h2 (Eff.refl hp1)
 obtain⟨hq,h3,a3,w3⟩:=runF_local q (hp':=hp) h2 (fun f hf=>by
  have:=ep.ag (f:=f) fun x hx=>(ha1 x hx).1 f hf
  cases f<;>simp only[AgF] at this⊢ <;>exact this.symm)
 have eq0:=runF_eff q h3 (Eff.refl hp)
 obtain⟨hr,h4,a4,w4⟩:=runF_local p (hp':=hq) h1 (fun f hf=>eq0.ag fun x hx=>ha2 x hx f hf)
 have ep4:=runF_eff p h4 (Eff.refl hq)
 refine⟨hq,h3,?_⟩
 have w3:=w3 (by simp)
 have w4:=w4 (by simp)
 have hfin:hr=hp2:=by
  by_cases t1:Facet.top∈Wp
  ·have hW:Wq=[]:=List.eq_nil_iff_forall_not_mem.2 fun y hy=>by have:=(ha1 _ t1).2 y hy;simp[Facet.meets] at this
   subst hW
   have e0:=eq0.nil
   subst e0
   rw[h1] at h4
   simp only[Option.some.injEq,Prod.mk.injEq] at h4
   rw[eq2.nil]
   exact h4.2.1.symm
  by_cases t2:Facet.top∈Wq
  ·have hW:Wp=[]:=List.eq_nil_iff_forall_not_mem.2 fun y hy=>by have:=(ha1 y hy).2 _ t2;cases y<;>simp[Facet.meets] at this
   subst hW
   have e0:=ep.nil
   subst e0
   rw[h2] at h3
   simp only[Option.some.injEq,Prod.mk.injEq] at h3
   rw[ep4.nil]
   exact h3.2.1.symm
  funext x
  by_cases c1:Facet.all x∈Wp
  ·have e1:=w4 _ c1
   simp only[AgF] at e1
   have e2:=eq2.ag (f:= .all x) fun y hy=>by rw[Facet.meets_comm];exact(ha1 _ c1).2 y hy
   simp only[AgF] at e2
   rw[←e1,e2]
  ·by_cases c2:Facet.all x∈Wq
   ·have e1:=w3 _ c2
    simp only[AgF] at e1
    have e2:=ep4.ag (f:= .all x) fun y hy=>(ha1 y hy).2 _ c2
    simp only[AgF] at e2
    rw[←e2,←e1]
   ·cases hx:hp x with
    |no g=>
     have hb: ∀g c f,hp x≠ .box g c f:=fun g c f h=>by rw[hx] at h;cases h
     have e1:=ep.same c1 t1 hb
     have e3:=eq0.same c2 t2 hb
     rw[ep4.same c1 t1 (by rw[e3];exact hb),eq2.same c2 t2 (by rw[e1];exact hb),e1,e3]
    |arr g sz e rows f=>
     have hb: ∀g c f,hp x≠ .box g c f:=fun g c f h=>by rw[hx] at h;cases h
     have e1:=ep.same c1 t1 hb
     have e3:=eq0.same c2 t2 hb
     rw[ep4.same c1 t1 (by rw[e3];exact hb),eq2.same c2 t2 (by rw[e1];exact hb),e1,e3]
    |map g ag ks rows f=>
     have hb: ∀g c f,hp x≠ .box g c f:=fun g c f h=>by rw[hx] at h;cases h
     have e1:=ep.same c1 t1 hb
     have e3:=eq0.same c2 t2 hb
     rw[ep4.same c1 t1 (by rw[e3];exact hb),eq2.same c2 t2 (by rw[e1];exact hb),e1,e3]
    |box g c f=>
     obtain⟨b1,e1⟩:=ep.box c1 t1 hx
     obtain⟨b2,e2⟩:=eq2.box c2 t2 e1
     obtain⟨b3,e3⟩:=eq0.box c2 t2 hx
     obtain⟨b4,e4⟩:=ep4.box c1 t1 e3
     rw[e2,e4]
     congr 1
     refine List.ext_getElem? fun j=>?_
     have cell:cellOf (hr x) j=cellOf (hp2 x) j:=by
      by_cases m1:Facet.cl x j∈Wp
      ·have f1:=w4 _ m1
       have f2:=eq2.ag (f:= .cl x j) fun y hy=>by rw[Facet.meets_comm];exact(ha1 _ m1).2 y hy
       simp only[AgF] at f1 f2
       rw[←f1,f2]
      ·by_cases m2:Facet.cl x j∈Wq
       ·have f1:=w3 _ m2
        have f2:=ep4.ag (f:= .cl x j) fun y hy=>(ha1 y hy).2 _ m2
        simp only[AgF] at f1 f2
        rw[←f2,←f1]
       ·have nb1: ∀l,.but l∉Wp:=fun l hl=>by simpa using(runF_tops p h1).2 l hl
        have nb2: ∀l,.but l∉Wq:=fun l hl=>by simpa using(runF_tops q h2).2 l hl
        have f1:=ep.ag (f:= .cl x j) (notCell c1 m1 t1 nb1)
        have f2:=eq2.ag (f:= .cl x j) (notCell c2 m2 t2 nb2)
        have f3:=eq0.ag (f:= .cl x j) (notCell c2 m2 t2 nb2)
        have f4:=ep4.ag (f:= .cl x j) (notCell c1 m1 t1 nb1)
        simp only[AgF] at f1 f2 f3 f4
        rw[←f4,←f3,←f2,←f1]
     rw[e2,e4] at cell
     exact cell
 rw[←hfin]
 exact h4
/-! ### what a call leaves as it was -/
theorem eqS_ok {a b:Value}(h:eqS a b=true):a=b:=by
 unfold eqS at h
 split at h<;>simp_all
mutual
theorem eqA_ok : ∀(a b:AV),eqA a b=true→a=b
 | .any,b,h=>by cases b<;>simp[eqA] at h;rfl
 | .sc v,b,h=>by
  cases b<;>simp[eqA] at h
  rw[eqS_ok h]
 | .sl f s r,b,h=>by
  cases b<;>simp[eqA] at h
  obtain⟨⟨rfl,rfl⟩,h⟩:=h
  rw[eqAR_ok _ _ h]
 | .dp c o,b,h=>by
  cases b<;>simp[eqA] at h
  obtain⟨rfl,h⟩:=h
  rw[eqAL_ok _ _ h]
 | .own x g n,b,h=>by cases b<;>simp[eqA] at h;obtain⟨⟨rfl,rfl⟩,rfl⟩:=h;rfl
 | .ptr x g n,b,h=>by cases b<;>simp[eqA] at h;obtain⟨⟨rfl,rfl⟩,rfl⟩:=h;rfl
 | .eptr x g i n,b,h=>by cases b<;>simp[eqA] at h;obtain⟨⟨⟨rfl,rfl⟩,rfl⟩,rfl⟩:=h;rfl
 | .agg c,b,h=>by
  cases b<;>simp[eqA] at h
  rw[eqAL_ok _ _ h]
 | .tup c,b,h=>by
  cases b<;>simp[eqA] at h
  rw[eqAL_ok _ _ h]
 | .vec s r,b,h=>by
  cases b<;>simp[eqA] at h
  obtain⟨rfl,h⟩:=h
  rw[eqAR_ok _ _ h]
 | .fn f c,b,h=>by
  cases b<;>simp[eqA] at h
  obtain⟨rfl,h⟩:=h
  rw[eqAL_ok _ _ h]
 | .bsl x g s o n,b,h=>by cases b<;>simp[eqA] at h;obtain⟨⟨⟨⟨rfl,rfl⟩,rfl⟩,rfl⟩,rfl⟩:=h;rfl
 | .mp x g,b,h=>by cases b<;>simp[eqA] at h;obtain⟨rfl,rfl⟩:=h;rfl
 | .dmp ..,b,h=>by cases b<;>simp[eqA] at h
theorem eqAL_ok : ∀(a b:List AV),eqAL a b=true→a=b
 |[],b,h=>by cases b<;>simp[eqAL] at h;rfl
 |x::l,b,h=>by
  cases b<;>simp[eqAL] at h
  rw[eqA_ok _ _ h.1,eqAL_ok _ _ h.2]
theorem eqAR_ok : ∀(a b:List (List AV)),eqAR a b=true→a=b
 |[],b,h=>by cases b<;>simp[eqAR] at h;rfl
 |x::l,b,h=>by
  cases b<;>simp[eqAR] at h
  rw[eqAL_ok _ _ h.1,eqAR_ok _ _ h.2]
end
theorem eqO_ok {a b:AObj}(h:eqO a b=true):a=b:=by
 cases a<;>cases b<;>simp[eqO] at h
 ·rw[h]
 ·obtain⟨⟨rfl,h⟩,rfl⟩:=h;rw[eqAL_ok _ _ h]
 ·obtain⟨⟨⟨⟨rfl,rfl⟩,rfl⟩,h⟩,rfl⟩:=h;rw[eqAR_ok _ _ h]
theorem but_ag {l:List Nm}{hp hp':Hp}(hl: ∀x∈l,hp x=hp' x){f:Facet}(hm:Facet.meets (.but l) f=false):AgF hp hp' f:=by
 cases f with
 |top=>simp[Facet.meets] at hm
 |but _=>trivial
 |all x=>simp[Facet.meets,Facet.nm] at hm;simp only[AgF];exact hl x hm
 |hd x=>simp[Facet.meets,Facet.nm] at hm;simp only[AgF];rw[hl x hm]
 |cl x o=>simp[Facet.meets,Facet.nm] at hm;simp only[AgF];rw[hl x hm]
theorem neV_self : ∀a:AV,neV a a=false:=by
 intro a
 cases a<;>try rfl
 ·rename_i v;cases v<;>simp[neV]
 ·simp[neV]
theorem neL_self : ∀l:List AV,neL l l=false
 |[]=>rfl
 |a::l=>by simp[neL,neV_self,neL_self l]
theorem neO_self (a:AObj):neO a a=false:=by
 cases a<;>simp[neO,neL_self]
theorem of_eqP {a b:AObj}(h:eqP a b=true):a=b:=by
 unfold eqP at h
 split at h
 ·rename_i h1;exact eqO_ok h1
 ·split at h
  ·cases h
  ·exact @of_decide_eq_true _ (_) h
theorem eqP_of {a b:AObj}(h:a=b):eqP a b=true:=by
 subst h
 unfold eqP
 split
 ·rfl
 ·rw[neO_self]
  exact @decide_eq_true _ (_) rfl
theorem refW_nil {E:Cfg}{k:Nat}{a b:Hp}:refW E k a b []=[]:=by simp[refW]
theorem refW_not {E:Cfg}{k:Nat}{a b:Hp}{W:List Facet}(h: .top∉W):refW E k a b W=W:=by simp[refW,h]
theorem refW_top {E:Cfg}{k:Nat}(h0:E.ws≠0){a b:Hp}{W:List Facet}(h: .top∈W): ∃l,refW E k a b W=[.but l]∧ ∀x∈l,a x=b x:=by
 refine⟨_,by simp only[refW,if_neg h0];rw[if_pos (by simpa using h)],fun x hx=>?_⟩
 have:=(List.mem_filter.1 hx).2
 split at this
 ·exact of_eqP this
 ·exact eqO_ok this
theorem runF_swapR {E:Cfg}{k:Nat}{β:Type}{p:Prog α}{q:Prog β}{hp hp1 hp2:Hp}{v:α}{u:β}{Rp Wp Rq Wq:List Facet}(h1:p.runF hp [] []=some (v,hp1,Rp,Wp))(h2:q.runF hp1 [] []=some (u,hp2,Rq,Wq))
  (ha:apartF ⟨Rp,refW E k hp hp1 Wp⟩ ⟨Rq,refW E k hp1 hp2 Wq⟩=true):
  ∃hq,q.runF hp [] []=some (u,hq,Rq,Wq)∧p.runF hq [] []=some (v,hp2,Rp,Wp)∧refW E k hp hq Wq=refW E k hp1 hp2 Wq∧refW E k hq hp2 Wp=refW E k hp hp1 Wp:=by
 by_cases h0:E.ws=0
 ·have e: ∀a b W,refW E k a b W=W:=fun a b W=>by simp[refW,h0]
  simp only[e] at ha⊢
  obtain⟨hq,a,b⟩:=runF_swap h1 h2 ha
  exact⟨hq,a,b,by simp⟩
 by_cases t1: .top∈Wp
 ·have r1: .top∈Rp:=((runF_tops p h1).1 t1).resolve_left (by simp)
  obtain⟨l,hl,hk⟩:=refW_top (E:=E) (k:=k) h0 (a:=hp) (b:=hp1) t1
  rw[hl] at ha
  simp only[apartF,Bool.and_eq_true,List.all_eq_true,Bool.not_eq_true'] at ha
  obtain⟨ha1,ha2⟩:=ha
  have hWq:refW E k hp1 hp2 Wq=[]:=List.eq_nil_iff_forall_not_mem.2 fun y hy=>by have:=ha2 y hy _ r1;cases y<;>simp[Facet.meets] at this
  have hW0:Wq=[]:=by
   by_cases t2: .top∈Wq
   ·obtain⟨l2,hl2,_⟩:=refW_top (E:=E) (k:=k) h0 (a:=hp1) (b:=hp2) t2
    rw[hl2] at hWq;cases hWq
   ·rw[refW_not t2] at hWq;exact hWq
  subst hW0
  have e2:hp2=hp1:=(runF_eff q h2 (Eff.refl hp1)).nil
  subst e2
  obtain⟨hq,h3,_,_⟩:=runF_local q (hp':=hp) h2 (fun f hf=>by
   have:=but_ag (l:=l) (hp:=hp2) (hp':=hp) (fun x hx=>(hk x hx).symm) ((ha1 _ (List.mem_singleton.2 rfl)).1 f hf)
   exact this)
  have e3:hq=hp:=(runF_eff q h3 (Eff.refl hp)).nil
  subst e3
  exact⟨hq,h3,h1,by rw[refW_nil,refW_nil],rfl⟩
 by_cases t2: .top∈Wq
 ·have r2: .top∈Rq:=((runF_tops q h2).1 t2).resolve_left (by simp)
  obtain⟨l,hl,hk⟩:=refW_top (E:=E) (k:=k) h0 (a:=hp1) (b:=hp2) t2
  rw[hl,refW_not t1] at ha
  simp only[apartF,Bool.and_eq_true,List.all_eq_true,Bool.not_eq_true'] at ha
  obtain⟨ha1,ha2⟩:=ha
  have hW0:Wp=[]:=List.eq_nil_iff_forall_not_mem.2 fun y hy=>by have:=(ha1 y hy).1 _ r2;cases y<;>simp[Facet.meets] at this
  subst hW0
  have e1:hp1=hp:=(runF_eff p h1 (Eff.refl hp)).nil
  subst e1
  obtain⟨hr,h4,_,_⟩:=runF_local p (hp':=hp2) h1 (fun f hf=>but_ag hk (ha2 _ (List.mem_singleton.2 rfl) f hf))
  have e4:hr=hp2:=(runF_eff p h4 (Eff.refl hp2)).nil
  subst e4
  exact⟨hr,h2,h4,rfl,by rw[refW_nil,refW_nil]⟩
 ·rw[refW_not t1,refW_not t2] at ha
  obtain⟨hq,a,b⟩:=runF_swap h1 h2 ha
  exact⟨hq,a,b,by rw[refW_not t2,refW_not t2],by rw[refW_not t1,refW_not t1]⟩
end
end
section
open Go
section
variable {P:Program}{K:Nat→Prop}{k N:Nat}{B:Base}{E:Cfg}{call:Orc}{all:Array Oper}
theorem evOp_congr {fr fr':Nat→AV}{o:Oper}(h: ∀x∈o.op.operands,opA fr x=opA fr' x):evOp P E k call fr o=evOp P E k call fr' o:=by
 obtain⟨dst,op,type,pos,after,guard⟩:=o
 have pairs: ∀ps:Array (Nat×Operand),(∀x∈ps.map (·.2),opA fr x=opA fr' x)→
   (ps.toList.map fun p=>opA fr p.2)=(ps.toList.map fun p=>opA fr' p.2)∧(ps.toList.map fun p=>(p.1,opA fr p.2))=(ps.toList.map fun p=>(p.1,opA fr' p.2)):=fun ps hp=>by
  have: ∀p∈ps.toList,opA fr p.2=opA fr' p.2:=fun p hm=>hp p.2 (Array.mem_map.2 ⟨p,by simpa using hm,rfl⟩)
  exact⟨List.map_congr_left this,List.map_congr_left fun p hm=>by rw[this p hm]⟩
 cases op<;>simp only[Op.operands] at h<;>simp only[evOp]
 case build t ps=>obtain⟨e1,e2⟩:=pairs ps fun x hx=>h x (by simpa using hx);rw[e1,e2]
 case buildSlice t n ps=>
  obtain⟨e1,e2⟩:=pairs ps fun x hx=>h x (by simpa using hx)
  have e3:(ps.toList.any fun p=>(cellsA (opA fr p.2)).any liveA)=(ps.toList.any fun p=>(cellsA (opA fr' p.2)).any liveA):=by
   have:=congrArg (fun l:List AV=>l.any fun v=>(cellsA v).any liveA) e1
   simp only[List.any_map] at this
   exact this
  rw[e1,e2,e3]
 case makeMap t r=>cases r<;>rfl
 case makeFunc fn first caps=>
  have hc: ∀x∈caps.toList,opA fr x=opA fr' x:=fun x hx=>h x (by simp at hx⊢;exact .inr hx)
  have hc': ∀x∈first.toList,opA fr x=opA fr' x:=fun x hx=>h x (by simp at hx⊢;exact .inl hx)
  cases fn<;>simp only
  rw[List.map_congr_left hc,List.map_congr_left hc']
 case slice t x lo hi mx=>cases lo<;>cases hi<;>cases mx<;>simp_all
 case call c=>
  obtain⟨callee,args,argTypes⟩:=c
  have ha: ∀x∈args.toList,opA fr x=opA fr' x:=fun x hx=>h x (by simp[Call.operands] at hx⊢;exact .inr hx)
  simp only
  split
  ·rename_i x t e1 e2
   rw[ha x (by rw[e1];simp)]
  ·rename_i s x t t' e1 e2
   rw[ha x (by rw[e1];simp),ha s (by rw[e1];simp)]
  ·rename_i s x t t' e1 e2
   rw[ha x (by rw[e1];simp),ha s (by rw[e1];simp)]
  ·rename_i _ x y e1
   rw[ha x (by rw[e1];simp),ha y (by rw[e1];simp)]
  ·rename_i _ x y e1
   rw[ha x (by rw[e1];simp),ha y (by rw[e1];simp)]
  ·rename_i x
   rw[List.map_congr_left ha,h x (by simp[Call.operands])]
  ·rfl
 all_goals (first|rfl|(simp_all;done))
theorem setd_other {fr:Nat→AV}{d:Option Nat}{v:AV}{t:Nat}(h:d≠some t):setd fr d v t=fr t:=by
 cases d with
 |none=>rfl
 |some x=>simp only[setd];rw[if_neg (fun e=>h (by rw[e]))]
theorem setd_comm {fr:Nat→AV}{d d':Option Nat}{v v':AV}(h: ∀x,d=some x→d'≠some x):setd (setd fr d v) d' v'=setd (setd fr d' v') d v:=by
 funext t
 cases d with
 |none=>rfl
 |some x=>
  cases d' with
  |none=>rfl
  |some y=>
   have hxy:y≠x:=fun e=>h x rfl (by rw[e])
   simp only[setd]
   by_cases e1:t=x
   ·have:t≠y:=fun e=>hxy (by rw[←e,e1])
    simp[e1,hxy.symm]
   ·simp[e1]
theorem evOp_setd {fr:Nat→AV}{d:Option Nat}{v:AV}{o:Oper}(h: ∀x,d=some x→x∉slotsOf all o):evOp P E k call (setd fr d v) o=evOp P E k call fr o:=
 evOp_congr fun x hx=>by
  cases x with
  |tmp t=>
   refine setd_other fun e=>h t e ?_
   exact List.mem_append_left _ (List.mem_filterMap.2 ⟨.tmp t,by simpa using hx,rfl⟩)
  |const c=>cases c<;>rfl
  |func f=>rfl
  |global g=>rfl
theorem guard_setd {fr:Nat→AV}{d:Option Nat}{v:AV}{o:Oper}(h: ∀x,d=some x→x∉slotsOf all o):guardA all (setd fr d v) o=guardA all fr o:=by
 unfold guardA
 cases hg:o.guard with
 |none=>rfl
 |some jb=>
  obtain⟨j,b⟩:=jb
  simp only
  cases hd:(all[j]?).bind (·.dst) with
  |none=>rfl
  |some t=>
   simp only
   rw[setd_other fun e=>h t e (by simp[slotsOf,hg,hd])]
theorem stepF_iff {o:Oper}{st st':AS}{f:Foot}:stepF P E k call all o st=some (st',f)↔ ∃b v hp R W,guardA all st.fr o=some b∧(if b then evOp P E k call st.fr o else .ret (.sc undef)).runF st.hp [] []=some (v,hp,R,W)∧
  st'=⟨setd st.fr o.dst v,hp⟩∧f=⟨R,refW E k st.hp hp W⟩:=by
 unfold stepF
 constructor
 ·intro h
  split at h
  ·rename_i hg
   split at h
   ·rename_i v hp R W hr
    simp only[Option.some.injEq,Prod.mk.injEq] at h
    exact⟨true,v,hp,R,W,hg,hr,h.1.symm,h.2.symm⟩
   ·cases h
  ·rename_i hg
   simp only[Option.some.injEq,Prod.mk.injEq] at h
   exact⟨false,_,st.hp,[],[],hg,rfl,h.1.symm,by rw[refW_nil];exact h.2.symm⟩
  ·cases h
 ·rintro⟨b,v,hp,R,W,hg,hr,rfl,rfl⟩
  rw[hg]
  cases b with
  |true=>simp only[if_true] at hr;simp only[hr]
  |false=>
   simp only[Bool.false_eq_true,if_false,Prog.runF,Option.some.injEq,Prod.mk.injEq] at hr
   obtain⟨rfl,rfl,rfl,rfl⟩:=hr
   rw[refW_nil]
theorem apartS_spec {o p:Oper}(h:apartS all o p=true):(∀d,o.dst=some d→d∉slotsOf all p)∧(∀d,o.dst=some d→p.dst≠some d)∧(∀d,p.dst=some d→d∉slotsOf all o):=by
 refine⟨fun d hd=>?_,fun d hd=>?_,fun d hd=>?_⟩<;>simp[apartS,hd] at h
 ·exact h.1.1
 ·exact h.1.2
 ·exact h.2
theorem stepF_swap {o p:Oper}{st st1 st2:AS}{f1 f2:Foot}(h1:stepF P E k call all o st=some (st1,f1))(h2:stepF P E k call all p st1=some (st2,f2))(hs:apartS all o p=true)(hf:apartF f1 f2=true):
  ∃st1',stepF P E k call all p st=some (st1',f2)∧stepF P E k call all o st1'=some (st2,f1):=by
 obtain⟨s1,s2,s3⟩:=apartS_spec hs
 obtain⟨b1,v1,hp1,R1,W1,g1,r1,rfl,rfl⟩:=stepF_iff.1 h1
 obtain⟨b2,v2,hp2,R2,W2,g2,r2,rfl,rfl⟩:=stepF_iff.1 h2
 simp only at g2 r2
 rw[guard_setd s1] at g2
 rw[evOp_setd s1] at r2
 obtain⟨hq,q1,q2,q3,q4⟩:=runF_swapR r1 r2 hf
 refine⟨⟨setd st.fr p.dst v2,hq⟩,stepF_iff.2 ⟨b2,v2,hq,R2,W2,g2,q1,rfl,by simp only;rw[q3]⟩,stepF_iff.2 ⟨b1,v1,hp2,R1,W1,?_,?_,?_,by simp only;rw[q4]⟩⟩
 ·simp only;rw[guard_setd s3];exact g1
 ·simp only;rw[evOp_setd s3];exact q2
 ·simp only;rw[setd_comm s2]
/-! ### orders -/
inductive Waits (all:Array Oper):Nat→Nat→Prop where
 |one {j:Nat} {o:Oper} {e:Edge}:all[j]?=some o→e∈o.after→Region.binds .any e=true→Waits all j e.on
 |more {j x:Nat} {o:Oper} {e:Edge}:all[j]?=some o→e∈o.after→Region.binds .any e=true→Waits all e.on x→Waits all j x
def Down (all:Array Oper)(listed:Array Bool):Prop:= ∀j o e,listed.getD j false=true→all[j]?=some o→e∈o.after→Region.binds .any e=true→listed.getD e.on false=true
theorem Down.waits {listed:Array Bool}(h:Down all listed){j x:Nat}(hw:Waits all j x):listed.getD j false=true→listed.getD x false=true:=by
 induction hw with
 |one ho he hb=>exact fun hj=>h _ _ _ hj ho he hb
 |more ho he hb _ ih=>exact fun hj=>ih (h _ _ _ hj ho he hb)
theorem ready_waits {listed:Array Bool}(h:Down all listed){j x:Nat}(hr:j∈Region.ready .any all listed)(hw:Waits all j x):listed.getD x false=true:=by
 obtain⟨_,o,ho,hall⟩:=mem_ready.1 hr
 cases hw with
 |one ho' he hb=>rw[ho] at ho';cases ho';exact hall _ he hb
 |more ho' he hb hw=>rw[ho] at ho';cases ho';exact h.waits hw (hall _ he hb)
theorem Down.set {listed:Array Bool}(h:Down all listed){j:Nat}(hr:j∈Region.ready .any all listed):Down all (listed.setIfInBounds j true):=by
 intro x o e hx ho he hb
 by_cases hjx:j=x
 ·subst hjx
  obtain⟨_,o',ho',hall⟩:=mem_ready.1 hr
  rw[ho] at ho';cases ho'
  exact getD_set_true (hall e he hb)
 ·rw[getD_set_ne false hjx] at hx
  exact getD_set_true (h x o e hx ho he hb)
def anyA (P:Program)(E:Cfg)(k:Nat)(call:Orc)(all:Array Oper)(fs:List Foot)(stf:AS):Nat→Array Bool→AS→Prop
 |0,listed,st=>Region.ready .any all listed=[]∧st=stf
 |n+1,listed,st=>(Region.ready .any all listed=[]→st=stf)∧ ∀i∈Region.ready .any all listed,∃o st',all[i]?=some o∧stepF P E k call all o st=some (st',fs.getD i ⟨[],[]⟩)∧
   anyA P E k call all fs stf n (listed.setIfInBounds i true) st'
theorem anyA_first {fs:List Foot}{stf:AS}{i:Nat}{oi:Oper}(hi:all[i]?=some oi): ∀(n:Nat) (listed:Array Bool) (st st1:AS),Down all listed→
  (∀j oj,all[j]?=some oj→j≠i→listed.getD j true=false→ ¬Waits all j i→apartS all oi oj=true∧apartF (fs.getD i ⟨[],[]⟩) (fs.getD j ⟨[],[]⟩)=true)→
  i∈Region.ready .any all listed→stepF P E k call all oi st=some (st1,fs.getD i ⟨[],[]⟩)→anyA P E k call all fs stf n (listed.setIfInBounds i true) st1→anyA P E k call all fs stf (n+1) listed st:=by
 intro n
 induction n with
 |zero=>
  intro listed st st1 _ _ hr hs H
  refine⟨fun h=>(by rw[h] at hr;cases hr),fun j hj=>?_⟩
  by_cases hji:j=i
  ·subst hji;exact⟨oi,st1,hi,hs,H⟩
  ·have:=ready_mono hj hji
   rw[H.1] at this
   cases this
 |succ n ih=>
  intro listed st st1 hD hfree hr hs H
  refine⟨fun h=>(by rw[h] at hr;cases hr),fun j hj=>?_⟩
  by_cases hji:j=i
  ·subst hji;exact⟨oi,st1,hi,hs,H⟩
  ·obtain⟨oj,st2,hoj,hs2,H2⟩:=H.2 j (ready_mono hj hji)
   have hjun:=(mem_ready.1 hj).1
   have hiun:=(mem_ready.1 hr).1
   have hnw: ¬Waits all j i:=fun hw=>by
    have h1:=ready_waits hD hj hw
    rcases Nat.lt_or_ge i listed.size with h'|h'
    ·simp[h'] at hiun h1;rw[hiun] at h1;cases h1
    ·simp[Array.getElem?_eq_none h'] at h1
   obtain⟨a1,a2⟩:=hfree j oj hoj hji hjun hnw
   obtain⟨st1',q1,q2⟩:=stepF_swap hs hs2 a1 a2
   refine⟨oj,st1',hoj,q1,ih (listed.setIfInBounds j true) st1' st2 (hD.set hj) (fun x ox hx hxi hun hno=>?_) (ready_mono hr (Ne.symm hji)) q2 ?_⟩
   ·refine hfree x ox hx hxi ?_ hno
    by_cases hjx:j=x
    ·subst hjx;exact hjun
    ·rw[getD_set_ne true hjx] at hun;exact hun
   ·rw[Array.setIfInBounds_comm _ _ hji]
    exact H2
theorem runDraw_foots : ∀(os:List Oper) {st stf:AS} {acc fs:List Foot},runDraw P E k call all os st acc=some (stf,fs)→ ∀j,j<acc.length→fs.getD j ⟨[],[]⟩=acc.reverse.getD j ⟨[],[]⟩
 |[],st,stf,acc,fs,h,j,hj=>by
  simp only[runDraw,Option.some.injEq,Prod.mk.injEq] at h
  rw[h.2]
 |o::os,st,stf,acc,fs,h,j,hj=>by
  simp only[runDraw] at h
  split at h
  ·rename_i st' f hs
   rw[runDraw_foots os h j (by simp;omega)]
   simp only[List.getD_eq_getElem?_getD,List.reverse_cons]
   rw[List.getElem?_append_left (by simpa using hj)]
  ·cases h
theorem anyA_lex {fs:List Foot}{stf:AS}(hback: ∀j o e,all[j]?=some o→e∈o.after→Region.binds .any e=true→e.on<j)
  (hfree: ∀i j oi oj,i<j→all[i]?=some oi→all[j]?=some oj→ ¬Waits all j i→apartS all oi oj=true∧apartF (fs.getD i ⟨[],[]⟩) (fs.getD j ⟨[],[]⟩)=true):
  ∀(os:List Oper) (n:Nat) (listed:Array Bool) (st:AS) (acc:List Foot),(∀j,os[j]?=all[n+j]?)→acc.length=n→runDraw P E k call all os st acc=some (stf,fs)→listed.size=all.size→(∀j,j<all.size→listed.getD j true=decide (j<n))→
  anyA P E k call all fs stf os.length listed st
 |[],n,listed,st,acc,hl,hn,h,hsz,hls=>by
  simp only[runDraw,Option.some.injEq,Prod.mk.injEq] at h
  refine⟨?_,h.1⟩
  refine List.eq_nil_iff_forall_not_mem.2 fun j hj=>?_
  obtain⟨h0,o,ho,_⟩:=mem_ready.1 hj
  have hlt:j<all.size:=(Array.getElem?_eq_some_iff.1 ho).1
  rw[hls j hlt] at h0
  have hnj: ¬j<n:=by simpa using h0
  have:=hl (j - n)
  rw[show n+(j - n)=j by omega,ho] at this
  cases this
 |o::os,n,listed,st,acc,hl,hn,h,hsz,hls=>by
  have h0:all[n]?=some o:=by simpa using(hl 0).symm
  have hlt:n<all.size:=(Array.getElem?_eq_some_iff.1 h0).1
  have hl': ∀j,os[j]?=all[n+1+j]?:=fun j=>by have:=hl (j+1);simpa[Nat.add_assoc,Nat.add_comm 1 j] using this
  simp only[runDraw] at h
  split at h
  case h_2=>cases h
  rename_i st' f hs
  have hfn:fs.getD n ⟨[],[]⟩=f:=by
   rw[runDraw_foots os h n (by simp;omega)]
   simp only[List.getD_eq_getElem?_getD,List.reverse_cons]
   rw[List.getElem?_append_right (by simp;omega)]
   simp[hn]
  have hread: ∀j,j<n→listed.getD j false=true:=fun j hj=>by
   have:=hls j (by omega)
   rw[decide_eq_true hj] at this
   have hj2:j<listed.size:=by omega
   simpa[hj2] using this
  refine anyA_first h0 os.length listed st st' (fun j o' e hj ho he hb=>?_) (fun j oj hj hne hun hnw=>?_) ?_ (by rw[hfn];exact hs) ?_
  ·have hlt':j<all.size:=(Array.getElem?_eq_some_iff.1 ho).1
   have hj2:j<listed.size:=by omega
   have:=hls j hlt'
   have hjn:j<n:=by
    have e1:listed.getD j true=listed.getD j false:=by simp[hj2]
    rw[e1,hj] at this
    exact of_decide_eq_true this.symm
   exact hread _ (Nat.lt_trans (hback j o' e ho he hb) hjn)
  ·have hlt':j<all.size:=(Array.getElem?_eq_some_iff.1 hj).1
   rw[hls j hlt'] at hun
   have hnj: ¬j<n:=by simpa using hun
   exact hfree n j o oj (by omega) h0 hj hnw
  ·refine mem_ready.2 ⟨by rw[hls n hlt];simp,o,h0,fun e he hb=>hread _ (hback n o e h0 he hb)⟩
  ·refine anyA_lex hback hfree os (n+1) _ st' (f::acc) hl' (by simp[hn]) h (by simpa using hsz) (fun j hj=>?_)
   by_cases hjn:n=j
   ·subst hjn
    have hj2:n<listed.size:=by omega
    simp[hj2]
   ·rw[getD_set_ne true hjn,hls j hj]
    exact decide_eq_decide.2 ⟨fun h=>by omega,fun h=>by omega⟩
theorem mask_bit (r:List Nat)(i:Nat): ∀(es:List Edge) (m:Nat),(es.foldl (fun m e=>if Region.binds .any e then m|||(1<<<e.on|||r.getD e.on 0) else m) m).testBit i=true→
  m.testBit i=true∨ ∃e∈es,Region.binds .any e=true∧(e.on=i∨(r.getD e.on 0).testBit i=true)
 |[],m,h=> .inl h
 |e::es,m,h=>by
  rw[List.foldl_cons] at h
  rcases mask_bit r i es _ h with h1|⟨e',he',h1⟩
  ·split at h1
   ·rename_i hb
    rw[Nat.testBit_or,Nat.testBit_or,Bool.or_eq_true,Bool.or_eq_true] at h1
    rcases h1 with h1|h1|h1
    ·exact .inl h1
    ·rw[Nat.one_shiftLeft,Nat.testBit_two_pow] at h1
     exact .inr ⟨e,by simp,hb,.inl (of_decide_eq_true h1)⟩
    ·exact .inr ⟨e,by simp,hb,.inr h1⟩
   ·exact .inl h1
  ·exact .inr ⟨e',by simp[he'],h1⟩
theorem waits_ok : ∀(os:List Oper) (acc:List Nat) (n:Nat),acc.length=n→(∀j,os[j]?=all[n+j]?)→(∀j i,(acc.reverse.getD j 0).testBit i=true→Waits all j i)→ ∀j i,((waits os acc).getD j 0).testBit i=true→Waits all j i
 |[],acc,n,hn,hl,ha,j,i,h=>ha j i h
 |o::os,acc,n,hn,hl,ha,j,i,h=>by
  have h0:all[n]?=some o:=by simpa using(hl 0).symm
  have hl': ∀j,os[j]?=all[n+1+j]?:=fun j=>by have:=hl (j+1);simpa[Nat.add_assoc,Nat.add_comm 1 j] using this
  refine waits_ok os _ (n+1) (by simp[hn]) hl' (fun j i hi=>?_) j i h
  simp only[List.reverse_cons,List.getD_eq_getElem?_getD] at hi
  rw[List.getElem?_append] at hi
  split at hi
  ·exact ha j i (by simpa[List.getD_eq_getElem?_getD] using hi)
  ·rename_i hj
   rw[List.getElem?_singleton] at hi
   split at hi
   ·rename_i hj0
    have hjn:j=n:=by simp at hj hj0;omega
    subst hjn
    simp only[Option.getD_some,wMask] at hi
    rcases mask_bit _ i _ _ hi with h1|⟨e,he,hb,h1⟩
    ·simp at h1
    ·rcases h1 with rfl|h1
     ·exact .one h0 (by simpa using he) hb
     ·exact .more h0 (by simpa using he) hb (ha _ _ h1)
   ·simp at hi
theorem any_ok (hE:ELaw P E)(hC:OrcOk P call){fs:List Foot}{stf:AS}{Q:Exit→Act→World→Prop}(hd: ∀o∈all.toList,∀x,o.dst=some x→x<N)(hQ: ∀a' w',StR k N K B stf a' w'→Q .normal a' w'):
  ∀(n:Nat) (listed:Array Bool) {st:AS} {a:Act} {w:World},anyA P E k call all fs stf n listed st→StR k N K B st a w→wpAny P .any all Q n listed a w
 |0,listed,st,a,w,h,S=>by
  obtain⟨h1,rfl⟩:=h
  exact⟨h1,hQ a w S⟩
 |n+1,listed,st,a,w,h,S=>by
  refine⟨fun hr=>hQ a w (h.1 hr▸S),fun i hi=>?_⟩
  obtain⟨o,st',ho,hs,H⟩:=h.2 i hi
  have hdo:=hd o (by have:=Array.mem_of_getElem? ho;simpa using this)
  obtain⟨b,v,hp,R,W,g,r,rfl,hf⟩:=stepF_iff.1 hs
  unfold wpOp
  simp only[ho]
  rw[S.guard g]
  cases b with
  |true=>
   simp only[if_true] at r⊢
   exact .inl ((S.op hE hC hdo (runF_run _ r)).wp fun u w' S'=>any_ok hE hC hd hQ n _ H S')
  |false=>
   simp only[Bool.false_eq_true,if_false,Prog.runF,Option.some.injEq,Prod.mk.injEq] at r⊢
   obtain⟨rfl,rfl,_⟩:=r
   exact any_ok hE hC hd hQ n _ H (S.skip hdo)
theorem StR.drawn {st:AS}{a:Act}{w:World}(S:StR k N K B st a w)(n:Nat):StR k N K B st a {w with drawn:=n}:=by
 obtain⟨I,m,G,E0,hf,hs,hdf⟩:=S
 obtain⟨G2,E2⟩:=G.world (w':={w with drawn:=n}) (fun _ _=>rfl) ⟨fun _ _=>rfl,Nat.le_refl _,rfl,rfl,rfl⟩ (fun _ h=>h) (fun _ h=> .inl h) G.ilt
 exact⟨I,m,G2,E0.trans E2,fun t=>Rep.mono E2 _ _ _ (hf t),hs,hdf⟩
theorem draw_any {st st':AS}{fs:List Foot}(h:runDraw P E k call all all.toList st []=some (st',fs))(h1:drawS all=true)(h2:drawF all fs=true):anyA P E k call all fs st' all.size (Array.replicate all.size false) st:=by
 simp only[drawS,Bool.and_eq_true,List.all_eq_true,List.mem_range,Bool.or_eq_true] at h1
 obtain⟨h1a,h1b⟩:=h1
 simp only[drawF,List.all_eq_true,List.mem_range,Bool.or_eq_true] at h2
 have hget: ∀j o,all[j]?=some o→all.getD j default=o:=fun j o h=>by simp[h]
 have hlex:=anyA_lex (P:=P) (E:=E) (k:=k) (call:=call) (all:=all) (fs:=fs) (stf:=st') (fun j o e hj he hb=>by
   have hlt:=(Array.getElem?_eq_some_iff.1 hj).1
   have:=h1a j hlt e (by rw[hget j o hj];simpa using he)
   rcases this with h|h
   ·rw[hb] at h;cases h
   ·exact of_decide_eq_true h)
  (fun i j oi oj hij hi hj hnw=>by
   have hlt:=(Array.getElem?_eq_some_iff.1 hj).1
   have nw:((waits all.toList []).getD j 0).testBit i≠true:=fun hc=>hnw (waits_ok all.toList [] 0 rfl (by simp) (by simp) j i hc)
   have a1:=(h1b j hlt i hij).resolve_left nw
   have a2:=(h2 j hlt i hij).resolve_left nw
   rw[hget i oi hi,hget j oj hj] at a1
   exact⟨a1,a2⟩)
  all.toList 0 (Array.replicate all.size false) st [] (by simp) rfl h (by simp) (fun j hj=>by simp[hj])
 rwa [Array.length_toList] at hlex
theorem region_any (hm:P.follows .mixedOrders=true)(hE:ELaw P E)(hC:OrcOk P call){Q:Exit→Act→World→Prop}{st st':AS}{a:Act}{w:World}{id:Nat}{fs:List Foot}(hd: ∀o∈all.toList,∀x,o.dst=some x→x<N)(S:StR k N K B st a w)
  (h:runDraw P E k call all all.toList st []=some (st',fs)) (h1:drawS all=true) (h2:drawF all fs=true) (hQ: ∀a' w',StR k N K B st' a' w'→Q .normal a' w'):
  (Code.region id all true).wp P Q a w:=
 wp_region_any hm (any_ok hE hC hd hQ all.size _ (draw_any h h1 h2) (S.drawn _))
end
end
section
open Go
section
variable {P:Program}{K:Nat→Prop}{k N:Nat}{B:Base}{E:Cfg}{call:Orc}
theorem StR.dryOne {st:AS}{a:Act}{w:World}(S:StR k N K B st a w)(s:Nat):StR k N K B (Ab.dryOne s st) a w:=by
 unfold Ab.dryOne
 split
 ·rename_i x g off hs0
  split
  ·rename_i v hp' hr
   obtain⟨I,m,G,E0,hf,hs,hdf⟩:=S
   have h0:=hf s
   rw[hs0] at h0
   obtain⟨I',G',E',R',_⟩:=capD_frz G h0 hr
   refine⟨I',m,G',E0.trans E',fun t=>?_,hs,hdf⟩
   simp only
   split
   ·rename_i ht;subst ht;exact RepD.rep R'
   ·exact Rep.mono E' _ _ _ (hf t)
  ·exact S
 ·exact S
theorem StR.dryAll {a:Act}{w:World}: ∀(ss:List Nat) {st:AS},StR k N K B st a w→StR k N K B (Ab.dryAll ss st) a w
 |[],_,S=>S
 |s::ss,_,S=>StR.dryAll ss (S.dryOne s)
theorem evRegion_ok (hm:P.follows .mixedOrders=true)(hE:ELaw P E)(hC:OrcOk P call){Q:Exit→Act→World→Prop}{ops:Array Oper}{draw:Bool}{st st':AS}{a:Act}{w:World}{id:Nat}(hd: ∀o∈ops.toList,∀x,o.dst=some x→x<N)
  (S:StR k N K B st a w) (h:evRegion P E k call ops draw st=some st') (hQ: ∀a' w',StR k N K B st' a' w'→Q .normal a' w'):(Code.region id ops draw).wp P Q a w:=by
 unfold evRegion at h
 cases draw with
 |true=>
  simp only[if_true] at h
  split at h
  ·rename_i st1 fs hr
   split at h
   ·rename_i hc
    simp only[Bool.and_eq_true] at hc
    cases h
    exact region_any hm (E:=E.dry) (ELaw.dry hE.1) hC hd S hr hc.1 hc.2 hQ
   ·split at h
    ·rename_i st2 fs2 hr2
     split at h
     ·rename_i hc
      simp only[Bool.and_eq_true] at hc
      cases h
      exact region_any hm (E:=E.dry) (ELaw.dry hE.1) hC hd (StR.dryAll _ S) hr2 hc.1 hc.2 hQ
     ·cases h
    ·cases h
  ·cases h
 |false=>
  simp only[Bool.false_eq_true,if_false] at h
  exact region_text hE hC hd S h hQ
open Classical in
noncomputable def least (p:Nat→Prop):Nat:=if h: ∃n,p n∧ ∀m,p m→n≤m then Classical.choose h else 0
theorem least_spec {p:Nat→Prop}(h: ∃n,p n):p (least p)∧ ∀m,p m→least p≤m:=by
 have hex: ∃n,p n∧ ∀m,p m→n≤m:=by
  obtain⟨n,hn⟩:=h
  induction n using Nat.strongRecOn with
  |_ n ih=>
   by_cases hc: ∃m,m<n∧p m
   ·obtain⟨m,hm,hp⟩:=hc
    exact ih m hm hp
   ·exact⟨n,hn,fun m hm=>Nat.le_of_not_lt fun hlt=>hc ⟨m,hlt,hm⟩⟩
 unfold least
 rw[dif_pos hex]
 exact Classical.choose_spec hex
def exOf :Ex→Exit
 | .normal=> .normal
 | .exit id=> .exit id
 | .ret=> .ret
 | .panic v=> .panic [{v:=v,recovered:=false}]
theorem evC_np0 {call:Orc}: ∀(n:Nat) (c:Code) (st:AS) {e:Ex} {s:AS},evC P E k call n c st=some (e,s)→ ∀v,e≠ .panic v
 |0,_,_,_,_,h=>by simp[evC] at h
 |n+1,c,st,e,s,h=>by
  intro v hv
  subst hv
  cases c with
  |region i ops d=>
   simp only[evC] at h
   cases hr:evRegion P E k call ops d st<;>simp[hr] at h
  |seq x y=>
   simp only[evC] at h
   split at h
   ·exact evC_np0 n y _ h v rfl
   ·exact evC_np0 n x _ h v rfl
  |cond q x y=>
   simp only[evC] at h
   split at h
   ·split at h
    ·exact evC_np0 n x _ h v rfl
    ·exact evC_np0 n y _ h v rfl
   ·cases h
  |block id x=>
   simp only[evC] at h
   split at h
   ·split at h<;>simp at h
   ·exact evC_np0 n x _ h v rfl
  |loop x=>
   simp only[evC] at h
   split at h
   ·exact evC_np0 n (.loop x) _ h v rfl
   ·exact evC_np0 n x _ h v rfl
  |scope x=>
   simp only[evC] at h
   exact evC_np0 n x _ h v rfl
  |_=>simp[evC] at h
theorem evC_ok (hm:P.follows .mixedOrders=true)(hE:ELaw P E)(hC:OrcOk P call): ∀(n:Nat) (c:Code) {Q:Exit→Act→World→Prop} {st st':AS} {e:Ex} {a:Act} {w:World},slotsIn N c=true→StR k N K B st a w→evC P E k call n c st=some (e,st')→
  (∀a' w',StR k N K B st' a' w'→Q (exOf e) a' w')→c.wp P Q a w
 |0,c,Q,st,st',e,a,w,_,_,h,_=>by simp[evC] at h
 |n+1,c,Q,st,st',e,a,w,hs,S,h,hQ=>by
  cases c with
  |skip=>
   simp only[evC,Option.some.injEq,Prod.mk.injEq] at h
   obtain⟨rfl,rfl⟩:=h
   exact wp_skip (hQ a w S)
  |label l=>
   simp only[evC,Option.some.injEq,Prod.mk.injEq] at h
   obtain⟨rfl,rfl⟩:=h
   exact wp_label (hQ a w S)
  |region id ops d=>
   simp only[evC] at h
   cases hr:evRegion P E k call ops d st with
   |none=>rw[hr] at h;cases h
   |some s=>
    rw[hr] at h
    simp only[Option.map_some,Option.some.injEq,Prod.mk.injEq] at h
    obtain⟨rfl,rfl⟩:=h
    refine evRegion_ok hm hE hC (fun o ho x hx=>?_) S hr hQ
    simp only[slotsIn,List.all_eq_true,Bool.and_eq_true] at hs
    have:=(hs o ho).1
    rw[hx] at this
    simpa using this
  |seq x y=>
   simp only[slotsIn,Bool.and_eq_true] at hs
   simp only[evC] at h
   split at h
   ·rename_i s h1
    exact wp_seq (evC_ok hm hE hC n x hs.1 S h1 fun a' w' S'=>evC_ok hm hE hC n y hs.2 S' h hQ)
   ·rename_i hne
    refine wp_seq (evC_ok hm hE hC n x hs.1 S h fun a' w' S'=>?_)
    have:=hQ a' w' S'
    cases e with
    |normal=>exact(hne st' h).elim
    |exit id=>exact this
    |ret=>exact this
    |panic v=>exact this
  |cond c x y=>
   simp only[slotsIn,Bool.and_eq_true] at hs
   simp only[evC] at h
   split at h
   ·rename_i t ht
    have hc:a.eval c= .bool t:=by
     obtain⟨I,m,G,E0,hf,hsz,hdf⟩:=S
     have:=opA_ok G hf c
     rw[ht] at this
     simpa only[Rep] using this
    refine wp_cond hc ?_
    cases t with
    |true=>exact evC_ok hm hE hC n x hs.1.2 S (by simpa using h) hQ
    |false=>exact evC_ok hm hE hC n y hs.2 S (by simpa using h) hQ
   ·cases h
  |block id x=>
   simp only[slotsIn] at hs
   simp only[evC] at h
   split at h
   ·rename_i i s h1
    refine wp_block (evC_ok hm hE hC n x hs S h1 fun a' w' S'=>?_)
    simp only[exOf,Exit.inBlock]
    split at h
    ·rename_i hi
     simp only[Option.some.injEq,Prod.mk.injEq] at h
     obtain⟨rfl,rfl⟩:=h
     rw[if_pos hi]
     exact hQ a' w' S'
    ·rename_i hi
     simp only[Option.some.injEq,Prod.mk.injEq] at h
     obtain⟨rfl,rfl⟩:=h
     rw[if_neg hi]
     exact hQ a' w' S'
   ·rename_i hne
    refine wp_block (evC_ok hm hE hC n x hs S h fun a' w' S'=>?_)
    have:=hQ a' w' S'
    cases e with
    |normal=>exact this
    |exit i=>exact(hne i st' h).elim
    |ret=>exact this
    |panic v=>exact this
  |loop x=>
   simp only[slotsIn] at hs
   refine wp_loop (I:=fun a w=> ∃g s,g≤n+1∧StR k N K B s a w∧evC P E k call g (.loop x) s=some (e,st'))
    (μ:=fun a w=>least fun g=> ∃s,g≤n+1∧StR k N K B s a w∧evC P E k call g (.loop x) s=some (e,st')) ⟨n+1,st,Nat.le_refl _,S,h⟩ ?_
   intro a w hI
   obtain⟨⟨s,hg,S,h⟩,_⟩:=least_spec (p:=fun g=> ∃s,g≤n+1∧StR k N K B s a w∧evC P E k call g (.loop x) s=some (e,st')) hI
   generalize hgl:least (fun g=> ∃s,g≤n+1∧StR k N K B s a w∧evC P E k call g (.loop x) s=some (e,st'))=g at hg h
   cases g with
   |zero=>simp[evC] at h
   |succ g'=>
    have hlt:g'<n+1:=by omega
    simp only[evC] at h
    split at h
    ·rename_i s1 h1
     refine evC_ok hm hE hC g' x hs S h1 fun a' w' S'=>⟨⟨g',s1,by omega,S',h⟩,?_⟩
     have:=(least_spec (p:=fun g=> ∃s,g≤n+1∧StR k N K B s a' w'∧evC P E k call g (.loop x) s=some (e,st')) ⟨g',s1,by omega,S',h⟩).2 g' ⟨s1,by omega,S',h⟩
     exact Nat.lt_succ_of_le this
    ·rename_i hne
     refine evC_ok hm hE hC g' x hs S h fun a' w' S'=>?_
     have:=hQ a' w' S'
     cases e with
     |normal=>exact(hne st' h).elim
     |exit i=>exact this
     |ret=>exact this
     |panic v=>exact this
  |scope x=>
   simp only[slotsIn] at hs
   simp only[evC] at h
   exact wp_scope_straight (evC_ok hm hE hC n x hs S h fun a' w' S'=>by have:=hQ a' w' S';cases e<;>exact this)
  |exit id=>
   simp only[evC,Option.some.injEq,Prod.mk.injEq] at h
   obtain⟨rfl,rfl⟩:=h
   exact wp_exit (hQ a w S)
  |ret=>
   simp only[evC,Option.some.injEq,Prod.mk.injEq] at h
   obtain⟨rfl,rfl⟩:=h
   exact wp_ret (hQ a w S)
  |_=>simp[evC] at h
termination_by n=>n
end
end
section
open Go
section
variable {P:Program}{I K:Nat→Prop}{m:Mp}{hp hp':Hp}{w:World}{k:Nat}
theorem RepH.bs {ct:TypeId}{a:AV}{u:Value}{bs:List Nat}(h:RepH P I K w ct a u bs): ∀b∈bs,¬I b∧ ¬K b:=by
 cases a with
 |vec sz rows=>
  rcases h with⟨_,_,rfl⟩|⟨b,cap,us,mk,e,rfl,h2,h3,h4,h5,h6,h7,h8,h9,h10,h11⟩
  ·simp
  ·intro c hc
   rw[List.mem_singleton] at hc
   subst hc
   exact⟨h10,h11⟩
 |_=>
  have:bs=[]:=h.1
  subst this
  simp
theorem RepHL.bs : ∀{cts:List TypeId} {as:List AV} {us:List Value} {bs:List Nat},RepHL P I K w cts as us bs→ ∀b∈bs,¬I b∧ ¬K b
 |cts,[],_,bs,h=>by
  have:bs=[]:=by cases cts<;>simp only[RepHL] at h<;>exact h.2
  subst this;simp
 |[],_::_,_,_,h=>by simp[RepHL] at h
 |t::ts,a::as,us,bs,h=>by
  simp only[RepHL] at h
  obtain⟨u,us',b1,b2,rfl,rfl,h1,h2⟩:=h
  intro b hb
  rcases List.mem_append.1 hb with hb|hb
  ·exact RepH.bs h1 b hb
  ·exact RepHL.bs h2 b hb
theorem RepH.noK {ct:TypeId}{a:AV}{u:Value}{bs:List Nat}(h:RepH P I K w ct a u bs):RepH P I (fun _=>False) w ct a u bs:=by
 cases a with
 |vec sz rows=>
  rcases h with h|⟨b,cap,us,mk,e,h1,h2,h3,h4,h5,h6,h7,h8,h9,h10,h11⟩
  ·exact .inl h
  ·exact .inr ⟨b,cap,us,mk,e,h1,h2,h3,h4,h5,h6,h7,h8,h9,h10,fun h=>h⟩
 |_=>exact h
theorem RepHL.noK : ∀{cts:List TypeId} {as:List AV} {us:List Value} {bs:List Nat},RepHL P I K w cts as us bs→RepHL P I (fun _=>False) w cts as us bs
 |cts,[],_,_,h=>by cases cts<;>exact h
 |[],_::_,_,_,h=>by simp[RepHL] at h
 |t::ts,a::as,us,bs,h=>by
  simp only[RepHL] at h⊢
  obtain⟨u,us',b1,b2,e1,e2,h1,h2⟩:=h
  exact⟨u,us',b1,b2,e1,e2,RepH.noK h1,RepHL.noK h2⟩
theorem RepHL.mono {I':Nat→Prop}(hi: ∀b,I b→I' b): ∀{cts:List TypeId} {as:List AV} {us:List Value} {bs:List Nat},(∀b∈bs,¬I b→ ¬I' b)→RepHL P I K w cts as us bs→RepHL P I' K w cts as us bs
 |cts,[],_,_,_,h=>by cases cts<;>exact h
 |[],_::_,_,_,_,h=>by simp[RepHL] at h
 |t::ts,a::as,us,bs,hn,h=>by
  simp only[RepHL] at h⊢
  obtain⟨u,us',b1,b2,rfl,rfl,h1,h2⟩:=h
  exact⟨u,us',b1,b2,rfl,rfl,RepH.mono hi (fun b hb=>hn b (List.mem_append.2 (.inl hb))) h1,RepHL.mono hi (fun b hb=>hn b (List.mem_append.2 (.inr hb))) h2⟩
theorem RepRes.mono {I':Nat→Prop}(hi: ∀b,I b→I' b){t:TypeId}{a:AV}{u:Value}{bs:List Nat}(hn: ∀b∈bs,¬I b→ ¬I' b)(h:RepRes P I w t a u bs):RepRes P I' w t a u bs:=by
 unfold RepRes at h⊢
 split
 ·rename_i hagg
  rw[if_pos hagg] at h
  obtain⟨cs,us,e1,e2,h3⟩:=h
  exact⟨cs,us,e1,e2,RepHL.mono hi hn h3⟩
 ·rename_i hagg
  rw[if_neg hagg] at h
  exact RepH.mono hi hn h
theorem tcs_one {t:TypeId}(h:isAggB P t=false):tcs P t=[t]:=by
 unfold tcs tcsN
 unfold isAggB at h
 split
 ·rename_i hu;rw[hu] at h;cases h
 ·rename_i hu;rw[hu] at h;cases h
 ·rfl
theorem hand_ok (G:Gam I K m hp w){t:TypeId}{v v':AV}{u:Value}(hr:Rep k I m hp w v u)(h:(hand P t v).run hp=some (v',hp')):
  ∃I' bs,Gam I' K m hp' w∧Ext I K m hp w I' m hp' w∧RepRes P I' w t v' u bs∧(∀b∈bs,¬I' b∧ ¬K b)∧(∀b,I' b→I b∨LiveB m hp b)∧(∀b∈bs,LiveB m hp b∧ ¬LiveB m hp' b)∧(∀b,LiveB m hp' b→LiveB m hp b)∧bs.Nodup:=by
 unfold hand at h
 split at h
 case isFalse=>simp[Prog.run] at h
 rename_i hc
 obtain⟨hl,ha⟩:=hc
 obtain⟨x,hp0,r0,h2⟩:=run_bind_some h
 clear h
 obtain⟨e0,hcl,us1,hu1,hu2⟩:=cells_ok r0 hr
 rw[e0] at h2
 obtain⟨cs,hp1,r1,h3⟩:=run_bind_some h2
 clear h2
 obtain⟨I1,bs,G1,E1,d1,i1,l1,m1,n1⟩:=handL_ok G hcl r1
 have hbs:=RepHL.bs d1
 have d1:=RepHL.noK d1
 rw[←ha] at h3
 unfold oneV at h3
 cases hb:aggA v with
 |true=>
  rw[hb] at h3 hu1
  simp only[if_true,Prog.run,Option.some.injEq,Prod.mk.injEq] at h3 hu1
  obtain⟨rfl,rfl⟩:=h3
  refine⟨I1,bs,G1,E1,?_,hbs,i1,l1,m1,n1⟩
  unfold RepRes
  rw[if_pos (by rw[←ha,hb])]
  rw[hu1] at d1
  exact⟨cs,us1,rfl,hu1,d1⟩
 |false=>
  rw[hb] at h3
  rw[hu2 hb,tcs_one (by rw[←ha,hb])] at d1
  simp only[Bool.false_eq_true,if_false] at h3
  split at h3
  ·rename_i c
   simp only[Prog.run,Option.some.injEq,Prod.mk.injEq] at h3
   obtain⟨rfl,rfl⟩:=h3
   refine⟨I1,bs,G1,E1,?_,hbs,i1,l1,m1,n1⟩
   unfold RepRes
   rw[if_neg (by rw[←ha,hb];simp)]
   simp only[RepHL] at d1
   obtain⟨u',us',b1,b2,e1,e2,h1,e3,e4⟩:=d1
   simp only[List.cons.injEq] at e1
   obtain⟨rfl,_⟩:=e1
   subst e2 e4
   simpa using h1
  ·simp[Prog.run] at h3
theorem load_ptr (P:Program)(G:Gam I K m hp w){t:TypeId}{a v:AV}{u:Value}(hr:Rep k I m hp w a u)(h:(loadP P t a).run hp=some (v,hp')): ∃ad,u= .pointer (some ad):=by
 unfold loadP at h
 split at h
 ·split at h
  ·rename_i hpos
   obtain⟨cs,hp1,r1,_⟩:=run_bind_some h
   obtain⟨_,_,b,o,us,rfl,_⟩:=cellsFrom_ok G hpos hr r1
   exact⟨_,rfl⟩
  ·simp[Prog.run] at h
 ·split at h
  ·obtain⟨cs,hp1,r1,_⟩:=run_bind_some h
   obtain⟨_,_,b,o,us,rfl,_⟩:=cellsFrom_ok G (by omega) hr r1
   exact⟨_,rfl⟩
  ·simp[Prog.run] at h
def readRes (tmps:Array Value):ResultVar→Sem Value
 | .tmp t=>pure (tmps.getD t undef)
 | .cell a t=>do loadVar t (←asAddr (tmps.getD a undef))
theorem results_ok {fr:Nat→AV}{a:Act}: ∀{ts:List TypeId} {rvs:List ResultVar} {rs:List AV} {I:Nat→Prop} {hp hp':Hp},Gam I K m hp w→(∀t,Rep k I m hp w (fr t) (a.eval (.tmp t)))→(resultsP P fr ts rvs).run hp=some (rs,hp')→
  ∃I' bs us,(rvs.mapM (readRes a.tmps)).run P w= .ok us w∧Gam I' K m hp' w∧Ext I K m hp w I' m hp' w∧RepResL P I' w ts rs us bs∧(∀b∈bs,¬I' b∧ ¬K b)∧(∀b,I' b→I b∨LiveB m hp b)∧(∀b∈bs,LiveB m hp b∧ ¬LiveB m hp' b)∧
   (∀b,LiveB m hp' b→LiveB m hp b)∧bs.Nodup
 |[],[],rs,I,hp,hp',G,hf,h=>by
  simp only[resultsP,Prog.run,Option.some.injEq,Prod.mk.injEq] at h
  obtain⟨rfl,rfl⟩:=h
  exact⟨I,[],[],rfl,G,.refl _ _ _ _ _,⟨rfl,rfl⟩,by simp,fun _ h=> .inl h,by simp,fun _ h=>h,by simp⟩
 |[],_::_,_,_,_,_,_,_,h=>by simp[resultsP,Prog.run] at h
 |_::_,[],_,_,_,_,_,_,h=>by simp[resultsP,Prog.run] at h
 |t::ts,rv::rvs,rs,I,hp,hp',G,hf,h=>by
  simp only[resultsP] at h
  obtain⟨v,hp1,r1,h2⟩:=run_bind_some h
  clear h
  obtain⟨vs,hp2,r2,h3⟩:=run_bind_some h2
  clear h2
  simp only[Prog.run,Option.some.injEq,Prod.mk.injEq] at h3
  obtain⟨rfl,rfl⟩:=h3
  have one: ∃u,(readRes a.tmps rv).run P w= .ok u w∧ ∃v0,Rep k I m hp w v0 u∧(hand P t v0).run hp=some (v,hp1):=by
   cases rv with
   |tmp s=>
    simp only[resultP] at r1
    exact⟨_,rfl,_,hf s,r1⟩
   |cell c t'=>
    simp only[resultP] at r1
    split at r1
    ·rename_i ht
     subst ht
     obtain⟨v0,hp0,r0,h4⟩:=run_bind_some r1
     obtain⟨e0,u',hrun,hrep⟩:=load_ok P G (hf c) r0
     obtain⟨ad,had⟩:=load_ptr P G (hf c) r0
     rw[e0] at h4
     refine⟨u',?_,v0,hrep,h4⟩
     have hev:a.tmps.getD c undef= .pointer (some ad):=had
     rw[had] at hrun
     simp only[readRes,hev,asAddr]
     simpa[Instr.loadAt,Instr.sureAddr] using hrun
    ·simp[Prog.run] at r1
  obtain⟨u,hu,v0,hv0,r1'⟩:=one
  obtain⟨I1,b1,G1,E1,d1,nb1,i1,l1,m1,n1⟩:=hand_ok G hv0 r1'
  obtain⟨I2,b2,us,hus,G2,E2,d2,nb2,i2,l2,m2,n2⟩:=results_ok G1 (fun s=>Rep.mono E1 _ _ _ (hf s)) r2
  have hn1: ∀b∈b1,¬I1 b→ ¬I2 b:=fun b hb hn hi=>by
   rcases i2 b hi with h|h
   ·exact hn h
   ·exact(l1 b hb).2 h
  refine⟨I2,b1++b2,u::us,?_,G2,E1.trans E2,⟨u,us,b1,b2,rfl,rfl,d1.mono E2.isub hn1,d2⟩,fun b hb=>?_,fun b hb=>?_,fun b hb=>?_,fun b hb=>m1 b (m2 b hb),?_⟩
  ·rw[List.mapM_cons,Sem.run_bind,hu,Result.andThen_ok,Sem.run_bind,hus]
   rfl
  ·rcases List.mem_append.1 hb with hb|hb
   ·exact⟨hn1 b hb (nb1 b hb).1,(nb1 b hb).2⟩
   ·exact nb2 b hb
  ·rcases i2 b hb with hb|hb
   ·exact i1 b hb
   ·exact .inr (m1 b hb)
  ·rcases List.mem_append.1 hb with hb|hb
   ·exact⟨(l1 b hb).1,fun hl=>(l1 b hb).2 (m2 b hl)⟩
   ·exact⟨m1 b (l2 b hb).1,(l2 b hb).2⟩
  ·rw[List.nodup_append]
   exact⟨n1,n2,fun b hb1 c hc hbc=>(l1 b hb1).2 (by rw[hbc];exact(l2 c hc).1)⟩
theorem run_results (fn:Func)(tmps:Array Value)(us:List Value)(h:(fn.results.toList.mapM (readRes tmps)).run P w= .ok us w):(results fn tmps).run P w= .ok (retV us) w:=by
 have:results fn tmps=(do let vs←fn.results.mapM (readRes tmps);pure (if h:vs.size=1 then vs[0] else .tuple vs)):=by
  unfold results
  congr 1
 rw[this,Array.mapM_eq_mapM_toList,Sem.run_bind,Sem.run_map,h]
 simp only[Result.andThen_ok]
 match us with
 |[]=>rfl
 |[x]=>rfl
 |_::_::_=>rfl
end
theorem repA_rep {k:Nat}{I:Nat→Prop}{m:Mp}{hp:Hp}{w:World}{a:AV}{u:Value}(h:RepA I w a u):Rep k I m hp w a u:=by
 unfold RepA at h
 split at h
 ·obtain⟨us,rfl,h⟩:=h
  simp only[Rep]
  exact⟨us,rfl,(RepL_iff _ _).2 (((RepDL_iff _ _).1 h).imp fun a u h=>RepD.rep h)⟩
 ·exact RepD.rep h
section
variable {P:Program}{E:Cfg}
theorem evFn_ok (hm:P.follows .mixedOrders=true)(hE:ELaw P E){call:Orc}(hC:OrcOk P call){n f:Nat}{fn:Func}(hfn:P.funcs[f]?=some fn){args rs:List AV}(h:evFn P E call n fn args=some rs)
  {I:Nat→Prop} {w:World} {us:List Value} (hI: ∀b,I b→b<w.heap.size) (hgl:GlOk I w) (ha:AllR (RepA I w) args us):Calls P f ⟨us⟩ w (fun e w'=> ∃u,e= .returned u∧CallPost P I w (rtys P f) rs u w'):=by
 unfold evFn at h
 split at h
 case h_2=>cases h
 rename_i c hb
 split at h
 case isFalse=>cases h
 rename_i hc
 simp only[Bool.and_eq_true,beq_iff_eq] at hc
 obtain⟨hbo,hlen⟩:=hc
 unfold bodyOk at hbo
 rw[hb] at hbo
 simp only[Bool.and_eq_true,decide_eq_true_eq] at hbo
 obtain⟨⟨hs1,hs2⟩,hs3⟩:=hbo
 have hus:us.length=fn.params.size+fn.nfree:=by rw[←ha.1];exact hlen
 have hrt:rtys P f=fn.resultTypes.toList:=by simp[rtys,hfn]
 refine calls_of_wp hfn hb ?_
 have S0:StR 0 fn.ntmps (fun b=>b<w.heap.size∧ ¬I b) ⟨I,fun _=>none,hp0,w,[]⟩ ⟨frame0 args,hp0⟩ {tmps:=(⟨us⟩:Array Value)++Array.replicate (fn.ntmps - (⟨us⟩:Array Value).size) undef,defers:=[]} w:=by
  refine⟨I,fun _=>none,⟨fun x=>trivial,fun x y p q hl=>by simp[hp0,AObj.live] at hl,hI,fun b hb=>hb.1,fun b hb hk=>hk.2 hb,hgl⟩,.refl _ _ _ _ _,fun t=>?_,?_,rfl⟩
  ·by_cases ht:t<us.length
   ·have ht':t<args.length:=by rw[ha.1];exact ht
    have e1:frame0 args t=args[t]:=by simp[frame0,ht']
    have e2:Act.eval {tmps:=(⟨us⟩:Array Value)++Array.replicate (fn.ntmps - (⟨us⟩:Array Value).size) undef,defers:=[]} (.tmp t)=us[t]:=by
     simp[Act.eval,Array.getElem?_append,ht]
    rw[e2]
    show Rep 0 I (fun _=>none) hp0 w (frame0 args t) _
    rw[e1]
    exact repA_rep (ha.2 t _ _ (List.getElem?_eq_getElem ht') (List.getElem?_eq_getElem ht))
   ·have ht': ¬t<args.length:=by rw[ha.1];exact ht
    have e1:frame0 args t= .sc undef:=by simp only[frame0,List.getD_eq_getElem?_getD];rw[List.getElem?_eq_none (by omega)];rfl
    have e2:Act.eval {tmps:=(⟨us⟩:Array Value)++Array.replicate (fn.ntmps - (⟨us⟩:Array Value).size) undef,defers:=[]} (.tmp t)=undef:=by
     simp only[Act.eval,Array.getD_eq_getD_getElem?,Array.getElem?_append]
     rw[if_neg (by simpa using ht),Array.getElem?_replicate]
     split<;>rfl
    rw[e2]
    show Rep 0 I (fun _=>none) hp0 w (frame0 args t) _
    rw[e1]
    simp only[Rep]
  ·simp only[Array.size_append,List.size_toArray,Array.size_replicate]
   omega
 have fin: ∀(st:AS) (hpf:Hp),(resultsP P st.fr fn.resultTypes.toList fn.results.toList).run st.hp=some (rs,hpf)→ ∀a' w',StR 0 fn.ntmps (fun b=>b<w.heap.size∧ ¬I b) ⟨I,fun _=>none,hp0,w,[]⟩ st a' w'→
   a'.defers=[]∧ ∃v,(results fn a'.tmps).run P w'= .ok v w'∧ ∃u,Ending.returned v= .returned u∧CallPost P I w (rtys P f) rs u w':=by
  intro st hpf hr a' w' S
  obtain⟨I1,m1,G1,E1,hf1,_,hd1⟩:=S
  obtain⟨I2,bs,us',hrun,G2,E2,d2,nb,i2,l2,m2,n2⟩:=results_ok G1 hf1 hr
  refine⟨hd1,retV us',run_results fn _ us' hrun,retV us',rfl,?_⟩
  have E12:=E1.trans E2
  exact {
   old:=fun b hb=>E12.keep b (by
    by_cases hi:I b
    ·exact .inl hi
    ·exact .inr ⟨hb,hi⟩)
   size:=E12.size
   os:=E12.os
   tape:=E12.tape
   output:=E12.output
   res:=⟨I2,us',bs,rfl,E12.isub,fun b hb=>by
     by_cases hi:I b
     ·exact .inl hi
     ·exact .inr (Nat.le_of_not_lt fun hlt=>G2.ik b hb ⟨hlt,hi⟩),G2.ilt,fun b hb=>by
     refine⟨Nat.le_of_not_lt fun hlt=>?_,(nb b hb).1⟩
     by_cases hi:I b
     ·exact(nb b hb).1 (E12.isub b hi)
     ·exact(nb b hb).2 ⟨hlt,hi⟩,n2,by rw[hrt];exact d2⟩}
 split at h
 ·cases h
 ·rename_i e st hne hev
  cases hr:(resultsP P st.fr fn.resultTypes.toList fn.results.toList).run st.hp with
  |none=>rw[hr] at h;cases h
  |some p=>
   obtain⟨rs',hpf⟩:=p
   rw[hr] at h
   simp only[Option.map_some,Option.some.injEq] at h
   subst h
   refine evC_ok hm hE hC n c hs1 S0 hev fun a' w' S=>?_
   have hfin:=fin st hpf hr a' w' S
   cases e with
   |normal=>exact hfin
   |exit i=>exact(hne i rfl).elim
   |ret=>exact hfin
   |panic v=>exact(evC_np0 n _ _ hev v rfl).elim
 ·cases h
/-! ### calls on the caller's heap -/
theorem escL_ok {K:Nat→Prop}{w:World}{k:Nat}{f:Nat→AV→Prog AV}
  (hf: ∀{I:Nat→Prop} {m:Mp} {hp hp':Hp} {c:Nat} {v v':AV} {u:Value},Gam I K m hp w→Rep (k+1) I m hp w v u→(f c v).run hp=some (v',hp')→ ∃I' m',Sim I' K m' hp' w v' k I m hp w u):
  ∀{as as':List AV} {us:List Value} {c:Nat} {I:Nat→Prop} {m:Mp} {hp hp':Hp},Gam I K m hp w→AllR (Rep (k+1) I m hp w) as us→(escL f c as).run hp=some (as',hp')→
  ∃I' m',Gam I' K m' hp' w∧Ext I K m hp w I' m' hp' w∧AllR (Rep k I' m' hp' w) as' us
 |[],as',us,c,I,m,hp,hp',G,hr,h=>by
  simp only[escL,Prog.run,Option.some.injEq,Prod.mk.injEq] at h
  obtain⟨rfl,rfl⟩:=h
  have:us=[]:=List.eq_nil_of_length_eq_zero (by rw[←hr.1];rfl)
  subst this
  exact⟨I,m,G,.refl _ _ _ _ _,.nil⟩
 |a::as,as',us,c,I,m,hp,hp',G,hr,h=>by
  obtain⟨u,us',rfl,h1,h2⟩:=hr.cons_inv
  simp only[escL] at h
  obtain⟨v1,hp1,r1,h3⟩:=run_bind_some h
  clear h
  obtain⟨vs,hp2,r2,h4⟩:=run_bind_some h3
  clear h3
  simp only[Prog.run,Option.some.injEq,Prod.mk.injEq] at h4
  obtain⟨rfl,rfl⟩:=h4
  obtain⟨I1,m1,G1,E1,R1⟩:=hf G h1 r1
  obtain⟨I2,m2,G2,E2,R2⟩:=escL_ok hf G1 (h2.imp fun a u h=>Rep.mono E1 _ a u h) r2
  exact⟨I2,m2,G2,E1.trans E2,.cons (Rep.mono E2 _ _ _ R1) R2⟩
theorem escC_ok {K:Nat→Prop}{w:World}{k d:Nat}: ∀(n:Nat) {cap:Bool} {I:Nat→Prop} {m:Mp} {hp hp':Hp} {c:Nat} {v v':AV} {u:Value},Gam I K m hp w→Rep (k+1) I m hp w v u→(escC P k d n cap c v).run hp=some (v',hp')→
  ∃I' m',Sim I' K m' hp' w v' k I m hp w u:=by
 intro n
 induction n with
 |zero=>
  intro cap I m hp hp' c v v' u G hr h
  cases v with
  |sc x=>
   simp only[escC,Prog.run,Option.some.injEq,Prod.mk.injEq] at h
   obtain⟨rfl,rfl⟩:=h
   exact⟨I,m,G,.refl _ _ _ _ _,by simpa only[Rep] using hr⟩
  |sl f sz rows=>
   simp only[escC,Prog.run,Option.some.injEq,Prod.mk.injEq] at h
   obtain⟨rfl,rfl⟩:=h
   exact⟨I,m,G,.refl _ _ _ _ _,by simpa only[Rep] using hr⟩
  |dp c o=>
   simp only[escC,Prog.run,Option.some.injEq,Prod.mk.injEq] at h
   obtain⟨rfl,rfl⟩:=h
   exact⟨I,m,G,.refl _ _ _ _ _,by simpa only[Rep] using hr⟩
  |own x g n=>
   simp only[escC] at h
   split at h
   ·rename_i hd
    simp only[Prog.run,Option.some.injEq,Prod.mk.injEq] at h
    obtain⟨rfl,rfl⟩:=h
    refine⟨I,m,G,.refl _ _ _ _ _,?_⟩
    simp only[Rep] at hr⊢
    exact⟨hd,hr.2⟩
   ·obtain⟨I',m',G',E',R',_⟩:=settle_ok G hr h
    exact⟨I',m',G',E',R'⟩
  |ptr x g o=>
   simp only[escC] at h
   split at h
   ·rename_i hd
    simp only[Prog.run,Option.some.injEq,Prod.mk.injEq] at h
    obtain⟨rfl,rfl⟩:=h
    refine⟨I,m,G,.refl _ _ _ _ _,?_⟩
    simp only[Rep] at hr⊢
    exact⟨hd,hr.2⟩
   ·simp[Prog.run] at h
  |eptr x g i o=>
   simp only[escC] at h
   split at h
   ·rename_i hd
    simp only[Prog.run,Option.some.injEq,Prod.mk.injEq] at h
    obtain⟨rfl,rfl⟩:=h
    refine⟨I,m,G,.refl _ _ _ _ _,?_⟩
    simp only[Rep] at hr⊢
    exact⟨hd,hr.2⟩
   ·simp[Prog.run] at h
  |dmp ag ks rows=>
   simp only[escC,Prog.run,Option.some.injEq,Prod.mk.injEq] at h
   obtain⟨rfl,rfl⟩:=h
   exact⟨I,m,G,.refl _ _ _ _ _,by simpa only[Rep] using hr⟩
  |mp x g=>
   simp only[escC] at h
   split at h
   ·rename_i hd
    simp only[Prog.run,Option.some.injEq,Prod.mk.injEq] at h
    obtain⟨rfl,rfl⟩:=h
    refine⟨I,m,G,.refl _ _ _ _ _,?_⟩
    simp only[Rep] at hr⊢
    exact⟨hd,hr.2⟩
   ·simp only[Prog.run] at h
    cases hx:hp x with
    |no g'=>rw[hx] at h;simp[Prog.run] at h
    |box g' cells f=>rw[hx] at h;simp[Prog.run] at h
    |arr g' sz e' rows f=>rw[hx] at h;simp[Prog.run] at h
    |map g' ag ks rows f=>
     rw[hx] at h
     simp only at h
     split at h
     case isFalse=>simp[Prog.run] at h
     rename_i hg
     subst hg
     simp only[Prog.run,Option.some.injEq,Prod.mk.injEq] at h
     obtain⟨rfl,rfl⟩:=h
     obtain⟨I',G',E',hb,_⟩:=G.freezeMap' hx
     exact⟨I',m,G',E',(G.mapD hx hr E'.isub hb).rep⟩
  |any|agg|tup|vec|bsl|fn=>simp[escC,Prog.run] at h
 |succ n ih=>
  intro cap I m hp hp' c v v' u G hr h
  cases v with
  |sc x=>
   simp only[escC,Prog.run,Option.some.injEq,Prod.mk.injEq] at h
   obtain⟨rfl,rfl⟩:=h
   exact⟨I,m,G,.refl _ _ _ _ _,by simpa only[Rep] using hr⟩
  |sl f sz rows=>
   simp only[escC,Prog.run,Option.some.injEq,Prod.mk.injEq] at h
   obtain⟨rfl,rfl⟩:=h
   exact⟨I,m,G,.refl _ _ _ _ _,by simpa only[Rep] using hr⟩
  |dp c o=>
   simp only[escC,Prog.run,Option.some.injEq,Prod.mk.injEq] at h
   obtain⟨rfl,rfl⟩:=h
   exact⟨I,m,G,.refl _ _ _ _ _,by simpa only[Rep] using hr⟩
  |own x g n=>
   simp only[escC] at h
   split at h
   ·rename_i hd
    simp only[Prog.run,Option.some.injEq,Prod.mk.injEq] at h
    obtain⟨rfl,rfl⟩:=h
    refine⟨I,m,G,.refl _ _ _ _ _,?_⟩
    simp only[Rep] at hr⊢
    exact⟨hd,hr.2⟩
   ·obtain⟨I',m',G',E',R',_⟩:=settle_ok G hr h
    exact⟨I',m',G',E',R'⟩
  |eptr x g i o=>
   simp only[escC] at h
   split at h
   ·rename_i hd
    simp only[Prog.run,Option.some.injEq,Prod.mk.injEq] at h
    obtain⟨rfl,rfl⟩:=h
    refine⟨I,m,G,.refl _ _ _ _ _,?_⟩
    simp only[Rep] at hr⊢
    exact⟨hd,hr.2⟩
   ·simp[Prog.run] at h
  |fn f caps=>
   simp only[escC] at h
   simp only[Rep] at hr
   obtain⟨us,rfl,hr⟩:=hr
   obtain⟨cs,hp1,r1,h2⟩:=run_bind_some h
   simp only[Prog.run,Option.some.injEq,Prod.mk.injEq] at h2
   obtain⟨rfl,rfl⟩:=h2
   obtain⟨I',m',G',E',R'⟩:=escL_ok (fun G hr h=>ih G hr h) G ((RepL_iff _ _).1 hr) r1
   refine⟨I',m',G',E',?_⟩
   simp only[Rep]
   exact⟨us,rfl,(RepL_iff _ _).2 R'⟩
  |ptr x g o=>
   simp only[escC] at h
   split at h
   ·rename_i hd
    simp only[Prog.run,Option.some.injEq,Prod.mk.injEq] at h
    obtain⟨rfl,rfl⟩:=h
    refine⟨I,m,G,.refl _ _ _ _ _,?_⟩
    simp only[Rep] at hr⊢
    exact⟨hd,hr.2⟩
   ·simp only[Prog.run] at h
    cases hx:hp x with
    |no g'=>rw[hx] at h;simp[Prog.run] at h
    |map _ _ _ _ _=>rw[hx] at h;simp[Prog.run] at h
    |arr g' sz e' rows f=>rw[hx] at h;simp[Prog.run] at h
    |box g' cells f=>
     rw[hx] at h
     simp only at h
     split at h
     case isFalse=>simp[Prog.run] at h
     rename_i hg
     subst hg
     split at h
     ·rename_i hc
      simp only[Bool.and_eq_true] at hc
      have hdat:=hc.2
      simp only[Prog.run,Option.some.injEq,Prod.mk.injEq] at h
      obtain⟨rfl,rfl⟩:=h
      obtain⟨I',G',E',hb'⟩:=G.freezeBox hx (fun us hus=>datL_dat hdat hus)
      have ho:=G'.obj x
      rw[upd_same] at ho
      obtain⟨b,c,us,T,mk,o1,o2,o3,o4,o5,o6⟩:=ho
      have hda:=(o5 rfl).2
      simp only[Rep] at hr
      obtain⟨_,_,hr⟩:=hr
      obtain⟨b',c',hm,rfl⟩:=hr cells f hx
      rw[o1] at hm;cases hm
      refine⟨I',m,G',E',?_⟩
      simp only[Rep,RepD]
      refine⟨b,0,us.toList.take cells.length,by simp,(o5 rfl).1,fun j v hv=>?_,hda⟩
      rw[cell_of_row w b (0+j) us T mk o2]
      simpa using take_some hv
     ·split at h
      case isFalse=>simp[Prog.run] at h
      rename_i hfz
      subst hfz
      obtain⟨cs,hp1,r1,h2⟩:=run_bind_some h
      clear h
      have ho:=G.obj x
      rw[hx] at ho
      obtain⟨b,c0,us,T,mk,o1,o2,o3,o4,o5,o6⟩:=ho
      simp only[Rep] at hr
      obtain⟨hd1,_,hr⟩:=hr
      obtain⟨b',c',hm,rfl⟩:=hr cells false hx
      rw[o1] at hm;cases hm
      obtain⟨I1,m1,G1,E1,R1⟩:=escL_ok (fun G hr h=>ih G hr h) G (((RepL_iff _ _).1 o4).imp fun a u h=>Rep.depth hd1 a u h) r1
      simp only[moveB,Prog.run] at h2
      cases hx1:hp1 x with
      |no g1=>rw[hx1] at h2;simp[Prog.run] at h2
      |map _ _ _ _ _=>rw[hx1] at h2;simp[Prog.run] at h2
      |arr g1 sz e' rows f=>rw[hx1] at h2;simp[Prog.run] at h2
      |box g1 cells1 f1=>
       rw[hx1] at h2
       simp only at h2
       split at h2
       case isFalse=>simp[Prog.run] at h2
       rename_i hc
       obtain⟨rfl,rfl,hxy⟩:=hc
       simp only[Prog.run,Option.some.injEq,Prod.mk.injEq,upd_other _ _ (Ne.symm hxy)] at h2
       obtain⟨rfl,rfl⟩:=h2
       have hst:=E1.stable x (by rw[hx1,hx];rfl)
       rw[hx] at hst
       have hmx:m1 x=some (b,c0):=by rw[hst.1,o1]
       have ho1:=G1.obj x
       rw[hx1] at ho1
       obtain⟨b1,c1,us1,T1,mk1,q1,q2,q3,q4,q5,q6⟩:=ho1
       rw[hmx] at q1;cases q1
       rw[o2] at q2;cases q2
       obtain⟨G2,E2⟩:=G1.moveBox (cs:=cs) hxy hx1 hmx o2 o3 (by rw[show cs.length=cells.length from R1.1.trans ((RepL_iff _ _).1 o4).1.symm];exact(RepL_iff _ _).2 R1) (q6 rfl)
       refine⟨I1,_,G2,E1.trans E2,?_⟩
       simp only[Rep]
       refine⟨Nat.le_refl _,by rw[upd_same];exact Nat.le_refl _,fun cells' fz' hx'=>⟨b,c0,by rw[upd_same];exact hmx,rfl⟩⟩
  |dmp ag ks rows=>
   simp only[escC,Prog.run,Option.some.injEq,Prod.mk.injEq] at h
   obtain⟨rfl,rfl⟩:=h
   exact⟨I,m,G,.refl _ _ _ _ _,by simpa only[Rep] using hr⟩
  |mp x g=>
   simp only[escC] at h
   split at h
   ·rename_i hd
    simp only[Prog.run,Option.some.injEq,Prod.mk.injEq] at h
    obtain⟨rfl,rfl⟩:=h
    refine⟨I,m,G,.refl _ _ _ _ _,?_⟩
    simp only[Rep] at hr⊢
    exact⟨hd,hr.2⟩
   ·simp only[Prog.run] at h
    cases hx:hp x with
    |no g'=>rw[hx] at h;simp[Prog.run] at h
    |box g' cells f=>rw[hx] at h;simp[Prog.run] at h
    |arr g' sz e' rows f=>rw[hx] at h;simp[Prog.run] at h
    |map g' ag ks rows f=>
     rw[hx] at h
     simp only at h
     split at h
     case isFalse=>simp[Prog.run] at h
     rename_i hg
     subst hg
     simp only[Prog.run,Option.some.injEq,Prod.mk.injEq] at h
     obtain⟨rfl,rfl⟩:=h
     obtain⟨I',G',E',hb,_⟩:=G.freezeMap' hx
     exact⟨I',m,G',E',(G.mapD hx hr E'.isub hb).rep⟩
  |any|agg|tup|vec|bsl=>simp[escC,Prog.run] at h
theorem lowerC_ok {I K:Nat→Prop}{m:Mp}{hp hp':Hp}{w:World}{k:Nat}(G:Gam I K m hp w){y:Nm}(hy:y.d=k){v v':AV}{u:Value}(hr:Rep (k+1) I m hp w v u)(h:(lowerC P k y v).run hp=some (v',hp')):
  ∃I' m',Sim I' K m' hp' w v' k I m hp w u:=escC_ok 6 G hr h
theorem lowerL_ok {K:Nat→Prop}{w:World}{k d:Nat}: ∀{c:Nat} {as as':List AV} {us:List Value} {I:Nat→Prop} {m:Mp} {hp hp':Hp},Gam I K m hp w→AllR (Rep (k+1) I m hp w) as us→(lowerL P k d c as).run hp=some (as',hp')→
  ∃I' m',Gam I' K m' hp' w∧Ext I K m hp w I' m' hp' w∧AllR (Rep k I' m' hp' w) as' us
 |c,[],as',us,I,m,hp,hp',G,hr,h=>by
  simp only[lowerL,Prog.run,Option.some.injEq,Prod.mk.injEq] at h
  obtain⟨rfl,rfl⟩:=h
  have:us=[]:=List.eq_nil_of_length_eq_zero (by rw[←hr.1];rfl)
  subst this
  exact⟨I,m,G,.refl _ _ _ _ _,.nil⟩
 |c,a::as,as',us,I,m,hp,hp',G,hr,h=>by
  obtain⟨u,us',rfl,h1,h2⟩:=hr.cons_inv
  simp only[lowerL] at h
  obtain⟨v1,hp1,r1,h3⟩:=run_bind_some h
  clear h
  obtain⟨vs,hp2,r2,h4⟩:=run_bind_some h3
  clear h3
  simp only[Prog.run,Option.some.injEq,Prod.mk.injEq] at h4
  obtain⟨rfl,rfl⟩:=h4
  obtain⟨I1,m1,G1,E1,R1⟩:=lowerC_ok G (y:=⟨k,d,c⟩) rfl h1 r1
  obtain⟨I2,m2,G2,E2,R2⟩:=lowerL_ok G1 (h2.imp fun a u h=>Rep.mono E1 _ a u h) r2
  exact⟨I2,m2,G2,E1.trans E2,.cons (Rep.mono E2 _ _ _ R1) R2⟩
theorem lowerV_ok {I K:Nat→Prop}{m:Mp}{hp hp':Hp}{w:World}{k d c:Nat}(G:Gam I K m hp w){v v':AV}{u:Value}(hr:Rep (k+1) I m hp w v u)(h:(lowerV P k d c v).run hp=some (v',hp')):
  ∃I' m',Sim I' K m' hp' w v' k I m hp w u:=by
 unfold lowerV at h
 split at h
 ·rename_i cs
  simp only[Rep] at hr
  obtain⟨us,rfl,hr⟩:=hr
  obtain⟨vs,hp1,r1,h2⟩:=run_bind_some h
  simp only[Prog.run,Option.some.injEq,Prod.mk.injEq] at h2
  obtain⟨rfl,rfl⟩:=h2
  obtain⟨I',m',G',E',R'⟩:=lowerL_ok G ((RepL_iff _ _).1 hr) r1
  refine⟨I',m',G',E',?_⟩
  simp only[Rep]
  exact⟨us,rfl,(RepL_iff _ _).2 R'⟩
 ·exact lowerC_ok G (y:=⟨k,d,c⟩) rfl hr h
theorem resultV_ok {I K:Nat→Prop}{m:Mp}{hp hp':Hp}{w:World}{k:Nat}(G:Gam I K m hp w){fr:Nat→AV}{a:Act}(hf: ∀t,Rep k I m hp w (fr t) (a.eval (.tmp t))){r:ResultVar}{v:AV}(h:(resultV P fr r).run hp=some (v,hp')):
  hp'=hp∧ ∃u,(readRes a.tmps r).run P w= .ok u w∧Rep k I m hp w v u:=by
 cases r with
 |tmp s=>
  simp only[resultV,Prog.run,Option.some.injEq,Prod.mk.injEq] at h
  obtain⟨rfl,rfl⟩:=h
  exact⟨rfl,_,rfl,hf s⟩
 |cell c t=>
  simp only[resultV] at h
  obtain⟨e0,u',hrun,hrep⟩:=load_ok P G (hf c) h
  obtain⟨ad,had⟩:=load_ptr P G (hf c) h
  refine⟨e0,u',?_,hrep⟩
  have hev:a.tmps.getD c undef= .pointer (some ad):=had
  rw[had] at hrun
  simp only[readRes,hev,asAddr]
  simpa[Instr.loadAt,Instr.sureAddr] using hrun
theorem lowerAll_ok {K:Nat→Prop}{w:World}{k d:Nat}{fr:Nat→AV}{a:Act}: ∀{c:Nat} {rvs:List ResultVar} {as':List AV} {I:Nat→Prop} {m:Mp} {hp hp':Hp},Gam I K m hp w→(∀t,Rep (k+1) I m hp w (fr t) (a.eval (.tmp t)))→(lowerAll P fr k d c rvs).run hp=some (as',hp')→
  ∃I' m' us,(rvs.mapM (readRes a.tmps)).run P w= .ok us w∧Gam I' K m' hp' w∧Ext I K m hp w I' m' hp' w∧AllR (Rep k I' m' hp' w) as' us∧us.length=rvs.length
 |c,[],as',I,m,hp,hp',G,hf,h=>by
  simp only[lowerAll,Prog.run,Option.some.injEq,Prod.mk.injEq] at h
  obtain⟨rfl,rfl⟩:=h
  exact⟨I,m,[],rfl,G,.refl _ _ _ _ _,.nil,rfl⟩
 |c,r::rvs,as',I,m,hp,hp',G,hf,h=>by
  simp only[lowerAll] at h
  obtain⟨v0,hp0,r0,h1⟩:=run_bind_some h
  clear h
  obtain⟨v1,hp1,r1,h2⟩:=run_bind_some h1
  clear h1
  obtain⟨vs,hp2,r2,h3⟩:=run_bind_some h2
  clear h2
  simp only[Prog.run,Option.some.injEq,Prod.mk.injEq] at h3
  obtain⟨rfl,rfl⟩:=h3
  obtain⟨e0,u,hu,hru⟩:=resultV_ok G hf r0
  rw[e0] at r1
  obtain⟨I1,m1,G1,E1,R1⟩:=lowerV_ok G hru r1
  obtain⟨I2,m2,us,hus,G2,E2,R2,hl⟩:=lowerAll_ok G1 (fun s=>Rep.mono E1 _ _ _ (hf s)) r2
  refine⟨I2,m2,u::us,?_,G2,E1.trans E2,.cons (Rep.mono E2 _ _ _ R1) R2,by simp[hl]⟩
  rw[List.mapM_cons,Sem.run_bind,hu,Result.andThen_ok,Sem.run_bind,hus]
  rfl
theorem lowerRes_ok {I K:Nat→Prop}{m:Mp}{hp hp':Hp}{w:World}{k d:Nat}(G:Gam I K m hp w){fr:Nat→AV}{a:Act}(hf: ∀t,Rep (k+1) I m hp w (fr t) (a.eval (.tmp t))){rvs:List ResultVar}{v:AV}(h:(lowerRes P fr k d rvs).run hp=some (v,hp')):
  ∃us,(rvs.mapM (readRes a.tmps)).run P w= .ok us w∧ ∃I' m',Sim I' K m' hp' w v k I m hp w (retV us):=by
 unfold lowerRes at h
 split at h
 ·rename_i r
  obtain⟨v0,hp0,r0,h1⟩:=run_bind_some h
  obtain⟨e0,u,hu,hru⟩:=resultV_ok G hf r0
  rw[e0] at h1
  obtain⟨I1,m1,S⟩:=lowerV_ok G hru h1
  refine⟨[u],?_,I1,m1,S⟩
  rw[List.mapM_cons,Sem.run_bind,hu]
  rfl
 ·rename_i hne
  obtain⟨vs,hp1,r1,h2⟩:=run_bind_some h
  simp only[Prog.run,Option.some.injEq,Prod.mk.injEq] at h2
  obtain⟨rfl,rfl⟩:=h2
  obtain⟨I1,m1,us,hus,G1,E1,R1,hl⟩:=lowerAll_ok G hf r1
  refine⟨us,hus,I1,m1,G1,E1,?_⟩
  have hret:retV us= .tuple ⟨us⟩:=by
   match us,hl with
   |[],_=>rfl
   |[x],hl=>
    exfalso
    match rvs,hl with
    |[r],_=>exact hne r rfl
   |_::_::_,_=>rfl
  rw[hret]
  simp only[Rep]
  exact⟨us,rfl,(RepL_iff _ _).2 R1⟩
theorem frame_ok {I:Nat→Prop}{m:Mp}{hp:Hp}{w:World}{k n:Nat}{args:List AV}{us:List Value}(ha:AllR (Rep k I m hp w) args us)(t:Nat):
  Rep k I m hp w (frame0 args t) (Act.eval {tmps:=(⟨us⟩:Array Value)++Array.replicate n undef,defers:=[]} (.tmp t)):=by
 by_cases ht:t<us.length
 ·have ht':t<args.length:=by rw[ha.1];exact ht
  have e1:frame0 args t=args[t]:=by simp[frame0,ht']
  have e2:Act.eval {tmps:=(⟨us⟩:Array Value)++Array.replicate n undef,defers:=[]} (.tmp t)=us[t]:=by
   simp[Act.eval,Array.getElem?_append,ht]
  rw[e1,e2]
  exact ha.2 t _ _ (List.getElem?_eq_getElem ht') (List.getElem?_eq_getElem ht)
 ·have ht': ¬t<args.length:=by rw[ha.1];exact ht
  have e1:frame0 args t= .sc undef:=by simp only[frame0,List.getD_eq_getElem?_getD];rw[List.getElem?_eq_none (by omega)];rfl
  have e2:Act.eval {tmps:=(⟨us⟩:Array Value)++Array.replicate n undef,defers:=[]} (.tmp t)=undef:=by
   simp only[Act.eval,Array.getD_eq_getD_getElem?,Array.getElem?_append]
   rw[if_neg (by simpa using ht),Array.getElem?_replicate]
   split<;>rfl
  rw[e1,e2]
  simp only[Rep]
theorem evFnH_ok (hm:P.follows .mixedOrders=true)(hE:ELaw P E){call:Orc}(hC:OrcOk P call){n f k d:Nat}{fn:Func}(hfn:P.funcs[f]?=some fn){args:List AV}{v:AV}{hp hp':Hp}(h:evFnH P E call n fn k d args hp=some (v,hp'))
  {I K:Nat→Prop} {m:Mp} {w:World} {us:List Value} (G:Gam I K m hp w) (ha:AllR (Rep k I m hp w) args us):Calls P f ⟨us⟩ w (fun e w'=> ∃u,e= .returned u∧ ∃I' m',Sim I' K m' hp' w' v k I m hp w u):=by
 unfold evFnH at h
 split at h
 case h_2=>cases h
 rename_i c hb
 split at h
 case isFalse=>cases h
 rename_i hc
 simp only[Bool.and_eq_true,beq_iff_eq] at hc
 obtain⟨hbo,hlen⟩:=hc
 unfold bodyOk at hbo
 rw[hb] at hbo
 simp only[Bool.and_eq_true,decide_eq_true_eq] at hbo
 obtain⟨⟨hs1,hs2⟩,hs3⟩:=hbo
 have hus:us.length=fn.params.size+fn.nfree:=by rw[←ha.1];exact hlen
 refine calls_of_wp hfn hb ?_
 have S0:StR (k+1) fn.ntmps K ⟨I,m,hp,w,[]⟩ ⟨frame0 args,hp⟩ {tmps:=(⟨us⟩:Array Value)++Array.replicate (fn.ntmps - (⟨us⟩:Array Value).size) undef,defers:=[]} w:=by
  refine⟨I,m,G,.refl _ _ _ _ _,fun t=>frame_ok (ha.imp fun a u h=>Rep.depth (Nat.le_succ k) a u h) t,?_,rfl⟩
  simp only[Array.size_append,List.size_toArray,Array.size_replicate]
  omega
 split at h
 ·cases h
 ·rename_i e st hne hev
  refine evC_ok hm hE hC n c hs1 S0 hev fun a' w' S=>?_
  obtain⟨I1,m1,G1,E1,hf1,_,hd1⟩:=S
  obtain⟨us',hrun,I2,m2,G2,E2,R2⟩:=lowerRes_ok G1 hf1 h
  have hfin:a'.defers=[]∧ ∃v',(results fn a'.tmps).run P w'= .ok v' w'∧ ∃u,Ending.returned v'= .returned u∧ ∃I' m',Sim I' K m' hp' w' v k I m hp w u:=
   ⟨hd1,retV us',run_results fn _ us' hrun,retV us',rfl,I2,m2,G2,E1.trans E2,R2⟩
  cases e with
  |normal=>exact hfin
  |exit i=>exact(hne i rfl).elim
  |ret=>exact hfin
  |panic v=>exact(evC_np0 n _ _ hev v rfl).elim
 ·cases h
theorem inlAll_ok {I K:Nat→Prop}{m:Mp}{hp:Hp}{w:World}{k:Nat}(G:Gam I K m hp w){fr:Nat→AV}{a:Act}(hf: ∀t,Rep k I m hp w (fr t) (a.eval (.tmp t))): ∀{rvs:List ResultVar} {vs:List AV} {hp':Hp},(inlAll P fr rvs).run hp=some (vs,hp')→
  hp'=hp∧ ∃us,(rvs.mapM (readRes a.tmps)).run P w= .ok us w∧AllR (Rep k I m hp w) vs us∧us.length=rvs.length
 |[],vs,hp',h=>by
  simp only[inlAll,Prog.run,Option.some.injEq,Prod.mk.injEq] at h
  obtain⟨rfl,rfl⟩:=h
  exact⟨rfl,[],rfl,.nil,rfl⟩
 |r::rvs,vs,hp',h=>by
  simp only[inlAll] at h
  obtain⟨v0,hp0,r0,h1⟩:=run_bind_some h
  obtain⟨vs',hp1,r1,h2⟩:=run_bind_some h1
  simp only[Prog.run,Option.some.injEq,Prod.mk.injEq] at h2
  obtain⟨rfl,rfl⟩:=h2
  obtain⟨e0,u,hu,hru⟩:=resultV_ok G hf r0
  rw[e0] at r1
  obtain⟨e1,us,hus,R,hl⟩:=inlAll_ok G hf r1
  refine⟨e1,u::us,?_,.cons hru R,by simp[hl]⟩
  rw[List.mapM_cons,Sem.run_bind,hu,Result.andThen_ok,Sem.run_bind,hus]
  rfl
theorem inlRes_ok {I K:Nat→Prop}{m:Mp}{hp hp':Hp}{w:World}{k:Nat}(G:Gam I K m hp w){fr:Nat→AV}{a:Act}(hf: ∀t,Rep k I m hp w (fr t) (a.eval (.tmp t))){rvs:List ResultVar}{v:AV}(h:(inlRes P fr rvs).run hp=some (v,hp')):
  hp'=hp∧ ∃us,(rvs.mapM (readRes a.tmps)).run P w= .ok us w∧Rep k I m hp w v (retV us):=by
 unfold inlRes at h
 split at h
 ·rename_i r
  obtain⟨e0,u,hu,hru⟩:=resultV_ok G hf h
  refine⟨e0,[u],?_,hru⟩
  rw[List.mapM_cons,Sem.run_bind,hu]
  rfl
 ·rename_i hne
  obtain⟨vs,hp1,r1,h2⟩:=run_bind_some h
  simp only[Prog.run,Option.some.injEq,Prod.mk.injEq] at h2
  obtain⟨rfl,rfl⟩:=h2
  obtain⟨e1,us,hus,R,hl⟩:=inlAll_ok G hf r1
  refine⟨e1,us,hus,?_⟩
  have hret:retV us= .tuple ⟨us⟩:=by
   match us,hl with
   |[],_=>rfl
   |[x],hl=>
    exfalso
    match rvs,hl with
    |[r],_=>exact hne r rfl
   |_::_::_,_=>rfl
  rw[hret]
  simp only[Rep]
  exact⟨us,rfl,(RepL_iff _ _).2 R⟩
theorem evFnI_ok (hm:P.follows .mixedOrders=true)(hE:ELaw P E){call:Orc}(hC:OrcOk P call){n f k d:Nat}{fn:Func}(hfn:P.funcs[f]?=some fn){args:List AV}{v:AV}{hp hp':Hp}(h:evFnI P E call n fn k d args hp=some (v,hp'))
  {I K:Nat→Prop} {m:Mp} {w:World} {us:List Value} (G:Gam I K m hp w) (ha:AllR (Rep k I m hp w) args us):Calls P f ⟨us⟩ w (fun e w'=> ∃u,e= .returned u∧ ∃I' m',Sim I' K m' hp' w' v k I m hp w u):=by
 unfold evFnI at h
 split at h
 case h_2=>cases h
 rename_i c hb
 split at h
 case isFalse=>cases h
 rename_i hc
 simp only[Bool.and_eq_true,beq_iff_eq] at hc
 obtain⟨hbo,hlen⟩:=hc
 unfold bodyOk at hbo
 rw[hb] at hbo
 simp only[Bool.and_eq_true,decide_eq_true_eq] at hbo
 obtain⟨⟨hs1,hs2⟩,hs3⟩:=hbo
 have hus:us.length=fn.params.size+fn.nfree:=by rw[←ha.1];exact hlen
 refine calls_of_wp hfn hb ?_
 have S0:StR k fn.ntmps K ⟨I,m,hp,w,[]⟩ ⟨frame0 args,hp⟩ {tmps:=(⟨us⟩:Array Value)++Array.replicate (fn.ntmps - (⟨us⟩:Array Value).size) undef,defers:=[]} w:=by
  refine⟨I,m,G,.refl _ _ _ _ _,fun t=>frame_ok ha t,?_,rfl⟩
  simp only[Array.size_append,List.size_toArray,Array.size_replicate]
  omega
 have hE':ELaw P (E.at ((d+1)*1000)):=hE
 split at h
 ·cases h
 ·rename_i e st hne hev
  refine evC_ok hm hE' hC n c hs1 S0 hev fun a' w' S=>?_
  obtain⟨I1,m1,G1,E1,hf1,_,hd1⟩:=S
  obtain⟨e1,us',hrun,R2⟩:=inlRes_ok G1 hf1 h
  subst e1
  have hfin:a'.defers=[]∧ ∃v',(results fn a'.tmps).run P w'= .ok v' w'∧ ∃u,Ending.returned v'= .returned u∧ ∃I' m',Sim I' K m' st.hp w' v k I m hp w u:=
   ⟨hd1,retV us',run_results fn _ us' hrun,retV us',rfl,I1,m1,G1,E1,R2⟩
  cases e with
  |normal=>exact hfin
  |exit i=>exact(hne i rfl).elim
  |ret=>exact hfin
  |panic v=>exact(evC_np0 n _ _ hev v rfl).elim
 ·cases h
theorem RepA.rep {I:Nat→Prop}{m:Mp}{hp:Hp}{w:World}{k:Nat}{a:AV}{u:Value}(h:RepA I w a u):Rep k I m hp w a u:=by
 cases a with
 |agg cs=>
  obtain⟨us,rfl,h⟩:=h
  simp only[Rep]
  exact⟨us,rfl,(RepL_iff _ _).2 (((RepDL_iff _ _).1 h).imp fun a u h=>RepD.rep h)⟩
 |_=>exact RepD.rep h
theorem frzRes_ok {I K:Nat→Prop}{m:Mp}{hp hp':Hp}{w:World}{k k':Nat}(G:Gam I K m hp w){fr:Nat→AV}{a:Act}(hf: ∀t,Rep k' I m hp w (fr t) (a.eval (.tmp t))){ts:List TypeId}{rvs:List ResultVar}{v:AV}(h:(frzRes P fr ts rvs).run hp=some (v,hp')):
  ∃us,(rvs.mapM (readRes a.tmps)).run P w= .ok us w∧ ∃I' m',Sim I' K m' hp' w v k I m hp w (retV us):=by
 unfold frzRes at h
 obtain⟨vs,hp1,r1,h1⟩:=run_bind_some h
 obtain⟨as,hp2,r2,h2⟩:=run_bind_some h1
 simp only[Prog.run,Option.some.injEq,Prod.mk.injEq] at h2
 obtain⟨rfl,rfl⟩:=h2
 obtain⟨e1,us,hus,R,hl⟩:=inlAll_ok G hf r1
 subst e1
 obtain⟨I1,G1,E1,d1⟩:=args_frz G R r2
 refine⟨us,hus,I1,m,G1,E1,?_⟩
 have hll:=d1.1
 match as,us,hll with
 |[],[],_=>simp only[packV,retV,Rep];exact⟨[],rfl,by simp only[RepL]⟩
 |[v],[u],_=>exact RepA.rep (d1.2 0 _ _ rfl rfl)
 |v1::v2::vs,u1::u2::us,_=>
  have:Rep k I1 m hp2 w (.tup (v1::v2::vs)) (.tuple ⟨u1::u2::us⟩):=by
   simp only[Rep]
   exact⟨_,rfl,(RepL_iff _ _).2 (d1.imp fun a u h=>RepA.rep h)⟩
  exact this
theorem evFnZ_ok (hm:P.follows .mixedOrders=true)(hE:ELaw P E){call:Orc}(hC:OrcOk P call){n f k:Nat}{fn:Func}(hfn:P.funcs[f]?=some fn){args:List AV}{v:AV}{hp hp':Hp}(h:evFnZ P E call n fn k args hp=some (v,hp'))
  {I K:Nat→Prop} {m:Mp} {w:World} {us:List Value} (G:Gam I K m hp w) (ha:AllR (Rep k I m hp w) args us):Calls P f ⟨us⟩ w (fun e w'=> ∃u,e= .returned u∧ ∃I' m',Sim I' K m' hp' w' v k I m hp w u):=by
 unfold evFnZ at h
 split at h
 case h_2=>cases h
 rename_i c hb
 split at h
 case isFalse=>cases h
 rename_i hc
 simp only[Bool.and_eq_true,beq_iff_eq] at hc
 obtain⟨hbo,hlen⟩:=hc
 unfold bodyOk at hbo
 rw[hb] at hbo
 simp only[Bool.and_eq_true,decide_eq_true_eq] at hbo
 obtain⟨⟨hs1,hs2⟩,hs3⟩:=hbo
 have hus:us.length=fn.params.size+fn.nfree:=by rw[←ha.1];exact hlen
 refine calls_of_wp hfn hb ?_
 have S0:StR (k+1) fn.ntmps K ⟨I,m,hp,w,[]⟩ ⟨frame0 args,hp⟩ {tmps:=(⟨us⟩:Array Value)++Array.replicate (fn.ntmps - (⟨us⟩:Array Value).size) undef,defers:=[]} w:=by
  refine⟨I,m,G,.refl _ _ _ _ _,fun t=>frame_ok (ha.imp fun a u h=>Rep.depth (Nat.le_succ k) a u h) t,?_,rfl⟩
  simp only[Array.size_append,List.size_toArray,Array.size_replicate]
  omega
 split at h
 ·cases h
 ·rename_i e st hne hev
  refine evC_ok hm hE hC n c hs1 S0 hev fun a' w' S=>?_
  obtain⟨I1,m1,G1,E1,hf1,_,hd1⟩:=S
  obtain⟨us',hrun,I2,m2,G2,E2,R2⟩:=frzRes_ok (k:=k) G1 hf1 h
  have hfin:a'.defers=[]∧ ∃v',(results fn a'.tmps).run P w'= .ok v' w'∧ ∃u,Ending.returned v'= .returned u∧ ∃I' m',Sim I' K m' hp' w' v k I m hp w u:=
   ⟨hd1,retV us',run_results fn _ us' hrun,retV us',rfl,I2,m2,G2,E1.trans E2,R2⟩
  cases e with
  |normal=>exact hfin
  |exit i=>exact(hne i rfl).elim
  |ret=>exact hfin
  |panic v=>exact(evC_np0 n _ _ hev v rfl).elim
 ·cases h
theorem evCall_ok (hm:P.follows .mixedOrders=true)(hE:ELaw P E){X:Orc}(hX:OrcOk P X): ∀n,OrcOk P (evCall P E X n)
 |0=>hX
 |n+1=>by
  refine⟨fun f args rs h hok I w us hI hgl ha=>?_,fun k d f args hp v hp' h hok I K m w us G ha=>?_⟩
  ·simp only[evCall] at h
   split at h
   ·rename_i rs' hx
    cases h
    exact hX.1 f args rs hx hok I w us hI hgl ha
   ·split at h
    ·rename_i fn hfn
     exact evFn_ok hm hE (evCall_ok hm hE hX n) hfn h hI hgl ha
    ·cases h
  ·simp only[evCall] at h
   split at h
   ·rename_i r hx
    cases h
    exact hX.2 k d f args hp v hp' hx hok I K m w us G ha
   ·split at h
    ·rename_i fn hfn
     split at h
     ·exact evFnI_ok hm hE (evCall_ok hm hE hX n) hfn h G ha
     ·split at h
      ·exact evFnZ_ok hm hE (evCall_ok hm hE hX n) hfn h G ha
      ·exact evFnH_ok hm hE (evCall_ok hm hE hX n) hfn h G ha
    ·cases h
end
end
section
open Go
structure Orc.le (c c':Orc):Prop where
 dat: ∀f a r,c.dat f a=some r→c'.dat f a=some r
 hpc: ∀k d f a hp r,c.hpc k d f a hp=some r→c'.hpc k d f a hp=some r
theorem Orc.le.refl (c:Orc):c.le c:=⟨fun _ _ _ h=>h,fun _ _ _ _ _ _ h=>h⟩
theorem Orc.le.trans {a b c:Orc}(h:a.le b)(h':b.le c):a.le c:=⟨fun _ _ _ x=>h'.dat _ _ _ (h.dat _ _ _ x),fun _ _ _ _ _ _ x=>h'.hpc _ _ _ _ _ _ (h.hpc _ _ _ _ _ _ x)⟩
theorem runF_bind {α β:Type}(p:Prog α)(f:α→Prog β): ∀(hp:Hp) (R W:List Facet),(p.bind f).runF hp R W=match p.runF hp R W with|some (a,hp',R',W')=>(f a).runF hp' R' W'|none=>none:=by
 induction p with
 |ret a=>intro hp R W;rfl
 |get x k ih=>intro hp R W;exact ih _ hp _ _
 |put x o k ih=>intro hp R W;exact ih _ _ _
 |hdr x k ih=>intro hp R W;exact ih _ hp _ _
 |getC x off k ih=>
  intro hp R W
  simp only[Prog.bind,Prog.runF]
  cases cellOf (hp x) off with
  |none=>rfl
  |some v=>exact ih v hp _ _
 |putC x off v k ih=>
  intro hp R W
  simp only[Prog.bind,Prog.runF]
  cases setCellOf (hp x) off v with
  |none=>rfl
  |some o=>exact ih _ _ _
 |ext g k ih=>
  intro hp R W
  simp only[Prog.bind,Prog.runF]
  cases g hp with
  |none=>rfl
  |some q=>exact ih _ _ _ _
 |fail=>intro hp R W;rfl
section
variable {P:Program}{E:Cfg}{k:Nat}{call call':Orc}{all:Array Oper}
theorem callP_mono (hle:call.le call'){d f:Nat}{args:List AV}{hp:Hp}:(∀r,(callP P E k d call f args).run hp=some r→(callP P E k d call' f args).run hp=some r)∧
  (∀R W r,(callP P E k d call f args).runF hp R W=some r→(callP P E k d call' f args).runF hp R W=some r):=by
 unfold callP
 by_cases h1:okFn P f=true
 ·rw[if_pos h1,if_pos h1]
  by_cases h2:E.hp f=true
  ·rw[if_pos h2,if_pos h2]
   constructor
   ·intro r h
    simp only[Prog.run] at h⊢
    cases hg:call.hpc k d f args hp with
    |none=>rw[hg] at h;cases h
    |some q=>rw[hg] at h;rw[hle.hpc _ _ _ _ _ _ hg];exact h
   ·intro R W r h
    simp only[Prog.runF] at h⊢
    cases hg:call.hpc k d f args hp with
    |none=>rw[hg] at h;cases h
    |some q=>rw[hg] at h;rw[hle.hpc _ _ _ _ _ _ hg];exact h
  ·rw[if_neg h2,if_neg h2]
   constructor
   ·intro r h
    rw[run_bind] at h⊢
    cases ha:(argsP P (!flatF P f) (ptys P f) args).run hp with
    |none=>rw[ha] at h;cases h
    |some q=>
     rw[ha] at h
     simp only at h⊢
     cases hd:call.dat f q.1 with
     |none=>rw[hd] at h;simp[Prog.run] at h
     |some rs=>rw[hd] at h;rw[hle.dat _ _ _ hd];exact h
   ·intro R W r h
    rw[runF_bind] at h⊢
    cases ha:(argsP P (!flatF P f) (ptys P f) args).runF hp R W with
    |none=>rw[ha] at h;cases h
    |some q=>
     rw[ha] at h
     simp only at h⊢
     cases hd:call.dat f q.1 with
     |none=>rw[hd] at h;simp[Prog.runF] at h
     |some rs=>rw[hd] at h;rw[hle.dat _ _ _ hd];exact h
 ·rw[if_neg h1,if_neg h1]
  exact⟨fun _ h=>h,fun _ _ _ h=>h⟩
theorem evOp_mono (hle:call.le call'){fr:Nat→AV}{o:Oper}{hp:Hp}:(∀r,(evOp P E k call fr o).run hp=some r→(evOp P E k call' fr o).run hp=some r)∧
  (∀R W r,(evOp P E k call fr o).runF hp R W=some r→(evOp P E k call' fr o).runF hp R W=some r):=by
 obtain⟨dst,op,type,pos,after,guard⟩:=o
 cases op
 case call c=>
  obtain⟨callee,args,argTypes⟩:=c
  simp only[evOp]
  split
  ·exact⟨fun _ h=>h,fun _ _ _ h=>h⟩
  ·exact⟨fun _ h=>h,fun _ _ _ h=>h⟩
  ·exact⟨fun _ h=>h,fun _ _ _ h=>h⟩
  ·exact⟨fun _ h=>h,fun _ _ _ h=>h⟩
  ·exact⟨fun _ h=>h,fun _ _ _ h=>h⟩
  ·split
   ·exact callP_mono hle
   ·exact⟨fun _ h=>h,fun _ _ _ h=>h⟩
   ·exact⟨fun _ h=>h,fun _ _ _ h=>h⟩
  ·exact⟨fun _ h=>h,fun _ _ _ h=>h⟩
 case makeFunc fn first caps=>cases fn<;>exact⟨fun _ h=>h,fun _ _ _ h=>h⟩
 case makeMap t r=>cases r<;>exact⟨fun _ h=>h,fun _ _ _ h=>h⟩
 all_goals exact⟨fun _ h=>h,fun _ _ _ h=>h⟩
theorem evOps_mono (hle:call.le call'): ∀(os:List Oper) (st:AS) (r:AS),evOps P E k call all os st=some r→evOps P E k call' all os st=some r
 |[],_,_,h=>h
 |o::os,st,r,h=>by
  simp only[evOps] at h⊢
  split at h
  ·split at h
   ·rename_i v hp hr
    rw[(evOp_mono hle).1 _ hr]
    exact evOps_mono hle os _ r h
   ·cases h
  ·exact evOps_mono hle os _ r h
  ·cases h
theorem stepF_mono (hle:call.le call'){o:Oper}{st:AS}{r:AS×Foot}(h:stepF P E k call all o st=some r):stepF P E k call' all o st=some r:=by
 unfold stepF at h⊢
 split at h
 ·split at h
  ·rename_i v hp R W hr
   rw[(evOp_mono hle).2 _ _ _ hr]
   exact h
  ·cases h
 ·exact h
 ·cases h
theorem runDraw_mono (hle:call.le call'): ∀(os:List Oper) (st:AS) (acc:List Foot) (r:AS×List Foot),runDraw P E k call all os st acc=some r→runDraw P E k call' all os st acc=some r
 |[],_,_,_,h=>h
 |o::os,st,acc,r,h=>by
  simp only[runDraw] at h⊢
  split at h
  ·rename_i st' f hs
   rw[stepF_mono hle hs]
   exact runDraw_mono hle os _ _ r h
  ·cases h
theorem evRegion_mono (hle:call.le call'){draw:Bool}{st r:AS}(h:evRegion P E k call all draw st=some r):evRegion P E k call' all draw st=some r:=by
 unfold evRegion at h⊢
 cases draw with
 |true=>
  simp only[if_true] at h⊢
  split at h
  ·rename_i st' fs hr
   rw[runDraw_mono hle _ _ _ _ hr]
   simp only
   split at h
   ·rename_i hc;rw[if_pos hc];exact h
   ·rename_i hc
    rw[if_neg hc]
    split at h
    ·rename_i st2 fs2 hr2
     rw[runDraw_mono hle _ _ _ _ hr2]
     exact h
    ·cases h
  ·cases h
 |false=>
  simp only[Bool.false_eq_true,if_false] at h⊢
  exact evOps_mono hle _ _ _ h
theorem evC_mono (hle:call.le call'): ∀(n m:Nat),n≤m→ ∀(c:Code) (st:AS) (r:Ex×AS),evC P E k call n c st=some r→evC P E k call' m c st=some r
 |0,_,_,c,st,r,h=>by simp[evC] at h
 |n+1,0,hnm,_,_,_,_=>by omega
 |n+1,m+1,hnm,c,st,r,h=>by
  have ih:=evC_mono hle n m (by omega)
  cases c with
  |skip=>exact h
  |label l=>exact h
  |region id ops d=>
   simp only[evC] at h⊢
   cases hr:evRegion P E k call ops d st with
   |none=>rw[hr] at h;cases h
   |some s=>rw[hr] at h;rw[evRegion_mono hle hr];exact h
  |seq x y=>
   simp only[evC] at h⊢
   split at h
   ·rename_i s h1
    rw[ih x st _ h1]
    exact ih y s r h
   ·rename_i hne
    rw[ih x st _ h]
    split
    ·rename_i s hs
     simp only[Option.some.injEq] at hs
     subst hs
     exact(hne s h).elim
    ·rfl
  |cond c x y=>
   simp only[evC] at h⊢
   split at h
   ·split at h
    ·rename_i ht;rw[if_pos ht];exact ih x st r h
    ·rename_i ht;rw[if_neg ht];exact ih y st r h
   ·cases h
  |block id x=>
   simp only[evC] at h⊢
   split at h
   ·rename_i i s h1
    rw[ih x st _ h1]
    exact h
   ·rename_i hne
    rw[ih x st _ h]
    split
    ·rename_i i s hs
     simp only[Option.some.injEq] at hs
     subst hs
     exact(hne i s h).elim
    ·rfl
  |scope x=>
   simp only[evC] at h⊢
   exact ih x st _ h
  |loop x=>
   simp only[evC] at h⊢
   split at h
   ·rename_i s h1
    rw[ih x st _ h1]
    exact ih (.loop x) s r h
   ·rename_i hne
    rw[ih x st _ h]
    split
    ·rename_i s hs
     simp only[Option.some.injEq] at hs
     subst hs
     exact(hne s h).elim
    ·rfl
  |exit id=>exact h
  |ret=>exact h
  |_=>simp[evC] at h
theorem evFn_mono (hle:call.le call'){n m:Nat}(hnm:n≤m){fn:Func}{args rs:List AV}(h:evFn P E call n fn args=some rs):evFn P E call' m fn args=some rs:=by
 unfold evFn at h⊢
 split at h
 ·split at h
  ·rename_i hc
   rw[if_pos hc]
   split at h
   ·cases h
   ·rename_i e st hne hev
    rw[evC_mono hle n m hnm _ _ _ hev]
    cases e with
    |exit i=>exact(hne i rfl).elim
    |normal=>exact h
    |ret=>exact h
    |panic v=>exact h
   ·cases h
  ·cases h
 ·cases h
theorem evFnH_mono (hle:call.le call'){n m:Nat}(hnm:n≤m){fn:Func}{d:Nat}{args:List AV}{hp:Hp}{r:AV×Hp}(h:evFnH P E call n fn k d args hp=some r):evFnH P E call' m fn k d args hp=some r:=by
 unfold evFnH at h⊢
 split at h
 ·split at h
  ·rename_i hc
   rw[if_pos hc]
   split at h
   ·cases h
   ·rename_i e st hne hev
    rw[evC_mono hle n m hnm _ _ _ hev]
    cases e with
    |exit i=>exact(hne i rfl).elim
    |normal=>exact h
    |ret=>exact h
    |panic v=>exact h
   ·cases h
  ·cases h
 ·cases h
theorem evFnZ_mono (hle:call.le call'){n m:Nat}(hnm:n≤m){fn:Func}{args:List AV}{hp:Hp}{r:AV×Hp}(h:evFnZ P E call n fn k args hp=some r):evFnZ P E call' m fn k args hp=some r:=by
 unfold evFnZ at h⊢
 split at h
 ·split at h
  ·rename_i hc
   rw[if_pos hc]
   split at h
   ·cases h
   ·rename_i e st hne hev
    rw[evC_mono hle n m hnm _ _ _ hev]
    cases e with
    |exit i=>exact(hne i rfl).elim
    |normal=>exact h
    |ret=>exact h
    |panic v=>exact h
   ·cases h
  ·cases h
 ·cases h
theorem evFnI_mono (hle:call.le call'){n m:Nat}(hnm:n≤m){fn:Func}{d:Nat}{args:List AV}{hp:Hp}{r:AV×Hp}(h:evFnI P E call n fn k d args hp=some r):evFnI P E call' m fn k d args hp=some r:=by
 unfold evFnI at h⊢
 split at h
 ·split at h
  ·rename_i hc
   rw[if_pos hc]
   split at h
   ·cases h
   ·rename_i e st hne hev
    rw[evC_mono hle n m hnm _ _ _ hev]
    cases e with
    |exit i=>exact(hne i rfl).elim
    |normal=>exact h
    |ret=>exact h
    |panic v=>exact h
   ·cases h
  ·cases h
 ·cases h
theorem evCall_succ (X:Orc): ∀n,(evCall P E X n).le (evCall P E X (n+1))
 |0=>⟨fun f a r h=>by simp only[evCall] at h⊢;rw[h],fun k d f a hp r h=>by simp only[evCall] at h⊢;rw[h]⟩
 |n+1=>by
  have ih:=evCall_succ X n
  constructor
  ·intro f a r h
   rw[evCall] at h⊢
   simp only at h⊢
   split at h
   ·rename_i rs hx;exact h
   ·rename_i hx
    split at h
    ·exact evFn_mono ih (Nat.le_succ n) h
    ·cases h
  ·intro k d f a hp r h
   rw[evCall] at h⊢
   simp only at h⊢
   split at h
   ·rename_i rs hx;exact h
   ·rename_i hx
    split at h
    ·split at h
     ·rename_i hi;rw[if_pos hi];exact evFnI_mono ih (Nat.le_succ n) h
     ·rename_i hi;rw[if_neg hi]
      split at h
      ·rename_i hz;rw[if_pos hz];exact evFnZ_mono ih (Nat.le_succ n) h
      ·rename_i hz;rw[if_neg hz];exact evFnH_mono ih (Nat.le_succ n) h
    ·cases h
theorem evCall_le (X:Orc){n m:Nat}(h:n≤m):(evCall P E X n).le (evCall P E X m):=by
 induction m with
 |zero=>
      have:n=0:=by omega
      subst this;exact .refl _
 |succ m ih=>
  by_cases e:n=m+1
  ·subst e;exact .refl _
  ·exact(ih (by omega)).trans (evCall_succ X m)
end
end
section
open Go
open Classical in
noncomputable def lim (P:Program) (E:Cfg) (X:Orc):Orc where
 dat:=fun f a=>if h: ∃r n,(evCall P E X n).dat f a=some r then some (Classical.choose h) else none
 hpc:=fun k d f a hp=>if h: ∃r n,(evCall P E X n).hpc k d f a hp=some r then some (Classical.choose h) else none
section
variable {P:Program}{E:Cfg}{X:Orc}{k:Nat}{all:Array Oper}
theorem lim_dat {f:Nat}{a:List AV}{r:List AV}:(lim P E X).dat f a=some r↔ ∃n,(evCall P E X n).dat f a=some r:=by
 simp only[lim]
 constructor
 ·intro h
  split at h
  ·rename_i hex
   have:=Classical.choose_spec hex
   simp only[Option.some.injEq] at h
   rw[h] at this
   exact this
  ·cases h
 ·rintro⟨n,h⟩
  have hex: ∃r n,(evCall P E X n).dat f a=some r:=⟨r,n,h⟩
  rw[dif_pos hex]
  obtain⟨m,hm⟩:=Classical.choose_spec hex
  have h1:=(evCall_le X (Nat.le_max_left n m)).dat _ _ _ h
  have h2:=(evCall_le X (Nat.le_max_right n m)).dat _ _ _ hm
  rw[h1] at h2
  exact h2.symm
theorem lim_hpc {d f:Nat}{a:List AV}{hp:Hp}{r:AV×Hp}:(lim P E X).hpc k d f a hp=some r↔ ∃n,(evCall P E X n).hpc k d f a hp=some r:=by
 simp only[lim]
 constructor
 ·intro h
  split at h
  ·rename_i hex
   have:=Classical.choose_spec hex
   simp only[Option.some.injEq] at h
   rw[h] at this
   exact this
  ·cases h
 ·rintro⟨n,h⟩
  have hex: ∃r n,(evCall P E X n).hpc k d f a hp=some r:=⟨r,n,h⟩
  rw[dif_pos hex]
  obtain⟨m,hm⟩:=Classical.choose_spec hex
  have h1:=(evCall_le X (Nat.le_max_left n m)).hpc _ _ _ _ _ _ h
  have h2:=(evCall_le X (Nat.le_max_right n m)).hpc _ _ _ _ _ _ hm
  rw[h1] at h2
  exact h2.symm
theorem lim_ok (hm:P.follows .mixedOrders=true)(hE:ELaw P E)(hX:OrcOk P X):OrcOk P (lim P E X):=by
 refine⟨fun f args rs h=>?_,fun k d f args hp v hp' h=>?_⟩
 ·obtain⟨n,h⟩:=lim_dat.1 h
  exact(evCall_ok hm hE hX n).1 f args rs h
 ·obtain⟨n,h⟩:=lim_hpc.1 h
  exact(evCall_ok hm hE hX n).2 k d f args hp v hp' h
variable {E':Cfg}
theorem callP_lim {d f:Nat}{args:List AV}{hp:Hp}:(∀r,(callP P E' k d (lim P E X) f args).run hp=some r→ ∃n,(callP P E' k d (evCall P E X n) f args).run hp=some r)∧
  (∀R W r,(callP P E' k d (lim P E X) f args).runF hp R W=some r→ ∃n,(callP P E' k d (evCall P E X n) f args).runF hp R W=some r):=by
 unfold callP
 by_cases h1:okFn P f=true
 ·simp only[if_pos h1]
  by_cases h2:E'.hp f=true
  ·simp only[if_pos h2]
   constructor
   ·intro r h
    simp only[Prog.run] at h⊢
    cases hg:(lim P E X).hpc k d f args hp with
    |none=>rw[hg] at h;cases h
    |some q=>
     obtain⟨n,hn⟩:=lim_hpc.1 hg
     rw[hg] at h
     exact⟨n,by rw[hn];exact h⟩
   ·intro R W r h
    simp only[Prog.runF] at h⊢
    cases hg:(lim P E X).hpc k d f args hp with
    |none=>rw[hg] at h;cases h
    |some q=>
     obtain⟨n,hn⟩:=lim_hpc.1 hg
     rw[hg] at h
     exact⟨n,by rw[hn];exact h⟩
  ·simp only[if_neg h2]
   constructor
   ·intro r h
    simp only[run_bind] at h⊢
    cases ha:(argsP P (!flatF P f) (ptys P f) args).run hp with
    |none=>rw[ha] at h;cases h
    |some q=>
     rw[ha] at h
     simp only at h⊢
     cases hd:(lim P E X).dat f q.1 with
     |none=>rw[hd] at h;simp[Prog.run] at h
     |some rs=>
      obtain⟨n,hn⟩:=lim_dat.1 hd
      rw[hd] at h
      exact⟨n,by rw[hn];exact h⟩
   ·intro R W r h
    simp only[runF_bind] at h⊢
    cases ha:(argsP P (!flatF P f) (ptys P f) args).runF hp R W with
    |none=>rw[ha] at h;cases h
    |some q=>
     rw[ha] at h
     simp only at h⊢
     cases hd:(lim P E X).dat f q.1 with
     |none=>rw[hd] at h;simp[Prog.runF] at h
     |some rs=>
      obtain⟨n,hn⟩:=lim_dat.1 hd
      rw[hd] at h
      exact⟨n,by rw[hn];exact h⟩
 ·simp only[if_neg h1]
  exact⟨fun _ h=>⟨0,h⟩,fun _ _ _ h=>⟨0,h⟩⟩
theorem evOp_lim {fr:Nat→AV}{o:Oper}{hp:Hp}:(∀r,(evOp P E' k (lim P E X) fr o).run hp=some r→ ∃n,(evOp P E' k (evCall P E X n) fr o).run hp=some r)∧
  (∀R W r,(evOp P E' k (lim P E X) fr o).runF hp R W=some r→ ∃n,(evOp P E' k (evCall P E X n) fr o).runF hp R W=some r):=by
 obtain⟨dst,op,type,pos,after,guard⟩:=o
 cases op
 case call c=>
  obtain⟨callee,args,argTypes⟩:=c
  simp only[evOp]
  split
  ·exact⟨fun _ h=>⟨0,h⟩,fun _ _ _ h=>⟨0,h⟩⟩
  ·exact⟨fun _ h=>⟨0,h⟩,fun _ _ _ h=>⟨0,h⟩⟩
  ·exact⟨fun _ h=>⟨0,h⟩,fun _ _ _ h=>⟨0,h⟩⟩
  ·exact⟨fun _ h=>⟨0,h⟩,fun _ _ _ h=>⟨0,h⟩⟩
  ·exact⟨fun _ h=>⟨0,h⟩,fun _ _ _ h=>⟨0,h⟩⟩
  ·split
   ·exact callP_lim
   ·exact⟨fun _ h=>⟨0,h⟩,fun _ _ _ h=>⟨0,h⟩⟩
   ·exact⟨fun _ h=>⟨0,h⟩,fun _ _ _ h=>⟨0,h⟩⟩
  ·exact⟨fun _ h=>⟨0,h⟩,fun _ _ _ h=>⟨0,h⟩⟩
 case makeFunc fn first caps=>cases fn<;>exact⟨fun _ h=>⟨0,h⟩,fun _ _ _ h=>⟨0,h⟩⟩
 case makeMap t r=>cases r<;>exact⟨fun _ h=>⟨0,h⟩,fun _ _ _ h=>⟨0,h⟩⟩
 all_goals exact⟨fun _ h=>⟨0,h⟩,fun _ _ _ h=>⟨0,h⟩⟩
theorem evOps_lim : ∀(os:List Oper) (st:AS) (r:AS),evOps P E' k (lim P E X) all os st=some r→ ∃n,evOps P E' k (evCall P E X n) all os st=some r
 |[],_,_,h=>⟨0,h⟩
 |o::os,st,r,h=>by
  simp only[evOps] at h⊢
  split at h
  ·split at h
   ·rename_i v hp hr
    obtain⟨n,hn⟩:=evOp_lim.1 _ hr
    obtain⟨m,hm⟩:=evOps_lim os _ r h
    refine⟨max n m,?_⟩
    rw[(evOp_mono (evCall_le X (Nat.le_max_left n m))).1 _ hn]
    exact evOps_mono (evCall_le X (Nat.le_max_right n m)) _ _ _ hm
   ·cases h
  ·exact evOps_lim os _ r h
  ·cases h
theorem stepF_lim {o:Oper}{st:AS}{r:AS×Foot}(h:stepF P E' k (lim P E X) all o st=some r): ∃n,stepF P E' k (evCall P E X n) all o st=some r:=by
 unfold stepF at h⊢
 split at h
 ·split at h
  ·rename_i v hp R W hr
   obtain⟨n,hn⟩:=evOp_lim.2 _ _ _ hr
   exact⟨n,by rw[hn];exact h⟩
  ·cases h
 ·exact⟨0,h⟩
 ·cases h
theorem runDraw_lim : ∀(os:List Oper) (st:AS) (acc:List Foot) (r:AS×List Foot),runDraw P E' k (lim P E X) all os st acc=some r→ ∃n,runDraw P E' k (evCall P E X n) all os st acc=some r
 |[],_,_,_,h=>⟨0,h⟩
 |o::os,st,acc,r,h=>by
  simp only[runDraw] at h⊢
  split at h
  ·rename_i st' f hs
   obtain⟨n,hn⟩:=stepF_lim hs
   obtain⟨m,hm⟩:=runDraw_lim os _ _ r h
   refine⟨max n m,?_⟩
   rw[stepF_mono (evCall_le X (Nat.le_max_left n m)) hn]
   exact runDraw_mono (evCall_le X (Nat.le_max_right n m)) _ _ _ _ hm
  ·cases h
theorem evRegion_lim {draw:Bool}{st r:AS}(h:evRegion P E' k (lim P E X) all draw st=some r): ∃n,evRegion P E' k (evCall P E X n) all draw st=some r:=by
 unfold evRegion at h⊢
 cases draw with
 |true=>
  simp only[if_true] at h⊢
  split at h
  ·rename_i st' fs hr
   obtain⟨n,hn⟩:=runDraw_lim _ _ _ _ hr
   split at h
   ·rename_i hc;exact⟨n,by rw[hn];simp only;rw[if_pos hc];exact h⟩
   ·rename_i hc
    split at h
    ·rename_i st2 fs2 hr2
     obtain⟨n2,hn2⟩:=runDraw_lim _ _ _ _ hr2
     refine⟨max n n2,?_⟩
     rw[runDraw_mono (evCall_le X (Nat.le_max_left n n2)) _ _ _ _ hn]
     simp only
     rw[if_neg hc,runDraw_mono (evCall_le X (Nat.le_max_right n n2)) _ _ _ _ hn2]
     exact h
    ·cases h
  ·cases h
 |false=>
  simp only[Bool.false_eq_true,if_false] at h⊢
  exact evOps_lim _ _ _ h
theorem evC_lim : ∀(g:Nat) (c:Code) (st:AS) (r:Ex×AS),evC P E' k (lim P E X) g c st=some r→ ∃n,evC P E' k (evCall P E X n) g c st=some r
 |0,c,st,r,h=>by simp[evC] at h
 |g+1,c,st,r,h=>by
  have ih:=evC_lim g
  have up: ∀{n m:Nat} {c:Code} {st:AS} {r:Ex×AS},n≤m→evC P E' k (evCall P E X n) g c st=some r→evC P E' k (evCall P E X m) g c st=some r:=fun hnm h=>evC_mono (evCall_le X hnm) g g (Nat.le_refl _) _ _ _ h
  cases c with
  |skip=>exact⟨0,h⟩
  |label l=>exact⟨0,h⟩
  |region id ops d=>
   simp only[evC] at h⊢
   cases hr:evRegion P E' k (lim P E X) ops d st with
   |none=>rw[hr] at h;cases h
   |some s=>
    obtain⟨n,hn⟩:=evRegion_lim hr
    rw[hr] at h
    exact⟨n,by rw[hn];exact h⟩
  |seq x y=>
   simp only[evC] at h⊢
   split at h
   ·rename_i s h1
    obtain⟨n,hn⟩:=ih x st _ h1
    obtain⟨m,hm⟩:=ih y s r h
    exact⟨max n m,by rw[up (Nat.le_max_left n m) hn];exact up (Nat.le_max_right n m) hm⟩
   ·rename_i hne
    obtain⟨n,hn⟩:=ih x st _ h
    refine⟨n,?_⟩
    rw[hn]
    split
    ·rename_i s hs
     simp only[Option.some.injEq] at hs
     subst hs
     exact(hne s h).elim
    ·rfl
  |cond c x y=>
   simp only[evC] at h⊢
   split at h
   ·rename_i t hc
    cases t with
    |true=>simp only[if_true] at h⊢;exact ih x st r h
    |false=>simp only[Bool.false_eq_true,if_false] at h⊢;exact ih y st r h
   ·cases h
  |block id x=>
   simp only[evC] at h⊢
   split at h
   ·rename_i i s h1
    obtain⟨n,hn⟩:=ih x st _ h1
    exact⟨n,by rw[hn];exact h⟩
   ·rename_i hne
    obtain⟨n,hn⟩:=ih x st _ h
    refine⟨n,?_⟩
    rw[hn]
    split
    ·rename_i i s hs
     simp only[Option.some.injEq] at hs
     subst hs
     exact(hne i s h).elim
    ·rfl
  |scope x=>
   simp only[evC] at h⊢
   exact ih x st _ h
  |loop x=>
   simp only[evC] at h⊢
   split at h
   ·rename_i s h1
    obtain⟨n,hn⟩:=ih x st _ h1
    obtain⟨m,hm⟩:=ih (.loop x) s r h
    exact⟨max n m,by rw[up (Nat.le_max_left n m) hn];exact up (Nat.le_max_right n m) hm⟩
   ·rename_i hne
    obtain⟨n,hn⟩:=ih x st _ h
    refine⟨n,?_⟩
    rw[hn]
    split
    ·rename_i s hs
     simp only[Option.some.injEq] at hs
     subst hs
     exact(hne s h).elim
    ·rfl
  |exit id=>exact⟨0,h⟩
  |ret=>exact⟨0,h⟩
  |_=>simp[evC] at h
theorem lim_fn {f n:Nat}{fn:Func}{args rs:List AV}(hf:P.funcs[f]?=some fn)(hx:X.dat f args=none)(h:evFn P E (lim P E X) n fn args=some rs):(lim P E X).dat f args=some rs:=by
 have h0: ∃m,evFn P E (evCall P E X m) n fn args=some rs:=by
  unfold evFn at h⊢
  cases hb:fn.body with
  |none=>rw[hb] at h;cases h
  |some c=>
   rw[hb] at h
   simp only at h⊢
   split at h
   ·rename_i hc
    simp only[hc,if_true]
    split at h
    ·cases h
    ·rename_i e st hne hev
     obtain⟨m,hm⟩:=evC_lim _ _ _ _ hev
     refine⟨m,?_⟩
     rw[hm]
     cases e with
     |exit i=>exact(hne i rfl).elim
     |normal=>exact h
     |ret=>exact h
     |panic v=>exact h
    ·cases h
   ·cases h
 obtain⟨m,hm⟩:=h0
 refine lim_dat.2 ⟨max n m+1,?_⟩
 rw[evCall]
 simp only
 rw[hx,hf]
 exact evFn_mono (evCall_le X (Nat.le_max_right n m)) (Nat.le_max_left n m) hm
theorem lim_fnH {f n d:Nat}{fn:Func}{args:List AV}{hp:Hp}{r:AV×Hp}(hf:P.funcs[f]?=some fn)(hx:X.hpc k d f args hp=none)(h:evFnH P E (lim P E X) n fn k d args hp=some r)(hi:E.inl f=false)(hz:E.frz f=false):(lim P E X).hpc k d f args hp=some r:=by
 have h0: ∃m,evFnH P E (evCall P E X m) n fn k d args hp=some r:=by
  unfold evFnH at h⊢
  cases hb:fn.body with
  |none=>rw[hb] at h;cases h
  |some c=>
   rw[hb] at h
   simp only at h⊢
   split at h
   ·rename_i hc
    simp only[hc,if_true]
    split at h
    ·cases h
    ·rename_i e st hne hev
     obtain⟨m,hm⟩:=evC_lim _ _ _ _ hev
     refine⟨m,?_⟩
     rw[hm]
     cases e with
     |exit i=>exact(hne i rfl).elim
     |normal=>exact h
     |ret=>exact h
     |panic v=>exact h
    ·cases h
   ·cases h
 obtain⟨m,hm⟩:=h0
 refine lim_hpc.2 ⟨max n m+1,?_⟩
 rw[evCall]
 simp only
 rw[hx,hf]
 simp only
 rw[hi,hz,if_neg (by simp),if_neg (by simp)]
 exact evFnH_mono (evCall_le X (Nat.le_max_right n m)) (Nat.le_max_left n m) hm
theorem lim_fnZ {f n d:Nat}{fn:Func}{args:List AV}{hp:Hp}{r:AV×Hp}(hf:P.funcs[f]?=some fn)(hx:X.hpc k d f args hp=none)(h:evFnZ P E (lim P E X) n fn k args hp=some r)(hi:E.inl f=false)(hz:E.frz f=true):(lim P E X).hpc k d f args hp=some r:=by
 have h0: ∃m,evFnZ P E (evCall P E X m) n fn k args hp=some r:=by
  unfold evFnZ at h⊢
  cases hb:fn.body with
  |none=>rw[hb] at h;cases h
  |some c=>
   rw[hb] at h
   simp only at h⊢
   split at h
   ·rename_i hc
    simp only[hc,if_true]
    split at h
    ·cases h
    ·rename_i e st hne hev
     obtain⟨m,hm⟩:=evC_lim _ _ _ _ hev
     refine⟨m,?_⟩
     rw[hm]
     cases e with
     |exit i=>exact(hne i rfl).elim
     |normal=>exact h
     |ret=>exact h
     |panic v=>exact h
    ·cases h
   ·cases h
 obtain⟨m,hm⟩:=h0
 refine lim_hpc.2 ⟨max n m+1,?_⟩
 rw[evCall]
 simp only
 rw[hx,hf]
 simp only
 rw[hi,hz,if_neg (by simp),if_pos rfl]
 exact evFnZ_mono (evCall_le X (Nat.le_max_right n m)) (Nat.le_max_left n m) hm
end
end
section
open Go
inductive PTask where
 |fn (k f:Nat) (args:List AV) (hp:Hp)
 |ops (k:Nat) (all:Array Oper) (os:List Oper) (st:AS)
 |code (k:Nat) (c:Code) (st:AS)
def freeB (all:Array Oper)(c j:Nat):Bool:= !(j==c)&& !((waits all.toList []).getD j 0).testBit c
def pickC (all:Array Oper)(c:Nat):Bool:=
 ((List.range all.size).all fun j=>(all.getD j default).after.toList.all fun e=> !(Region.binds .any e)||decide (e.on<j))&&
 ((List.range all.size).all fun j=>(List.range j).all fun i=>(all.getD i default).dst.isNone||(all.getD i default).dst !=(all.getD j default).dst)&&
 ((List.range all.size).all fun j=> !(j==c||freeB all c j)||(List.range all.size).all fun i=>match (all.getD i default).dst with
  |some d=> !(slotsOf all (all.getD j default)).contains d||(all.getD j default).after.toList.any fun e=>e.on==i&&Region.binds .any e
  |none=>true)
inductive Free (P:Program)(E:Cfg)(k:Nat)(call:Orc)(hp:Hp):List Oper→(Nat→AV)→(Nat→AV)→Prop where
 |nil {fr:Nat→AV}:Free P E k call hp [] fr fr
 |cons {o:Oper} {os:List Oper} {fr fr':Nat→AV} {v:AV} (hg:o.guard=none) (h:(evOp P E k call fr o).run hp=some (v,hp)) (r:Free P E k call hp os (setd fr o.dst v) fr'):Free P E k call hp (o::os) fr fr'
def frees (all:Array Oper)(c:Nat):List Oper:=((List.range all.size).filter fun j=>freeB all c j).map fun j=>all.getD j default
inductive Pan (P:Program)(E:Cfg)(call:Orc):PTask→Nat→Value→Hp→Prop where
 |fn {k f:Nat} {fn:Func} {c:Code} {n:Nat} {args:List AV} {hp:Hp} {v:Value} {hp':Hp} (hf:P.funcs[f]?=some fn) (hb:fn.body=some c) (hok:bodyOk fn=true) (hl:args.length=fn.params.size+fn.nfree)
   (h:Pan P E call (.code (k+1) c ⟨frame0 args,hp⟩) n v hp'):Pan P E call (.fn k f args hp) (n+1) v hp'
 |skip {k:Nat} {all:Array Oper} {o:Oper} {os:List Oper} {st:AS} {n:Nat} {v:Value} {hp':Hp} (hg:guardA all st.fr o=some false)
   (h:Pan P E call (.ops k all os ⟨setd st.fr o.dst (.sc undef),st.hp⟩) n v hp'):Pan P E call (.ops k all (o::os) st) (n+1) v hp'
 |step {k:Nat} {all:Array Oper} {o:Oper} {os:List Oper} {st:AS} {n:Nat} {v:Value} {hp':Hp} {u:AV} {hp1:Hp} (hg:guardA all st.fr o=some true) (hr:(evOp P E k call st.fr o).run st.hp=some (u,hp1))
   (h:Pan P E call (.ops k all os ⟨setd st.fr o.dst u,hp1⟩) n v hp'):Pan P E call (.ops k all (o::os) st) (n+1) v hp'
 |call {k:Nat} {all:Array Oper} {o:Oper} {os:List Oper} {st:AS} {n:Nat} {v:Value} {hp':Hp} {x:Operand} {args:Array Operand} {ats:Array TypeId} {f:Nat} {cs:List AV} (hg:guardA all st.fr o=some true) (ho:o.op= .call ⟨.value x,args,ats⟩) (hx:opA st.fr x= .fn f cs) (hok:okFn P f=true)
   (hlt:f<1000000) (h:Pan P E call (.fn k f (args.toList.map (opA st.fr)++cs) st.hp) n v hp'):Pan P E call (.ops k all (o::os) st) (n+1) v hp'
 |panic {k:Nat} {all:Array Oper} {o:Oper} {os:List Oper} {st:AS} {n:Nat} {x:Operand} {t:TypeId} {u:Value} (hg:guardA all st.fr o=some true) (ho:o.op= .panic x) (hx:opA st.fr x= .sc (.iface t u)):
   Pan P E call (.ops k all (o::os) st) (n+1) (.iface t u) st.hp
 |region {k id:Nat} {ops:Array Oper} {st:AS} {n:Nat} {v:Value} {hp':Hp} (h:Pan P E call (.ops k ops ops.toList st) n v hp'):Pan P E call (.code k (.region id ops false) st) (n+1) v hp'
 |draw {k id c:Nat} {ops:Array Oper} {st:AS} {n:Nat} {v:Value} {hp':Hp} {o:Oper} {x:Operand} {args:Array Operand} {ats:Array TypeId} {f:Nat} {cs:List AV} {frF:Nat→AV} (hp:pickC ops c=true) (hf:Free P E k call st.hp (frees ops c) st.fr frF) (hc:ops[c]?=some o)
   (hg:o.guard=none) (ho:o.op= .call ⟨.value x,args,ats⟩) (hx:opA frF x= .fn f cs) (hok:okFn P f=true) (hlt:f<1000000) (h:Pan P E call (.fn k f (args.toList.map (opA frF)++cs) st.hp) n v hp'):Pan P E call (.code k (.region id ops true) st) (n+1) v hp'
 |drawP {k id c:Nat} {ops:Array Oper} {st:AS} {n:Nat} {o:Oper} {x:Operand} {t:TypeId} {u:Value} {frF:Nat→AV} (hp:pickC ops c=true) (hf:Free P E k call st.hp (frees ops c) st.fr frF) (hc:ops[c]?=some o)
   (hg:o.guard=none) (ho:o.op= .panic x) (hx:opA frF x= .sc (.iface t u)):Pan P E call (.code k (.region id ops true) st) (n+1) (.iface t u) st.hp
 |seqL {k:Nat} {a b:Code} {st:AS} {n:Nat} {v:Value} {hp':Hp} (h:Pan P E call (.code k a st) n v hp'):Pan P E call (.code k (.seq a b) st) (n+1) v hp'
 |seqR {k m:Nat} {a b:Code} {st s:AS} {n:Nat} {v:Value} {hp':Hp} (h1:evC P E k call m a st=some (.normal,s)) (h:Pan P E call (.code k b s) n v hp'):Pan P E call (.code k (.seq a b) st) (n+1) v hp'
 |cond {k:Nat} {c:Operand} {a b:Code} {st:AS} {t:Bool} {n:Nat} {v:Value} {hp':Hp} (hc:opA st.fr c= .sc (.bool t)) (h:Pan P E call (.code k (if t then a else b) st) n v hp'):Pan P E call (.code k (.cond c a b) st) (n+1) v hp'
 |block {k id:Nat} {c:Code} {st:AS} {n:Nat} {v:Value} {hp':Hp} (h:Pan P E call (.code k c st) n v hp'):Pan P E call (.code k (.block id c) st) (n+1) v hp'
 |scope {k:Nat} {c:Code} {st:AS} {n:Nat} {v:Value} {hp':Hp} (h:Pan P E call (.code k c st) n v hp'):Pan P E call (.code k (.scope c) st) (n+1) v hp'
 |loopN {k m:Nat} {c:Code} {st s:AS} {n:Nat} {v:Value} {hp':Hp} (h1:evC P E k call m c st=some (.normal,s)) (h:Pan P E call (.code k (.loop c) s) n v hp'):Pan P E call (.code k (.loop c) st) (n+1) v hp'
 |loopP {k:Nat} {c:Code} {st:AS} {n:Nat} {v:Value} {hp':Hp} (h:Pan P E call (.code k c st) n v hp'):Pan P E call (.code k (.loop c) st) (n+1) v hp'
def PanR (K:Nat→Prop)(B:Base)(hp':Hp)(a:Act)(w:World):Prop:= ∃I m,Gam I K m hp' w∧Ext B.I K B.m B.hp B.w I m hp' w∧a.defers=B.df
def panE (v:Value):List PanicEntry:=[{v:=v,recovered:=false}]
section
variable {P:Program}{E:Cfg}{call:Orc}{K:Nat→Prop}
def PanCalls (P:Program)(k f:Nat)(args:List AV)(hp:Hp)(v:Value)(hp':Hp):Prop:= ∀(I K:Nat→Prop) (m:Mp) (w:World) (us:List Value),okFn P f=true→Gam I K m hp w→AllR (Rep k I m hp w) args us→
 Calls P f ⟨us⟩ w fun e w'=>e= .panicked (panE v)∧ ∃I' m',Gam I' K m' hp' w'∧Ext I K m hp w I' m' hp' w'
def PanOps (P:Program)(k:Nat)(all:Array Oper)(os:List Oper)(st:AS)(v:Value)(hp':Hp):Prop:= ∀(N:Nat) (K:Nat→Prop) (B:Base) (n:Nat) (Q:Exit→Act→World→Prop) (a:Act) (w:World),(∀j,os[j]?=all[n+j]?)→(∀o∈os,∀x,o.dst=some x→x<N)→
 StR k N K B st a w→(∀a' w',PanR K B hp' a' w'→Q (.panic (panE v)) a' w')→wpOps P all Q (List.range' n os.length) a w
def PanCode (P:Program)(k:Nat)(c:Code)(st:AS)(v:Value)(hp':Hp):Prop:= ∀(N:Nat) (K:Nat→Prop) (B:Base) (Q:Exit→Act→World→Prop) (a:Act) (w:World),slotsIn N c=true→
 StR k N K B st a w→(∀a' w',PanR K B hp' a' w'→Q (.panic (panE v)) a' w')→c.wp P Q a w
def PanT (P:Program)(v:Value)(hp':Hp):PTask→Prop
 | .fn k f args hp=>PanCalls P k f args hp v hp'
 | .ops k all os st=>PanOps P k all os st v hp'
 | .code k c st=>PanCode P k c st v hp'
theorem StR.panR {k N:Nat}{K:Nat→Prop}{B:Base}{st:AS}{a:Act}{w:World}(S:StR k N K B st a w):PanR K B st.hp a w:=by
 obtain⟨I,m,G,E0,_,_,hd⟩:=S
 exact⟨I,m,G,E0,hd⟩
theorem pan_op {k N f:Nat}{B:Base}{st:AS}{a:Act}{w:World}{o:Oper}{x:Operand}{args:Array Operand}{ats:Array TypeId}{cs:List AV}{v:Value}{hp':Hp}{next:Act→World→Prop}{Q:Exit→Act→World→Prop}(hc:PanCalls P k f (args.toList.map (opA st.fr)++cs) st.hp v hp')
  (ho:o.op= .call ⟨.value x,args,ats⟩) (hx:opA st.fr x= .fn f cs) (hok:okFn P f=true) (hlt:f<1000000) (S:StR k N K B st a w) (hQ: ∀a' w',PanR K B hp' a' w'→Q (.panic (panE v)) a' w'):o.wp P a w next Q:=by
 obtain⟨I,m,G,E0,hf,hs,hdf⟩:=S
 have hop:=opA_ok G hf
 have hxr:=hop x
 rw[hx] at hxr
 simp only[Rep] at hxr
 obtain⟨us,hu,hcs⟩:=hxr
 simp only[mkFn,if_pos hlt] at hu
 have hall0:AllR (Rep k I m st.hp w) (args.toList.map (opA st.fr)) (args.toList.map a.eval):=by
  refine⟨by simp,fun j x u h1 h2=>?_⟩
  rw[List.getElem?_map] at h1 h2
  cases hj:args.toList[j]? with
  |none=>rw[hj] at h1;cases h1
  |some z=>rw[hj] at h1 h2;cases h1;cases h2;exact hop z
 have hall:=hall0.append ((RepL_iff _ _).1 hcs)
 have hcalls:=hc I K m w _ hok G hall
 have harr:(⟨args.toList.map a.eval++us⟩:Array Value)=args.map a.eval++⟨us⟩:=by apply Array.ext';simp
 rw[harr] at hcalls
 unfold okFn at hok
 split at hok
 ·rename_i fn hfn
  simp only[Bool.and_eq_true,Bool.not_eq_true'] at hok
  have hrun:(execOp a.eval o).run P w= .ok (.enter f (args.map a.eval++⟨us⟩)) w:=by
   have hb:fn.body≠none:=fun hq=>by simp[hq] at hok
   have hnm:fn.name≠ "runtime.NumGoroutine" :=by simpa using hok.2
   obtain⟨dst,op,type,pos,after,guard⟩:=o
   simp only at ho
   subst ho
   simp[execOp,resolve,hu,Deferred.ofValue,invoke,callFunc,hfn,hnm,hb]
  unfold Oper.wp
  rw[hrun]
  refine hcalls.mono fun e w' he=>?_
  obtain⟨rfl,I',m',G',E'⟩:=he
  exact hQ a w' ⟨I',m',G',E0.trans E',hdf⟩
 ·cases hok
theorem pan_throw {k N:Nat}{B:Base}{st:AS}{a:Act}{w:World}{o:Oper}{x:Operand}{t:TypeId}{u:Value}{next:Act→World→Prop}{Q:Exit→Act→World→Prop}(ho:o.op= .panic x)(hx:opA st.fr x= .sc (.iface t u))(S:StR k N K B st a w)
  (hQ: ∀a' w',PanR K B st.hp a' w'→Q (.panic (panE (.iface t u))) a' w'):o.wp P a w next Q:=by
 have hR:=S.panR
 obtain⟨I,m,G,E0,hf,hs,hdf⟩:=S
 have hxr:=opA_ok G hf x
 rw[hx] at hxr
 simp only[Rep] at hxr
 have hrun:(execOp a.eval o).run P w= .halt (.panic (.iface t u)) w:=by
  obtain⟨dst,op,type,pos,after,guard⟩:=o
  simp only at ho
  subst ho
  simp[execOp,hxr,Instr.panic,goPanic,Sem.run]
 unfold Oper.wp
 rw[hrun]
 exact hQ a w hR
theorem slotsIn_dst {N id:Nat}{ops:Array Oper}{b:Bool}(hs:slotsIn N (.region id ops b)=true): ∀o∈ops.toList,∀x,o.dst=some x→x<N:=fun o ho x hx=>by
 simp only[slotsIn,List.all_eq_true,Bool.and_eq_true] at hs
 have:=(hs o ho).1
 rw[hx] at this
 simpa using this
theorem pickC_ok {all:Array Oper}{c:Nat}(h:pickC all c=true):(∀j o e,all[j]?=some o→e∈o.after→Region.binds .any e=true→e.on<j)∧(∀(i j:Nat) (oi oj:Oper) (d:Nat),all[i]?=some oi→all[j]?=some oj→oi.dst=some d→oj.dst=some d→i=j)∧
  (∀j oj,all[j]?=some oj→(j=c∨freeB all c j=true)→ ∀(i:Nat) (oi:Oper) (d:Nat),all[i]?=some oi→oi.dst=some d→d∈slotsOf all oj→ ∃e∈oj.after,e.on=i∧Region.binds .any e=true):=by
 have hget: ∀{j o},all[j]?=some o→all.getD j default=o:=fun h=>by simp[h]
 simp only[pickC,Bool.and_eq_true,List.all_eq_true,List.mem_range,Bool.or_eq_true,Bool.not_eq_true',decide_eq_true_eq] at h
 obtain⟨⟨h1,h2⟩,h3⟩:=h
 have uniq: ∀(i j:Nat) (oi oj:Oper) (d:Nat),i<j→all[i]?=some oi→all[j]?=some oj→oi.dst=some d→oj.dst=some d→False:=fun i j oi oj d hij hi hj hdi hdj=>by
  have:=h2 j (Array.getElem?_eq_some_iff.1 hj).1 i hij
  rw[hget hi,hget hj,hdi,hdj] at this
  simp at this
 refine⟨fun j o e hj he hb=>?_,fun i j oi oj d hi hj hdi hdj=>?_,fun j oj hj hc i oi d hi hd hs=>?_⟩
 ·have:=h1 j (Array.getElem?_eq_some_iff.1 hj).1 e (by rw[hget hj];simpa using he)
  rcases this with h|h
  ·rw[hb] at h;cases h
  ·exact h
 ·rcases Nat.lt_trichotomy i j with h|h|h
  ·exact(uniq i j oi oj d h hi hj hdi hdj).elim
  ·exact h
  ·exact(uniq j i oj oi d h hj hi hdj hdi).elim
 ·have:=h3 j (Array.getElem?_eq_some_iff.1 hj).1
  rcases this with h|h
  ·rcases hc with rfl|hc
   ·simp at h
   ·rw[hc] at h;simp at h
  ·have:=h i (Array.getElem?_eq_some_iff.1 hi).1
   rw[hget hi,hget hj,hd] at this
   simp only[Bool.or_eq_true,Bool.not_eq_true',List.any_eq_true,Bool.and_eq_true,beq_iff_eq] at this
   rcases this with h'|⟨e,he,h1,h2⟩
   ·rw[List.contains_iff_mem.2 hs] at h';cases h'
   ·exact⟨e,by simpa using he,h1,h2⟩
theorem Free_ok {all:Array Oper}{c k:Nat}{hp:Hp}(hpk:pickC all c=true): ∀(js:List Nat) {fr frF:Nat→AV},js.Pairwise (· < ·)→(∀j∈js,j<all.size∧freeB all c j=true)→Free P E k call hp (js.map fun j=>all.getD j default) fr frF→
  (∀t,(∀j∈js,∀o,all[j]?=some o→o.dst≠some t)→frF t=fr t)∧ ∀j∈js,∀o,all[j]?=some o→o.guard=none∧ ∃v,(evOp P E k call frF o).run hp=some (v,hp)∧ ∀d,o.dst=some d→frF d=v
 |[],fr,frF,_,_,h=>by
  cases h
  exact⟨fun _ _=>rfl,fun _ h=>by cases h⟩
 |j::js,fr,frF,hs,hm,h=>by
  obtain⟨hback,huniq,hreads⟩:=pickC_ok hpk
  simp only[List.pairwise_cons] at hs
  simp only[List.map_cons] at h
  have hj:=hm j (List.mem_cons_self ..)
  have hoj:all[j]?=some (all.getD j default):=by simp[hj.1]
  generalize hq:all.getD j default=o at h hoj
  cases h with
  | @cons _ _ _ _ v hg hr hrest=>
  obtain⟨ha,hb⟩:=Free_ok hpk js hs.2 (fun i hi=>hm i (List.mem_cons_of_mem _ hi)) hrest
  have key: ∀t,(∀i∈j::js,∀o,all[i]?=some o→o.dst≠some t)→frF t=fr t:=fun t ht=>by
   rw[ha t fun i hi=>ht i (List.mem_cons_of_mem _ hi)]
   exact setd_other fun e=>ht j (List.mem_cons_self ..) o hoj e
  refine⟨key,fun i hi oi hoi=>?_⟩
  rcases List.mem_cons.1 hi with rfl|hi
  ·rw[hoj] at hoi;cases hoi
   refine⟨hg,v,?_,fun d hd=>?_⟩
   ·rw[evOp_congr (fr':=fr)]
    ·exact hr
    ·intro y hy
     cases y with
     |tmp t=>
      refine key t fun i' hi' o' ho' hd'=>?_
      have hs':t∈slotsOf all o:=List.mem_append_left _ (List.mem_filterMap.2 ⟨.tmp t,by simpa using hy,rfl⟩)
      obtain⟨e,he,e1,e2⟩:=hreads i o hoj (.inr hj.2) i' o' t ho' hd' hs'
      have hlt:=hback i o e hoj he e2
      rw[e1] at hlt
      rcases List.mem_cons.1 hi' with rfl|hi'
      ·exact Nat.lt_irrefl _ hlt
      ·exact Nat.lt_irrefl _ (Nat.lt_trans hlt (hs.1 i' hi'))
     |const c=>cases c<;>rfl
     |func f=>rfl
     |global g=>rfl
   ·rw[ha d fun i' hi' o' ho' hd'=>?_]
    ·rw[hd];simp[setd]
    ·have:=huniq _ _ _ _ _ hoj ho' hd hd'
     exact Nat.lt_irrefl _ (this▸hs.1 i' hi')
  ·exact hb i hi oi hoi
theorem pan_draw (hm:P.follows .mixedOrders=true)(hE:ELaw P E)(hC:OrcOk P call){all:Array Oper}{c k N id:Nat}{B:Base}{fr frF:Nat→AV}{hp:Hp}{a:Act}{w:World}{oc:Oper}{Q:Exit→Act→World→Prop}
  (hpk:pickC all c=true) (hfree:Free P E k call hp (frees all c) fr frF) (hc:all[c]?=some oc) (hg:oc.guard=none) (hop: ∀(cur:Nat→AV) (a:Act) (w:World) (next:Act→World→Prop),(∀y∈oc.op.operands,opA cur y=opA frF y)→StR k N K B ⟨cur,hp⟩ a w→oc.wp P a w next Q)
  (hd: ∀o∈all.toList,∀x,o.dst=some x→x<N) (S:StR k N K B ⟨fr,hp⟩ a w):(Code.region id all true).wp P Q a w:=by
 refine wp_region_any hm ?_
 obtain⟨hback,huniq,hreads⟩:=pickC_ok hpk
 have hclt:=(Array.getElem?_eq_some_iff.1 hc).1
 obtain⟨ha,hb⟩:=Free_ok hpk _ (List.Pairwise.filter _ List.pairwise_lt_range) (fun j hj=>by
  obtain⟨h1,h2⟩:=List.mem_filter.1 hj
  exact⟨List.mem_range.1 h1,h2⟩) hfree
 have hfm: ∀{j},j<all.size→freeB all c j=true→j∈(List.range all.size).filter fun j=>freeB all c j:=fun h1 h2=>List.mem_filter.2 ⟨List.mem_range.2 h1,h2⟩
 let cntL:Array Bool→Nat:=fun l=>((List.range all.size).filter fun i=>l.getD i false).length
 have main: ∀(n:Nat) (listed:Array Bool) (cur:Nat→AV) (a:Act) (w:World),Down all listed→listed.size=all.size→listed.getD c false=false→cntL listed+n=all.size→
   (∀i oi d,listed.getD i false=true→all[i]?=some oi→oi.dst=some d→cur d=frF d)→(∀t,(∀i oi,listed.getD i false=true→all[i]?=some oi→oi.dst≠some t)→cur t=fr t)→
   StR k N K B ⟨cur,hp⟩ a w→wpAny P .any all Q n listed a w:=by
  intro n
  induction n with
  |zero=>
   intro listed cur a w hD hsz hcl hcn h1 h2 S
   exfalso
   have:((List.range all.size).filter fun i=>listed.getD i false).length<(List.range all.size).length:=by
    refine List.length_filter_lt_length_iff_exists.2 ⟨c,List.mem_range.2 hclt,by rw[hcl];simp⟩
   rw[List.length_range] at this
   have:cntL listed<all.size:=this
   omega
  |succ n ih=>
   intro listed cur a w hD hsz hcl hcn h1 h2 S
   have hunl: ∀{j},j<all.size→(listed.getD j true=listed.getD j false):=fun hj=>by simp[hsz,hj]
   refine⟨fun hr=>?_,fun j hj=>?_⟩
   ·exfalso
    have hex: ∃j,j<all.size∧listed.getD j false=false:=⟨c,hclt,hcl⟩
    have hmin: ∃j,(j<all.size∧listed.getD j false=false)∧ ∀i,i<j→ ¬(i<all.size∧listed.getD i false=false):=by
     have hl:=least_spec (p:=fun j=>j<all.size∧listed.getD j false=false) hex
     exact⟨_,hl.1,fun i hi hp=>Nat.lt_irrefl _ (Nat.lt_of_lt_of_le hi (hl.2 i hp))⟩
    obtain⟨j,⟨hj,hjl⟩,hjm⟩:=hmin
    have hoj:all[j]?=some all[j]:=Array.getElem?_eq_getElem hj
    have:j∈Region.ready .any all listed:=mem_ready.2 ⟨by rw[hunl hj];exact hjl,_,hoj,fun e he hbi=>by
     have hlt:=hback j _ e hoj he hbi
     cases hle:listed.getD e.on false with
     |true=>rfl
     |false=>exact(hjm e.on hlt ⟨Nat.lt_trans hlt hj,hle⟩).elim⟩
    rw[hr] at this
    cases this
   ·obtain⟨hju,oj,hoj,hje⟩:=mem_ready.1 hj
    have hjlt:=(Array.getElem?_eq_some_iff.1 hoj).1
    have hlf: ∀i,listed.getD i false=true→i<all.size→freeB all c i=true:=fun i hi hilt=>by
     unfold freeB
     simp only[Bool.and_eq_true,Bool.not_eq_true',beq_eq_false_iff_ne]
     refine⟨fun e=>(by rw[e,hcl] at hi;cases hi),?_⟩
     cases htb:((waits all.toList []).getD i 0).testBit c with
     |false=>rfl
     |true=>
      have hw:=waits_ok (all:=all) all.toList [] 0 rfl (by simp) (by simp) i c htb
      have:=hD.waits hw hi
      rw[hcl] at this
      cases this
    have hag:(j=c∨freeB all c j=true)→ ∀y∈oj.op.operands,opA cur y=opA frF y:=fun hjc y hy=>by
     cases y with
     |tmp t=>
      have hs':t∈slotsOf all oj:=List.mem_append_left _ (List.mem_filterMap.2 ⟨.tmp t,by simpa using hy,rfl⟩)
      show cur t=frF t
      by_cases hw: ∃(i:Nat) (oi:Oper),all[i]?=some oi∧oi.dst=some t
      ·obtain⟨i,oi,hi,hdi⟩:=hw
       obtain⟨e,he,e1,e2⟩:=hreads j oj hoj hjc i oi t hi hdi hs'
       exact h1 i oi t (e1▸hje e he e2) hi hdi
      ·have hno: ∀(i:Nat) (oi:Oper),all[i]?=some oi→oi.dst≠some t:=fun i oi hi hdi=>hw ⟨i,oi,hi,hdi⟩
       rw[h2 t fun i oi _ hi=>hno i oi hi,ha t fun i _ o ho'=>hno i o ho']
     |const c=>cases c<;>rfl
     |func f=>rfl
     |global g=>rfl
    unfold wpOp
    simp only[hoj]
    by_cases hjc:j=c
    ·subst hjc
     rw[hc] at hoj;cases hoj
     rw[S.guard (b:=true) (by simp[guardA,hg]),if_pos rfl]
     exact .inl (hop cur a w _ (hag (.inl rfl)) S)
    ·cases hfj:freeB all c j with
     |false=>
      exfalso
      unfold freeB at hfj
      rw[Bool.and_eq_false_iff] at hfj
      rcases hfj with h|h
      ·simp at h;exact hjc h
      ·have htb:((waits all.toList []).getD j 0).testBit c=true:=by simpa using h
       have hw:=waits_ok (all:=all) all.toList [] 0 rfl (by simp) (by simp) j c htb
       have:=ready_waits hD hj hw
       rw[hcl] at this
       cases this
     |true=>
      obtain⟨hgj,vj,hrun,hdst⟩:=hb j (hfm hjlt hfj) oj hoj
      rw[S.guard (b:=true) (by simp[guardA,hgj]),if_pos rfl]
      have hev:(evOp P E k call cur oj).run hp=some (vj,hp):=by rw[evOp_congr (hag (.inr hfj))];exact hrun
      refine .inl ((S.op hE hC (hd oj (by have:=Array.mem_of_getElem? hoj;simpa using this)) hev).wp fun u w' S'=>?_)
      have hset: ∀i,(listed.setIfInBounds j true).getD i false=true→i=j∨listed.getD i false=true:=fun i hi=>by
       by_cases e:j=i
       ·exact .inl e.symm
       ·rw[getD_set_ne false e] at hi;exact .inr hi
      refine ih (listed.setIfInBounds j true) _ _ _ (hD.set hj) (by simpa using hsz) (by rw[getD_set_ne false hjc];exact hcl) ?_ (fun i oi d hi hoi hdi=>?_) (fun t ht=>?_) S'
      ·have hjf:listed.getD j false=false:=by rw[←hunl hjlt];exact hju
       have hone: ∀(l:List Nat),l.Nodup→j∈l→(l.filter fun i=>(listed.setIfInBounds j true).getD i false).length=(l.filter fun i=>listed.getD i false).length+1:=by
        intro l
        induction l with
        |nil=>intro _ h;cases h
        |cons y l ihl=>
         intro hnd hjm
         rw[List.nodup_cons] at hnd
         by_cases hyj:j=y
         ·subst hyj
          have e1:(listed.setIfInBounds j true).getD j false=true:=(by have hjs:j<listed.size:=(by omega);simp[hjs])
          have e2:l.filter (fun i=>(listed.setIfInBounds j true).getD i false)=l.filter fun i=>listed.getD i false:=List.filter_congr fun i hi=>getD_set_ne false (fun e=>hnd.1 (e▸hi))
          simp only[List.filter_cons,e1,hjf,e2,if_true,Bool.false_eq_true,if_false,List.length_cons]
         ·have:=ihl hnd.2 ((List.mem_cons.1 hjm).resolve_left hyj)
          have e1:(listed.setIfInBounds j true).getD y false=listed.getD y false:=getD_set_ne false hyj
          cases hy:listed.getD y false with
          |true=>simp only[List.filter_cons,e1,hy,if_true,List.length_cons,this]
          |false=>simp only[List.filter_cons,e1,hy,Bool.false_eq_true,if_false,this]
       have:=hone (List.range all.size) List.nodup_range (List.mem_range.2 hjlt)
       have:cntL (listed.setIfInBounds j true)=cntL listed+1:=this
       omega
      ·rcases hset i hi with rfl|hi'
       ·rw[hoj] at hoi;cases hoi
        simp only[hdi,setd,if_true]
        exact(hdst d hdi).symm
       ·have hne:oj.dst≠some d:=fun e=>by
         have:=huniq _ _ _ _ _ hoi hoj hdi e
         subst this
         have hjf:listed.getD i false=false:=by rw[←hunl hjlt];exact hju
         rw[hjf] at hi';cases hi'
        simp only
        rw[setd_other hne]
        exact h1 i oi d hi' hoi hdi
      ·have hjt:oj.dst≠some t:=ht j oj (by have hjs:j<listed.size:=(by omega);simp[hjs]) hoj
       simp only
       rw[setd_other hjt]
       refine h2 t fun i oi hi hoi=>ht i oi ?_ hoi
       by_cases e:j=i
       ·subst e
        have hjs:j<listed.size:=by omega
        simp[hjs]
       ·rw[getD_set_ne false e];exact hi
 refine main all.size (Array.replicate all.size false) fr a {w with drawn:=w.drawn+1} (fun j o e hj _ _ _=>?_) (by simp) (by simp[hclt]) ?_ (fun i oi d hi _ _=>?_) (fun t _=>rfl) (S.drawn _)
 ·exfalso
  by_cases h:j<all.size<;>simp[h] at hj
 ·have:cntL (Array.replicate all.size false)=0:=by
   refine List.length_eq_zero_iff.2 (List.filter_eq_nil_iff.2 fun i hi=>?_)
   have:=List.mem_range.1 hi
   simp[this]
  omega
 ·exfalso
  by_cases h:i<all.size<;>simp[h] at hi
theorem pan_loop (hm:P.follows .mixedOrders=true)(hE:ELaw P E)(hC:OrcOk P call){k n:Nat}{c:Code}{v:Value}{hp':Hp}(ih: ∀j,j<n→ ∀s,Pan P E call (.code k c s) j v hp'→PanCode P k c s v hp')
  (N:Nat) (K:Nat→Prop) (B:Base) (Q:Exit→Act→World→Prop) (a:Act) (w:World) (hs:slotsIn N c=true) {st:AS} (S:StR k N K B st a w) (h:Pan P E call (.code k (.loop c) st) n v hp') (hQ: ∀a' w',PanR K B hp' a' w'→Q (.panic (panE v)) a' w'):(Code.loop c).wp P Q a w:=by
 refine wp_loop (I:=fun a w=> ∃g s,g≤n∧StR k N K B s a w∧Pan P E call (.code k (.loop c) s) g v hp')
  (μ:=fun a w=>least fun g=> ∃s,g≤n∧StR k N K B s a w∧Pan P E call (.code k (.loop c) s) g v hp') ⟨n,st,Nat.le_refl _,S,h⟩ ?_
 intro a w hI
 obtain⟨⟨s,hg,S,h⟩,_⟩:=least_spec (p:=fun g=> ∃s,g≤n∧StR k N K B s a w∧Pan P E call (.code k (.loop c) s) g v hp') hI
 generalize hgl:least (fun g=> ∃s,g≤n∧StR k N K B s a w∧Pan P E call (.code k (.loop c) s) g v hp')=g at hg h
 cases h with
 | @loopN _ m _ _ s1 g' _ _ h1 h2=>
  refine evC_ok hm hE hC m c hs S h1 fun a' w' S'=>⟨⟨g',s1,by omega,S',h2⟩,?_⟩
  have:=(least_spec (p:=fun g=> ∃s,g≤n∧StR k N K B s a' w'∧Pan P E call (.code k (.loop c) s) g v hp') ⟨g',s1,by omega,S',h2⟩).2 g' ⟨s1,by omega,S',h2⟩
  exact Nat.lt_succ_of_le this
 | @loopP _ _ _ g' _ _ h2=>
  exact ih g' (by omega) s h2 N K B _ a w hs S fun a' w' hR=>hQ a' w' hR
theorem pan_ok (hm:P.follows .mixedOrders=true)(hE:ELaw P E)(hC:OrcOk P call): ∀(n:Nat) (t:PTask) (v:Value) (hp':Hp),Pan P E call t n v hp'→PanT P v hp' t:=by
 intro n
 induction n using Nat.strongRecOn with
 |_ n ih0=>
  intro t v hp' h
  have h00:=h
  cases h with
  | @fn k f fn c _ args hp _ _ hf hb hok hl h=>
   have hc:PanCode P (k+1) c ⟨frame0 args,hp⟩ v hp':=ih0 _ (Nat.lt_succ_self _) _ _ _ h
   intro I K m w us _ G ha
   have hbo:=hok
   unfold bodyOk at hbo
   rw[hb] at hbo
   simp only[Bool.and_eq_true,decide_eq_true_eq] at hbo
   obtain⟨⟨hs1,hs2⟩,hs3⟩:=hbo
   have hus:us.length=fn.params.size+fn.nfree:=by rw[←ha.1];exact hl
   refine calls_of_wp hf hb ?_
   have S0:StR (k+1) fn.ntmps K ⟨I,m,hp,w,[]⟩ ⟨frame0 args,hp⟩ {tmps:=(⟨us⟩:Array Value)++Array.replicate (fn.ntmps - (⟨us⟩:Array Value).size) undef,defers:=[]} w:=by
    refine⟨I,m,G,.refl _ _ _ _ _,fun t=>frame_ok (ha.imp fun a u h=>Rep.depth (Nat.le_succ k) a u h) t,?_,rfl⟩
    simp only[Array.size_append,List.size_toArray,Array.size_replicate]
    omega
   refine hc _ K _ _ _ _ hs1 S0 fun a' w' hR=>?_
   obtain⟨I',m',G',E',hd⟩:=hR
   exact⟨hd,rfl,I',m',G',E'⟩
  | @skip k all o os st _ _ _ hg h=>
   have hc:PanOps P k all os _ v hp':=ih0 _ (Nat.lt_succ_self _) _ _ _ h
   intro N K B i Q a w hl hd S hQ
   have h0:all[i]?=some o:=by simpa using(hl 0).symm
   have hl': ∀j,os[j]?=all[i+1+j]?:=fun j=>by have:=hl (j+1);simpa[Nat.add_assoc,Nat.add_comm 1 j] using this
   simp only[List.length_cons,List.range'_succ,wpOps,h0]
   rw[S.guard hg]
   simp only[Bool.false_eq_true,if_false]
   exact hc N K B _ Q _ _ hl' (fun p hp=>hd p (List.mem_cons_of_mem _ hp)) (S.skip (hd o (List.mem_cons_self ..))) hQ
  | @step k all o os st _ _ _ u hp1 hg hr h=>
   have hc:PanOps P k all os _ v hp':=ih0 _ (Nat.lt_succ_self _) _ _ _ h
   intro N K B i Q a w hl hd S hQ
   have h0:all[i]?=some o:=by simpa using(hl 0).symm
   have hl': ∀j,os[j]?=all[i+1+j]?:=fun j=>by have:=hl (j+1);simpa[Nat.add_assoc,Nat.add_comm 1 j] using this
   simp only[List.length_cons,List.range'_succ,wpOps,h0]
   rw[S.guard hg,if_pos rfl]
   exact .inl ((S.op hE hC (hd o (List.mem_cons_self ..)) hr).wp fun u w' S'=>hc N K B _ Q _ _ hl' (fun p hp=>hd p (List.mem_cons_of_mem _ hp)) S' hQ)
  | @call k all o os st _ _ _ x args ats f cs hg ho hx hok hlt h=>
   have hc:PanCalls P k f _ st.hp v hp':=ih0 _ (Nat.lt_succ_self _) _ _ _ h
   intro N K B i Q a w hl hd S hQ
   have h0:all[i]?=some o:=by simpa using(hl 0).symm
   simp only[List.length_cons,List.range'_succ,wpOps,h0]
   rw[S.guard hg,if_pos rfl]
   exact .inl (pan_op hc ho hx hok hlt S hQ)
  | @panic k all o os st _ x t u hg ho hx=>
   intro N K B i Q a w hl hd S hQ
   have h0:all[i]?=some o:=by simpa using(hl 0).symm
   simp only[List.length_cons,List.range'_succ,wpOps,h0]
   rw[S.guard hg,if_pos rfl]
   exact .inl (pan_throw ho hx S hQ)
  | @region k id ops st _ _ _ h=>
   have hc:PanOps P k ops ops.toList st v hp':=ih0 _ (Nat.lt_succ_self _) _ _ _ h
   intro N K B Q a w hs S hQ
   refine wp_region ?_
   have h1:=hc N K B 0 Q a w (fun j=>by rw[Array.getElem?_toList,Nat.zero_add]) (fun o ho x hx=>by
    simp only[slotsIn,List.all_eq_true,Bool.and_eq_true] at hs
    have:=(hs o ho).1
    rw[hx] at this
    simpa using this) S hQ
   rw[List.range_eq_range']
   simpa using h1
  | @draw k id c ops st _ _ _ o x args ats f cs frF hpk hf hc hg ho hx hok hlt h=>
   have hcl:PanCalls P k f _ st.hp v hp':=ih0 _ (Nat.lt_succ_self _) _ _ _ h
   intro N K B Q a w hs S hQ
   refine pan_draw hm hE hC hpk hf hc hg (fun cur a w next hag S=>?_) (slotsIn_dst hs) S
   rw[ho] at hag
   have e1:opA cur x=opA frF x:=hag x (by simp[Op.operands,Call.operands])
   have e2:args.toList.map (opA cur)=args.toList.map (opA frF):=List.map_congr_left fun y hy=>hag y (by simp[Op.operands,Call.operands];exact .inr (by simpa using hy))
   exact pan_op (st:=⟨cur,st.hp⟩) (by simp only;rw[e2];exact hcl) ho (by simp only;rw[e1];exact hx) hok hlt S hQ
  | @drawP k id c ops st _ o x t u frF hpk hf hc hg ho hx=>
   intro N K B Q a w hs S hQ
   refine pan_draw hm hE hC hpk hf hc hg (fun cur a w next hag S=>?_) (slotsIn_dst hs) S
   rw[ho] at hag
   have e1:opA cur x=opA frF x:=hag x (by simp[Op.operands])
   exact pan_throw (st:=⟨cur,st.hp⟩) ho (by simp only;rw[e1];exact hx) S hQ
  | @seqL k x y st _ _ _ h=>
   have hc:PanCode P k x st v hp':=ih0 _ (Nat.lt_succ_self _) _ _ _ h
   intro N K B Q a w hs S hQ
   simp only[slotsIn,Bool.and_eq_true] at hs
   exact wp_seq (hc N K B _ a w hs.1 S fun a' w' hR=>hQ a' w' hR)
  | @seqR k m x y st s _ _ _ h1 h=>
   have hc:PanCode P k y s v hp':=ih0 _ (Nat.lt_succ_self _) _ _ _ h
   intro N K B Q a w hs S hQ
   simp only[slotsIn,Bool.and_eq_true] at hs
   exact wp_seq (evC_ok hm hE hC m x hs.1 S h1 fun a' w' S'=>hc N K B Q a' w' hs.2 S' hQ)
  | @cond k c x y st t _ _ _ hc h=>
   have hi:PanCode P k (if t then x else y) st v hp':=ih0 _ (Nat.lt_succ_self _) _ _ _ h
   intro N K B Q a w hs S hQ
   simp only[slotsIn,Bool.and_eq_true] at hs
   have hb:a.eval c= .bool t:=by
    obtain⟨I,m,G,E0,hf,hsz,hdf⟩:=S
    have:=opA_ok G hf c
    rw[hc] at this
    simpa only[Rep] using this
   refine wp_cond hb ?_
   cases t with
   |true=>exact hi N K B Q a w hs.1.2 S hQ
   |false=>exact hi N K B Q a w hs.2 S hQ
  | @block k id c st _ _ _ h=>
   have hc:PanCode P k c st v hp':=ih0 _ (Nat.lt_succ_self _) _ _ _ h
   intro N K B Q a w hs S hQ
   simp only[slotsIn] at hs
   exact wp_block (hc N K B _ a w hs S fun a' w' hR=>hQ a' w' hR)
  | @scope k c st _ _ _ h=>
   have hc:PanCode P k c st v hp':=ih0 _ (Nat.lt_succ_self _) _ _ _ h
   intro N K B Q a w hs S hQ
   simp only[slotsIn] at hs
   exact wp_scope_straight (hc N K B _ a w hs S fun a' w' hR=>hQ a' w' hR)
  | @loopN k m c st s n _ _ h1 h=>
   intro N K B Q a w hs S hQ
   simp only[slotsIn] at hs
   exact pan_loop hm hE hC (n:=n+1) (fun j hj s h=>ih0 j hj _ _ _ h) N K B Q a w hs S h00 hQ
  | @loopP k c st n _ _ h=>
   intro N K B Q a w hs S hQ
   simp only[slotsIn] at hs
   exact pan_loop hm hE hC (n:=n+1) (fun j hj s h=>ih0 j hj _ _ _ h) N K B Q a w hs S h00 hQ
end
end
section
open Go
def Ends (P:Program)(E:Cfg)(k:Nat)(call:Orc)(c:Code)(st:AS):Ex→AS→Prop
 | .panic v,s=> ∃n hp',Pan P E call (.code k c st) n v hp'∧s=⟨fun _=> .any,hp'⟩
 | .normal,s=> ∃n,evC P E k call n c st=some (.normal,s)
 | .exit i,s=> ∃n,evC P E k call n c st=some (.exit i,s)
 | .ret,s=> ∃n,evC P E k call n c st=some (.ret,s)
def W (P:Program)(E:Cfg)(k:Nat)(call:Orc)(c:Code)(st:AS)(Q:Ex→AS→Prop):Prop:= ∃e st',Ends P E k call c st e st'∧Q e st'
def Wo (P:Program)(E:Cfg)(k:Nat)(call:Orc)(all:Array Oper)(os:List Oper)(st:AS)(Q:AS→Prop)(PQ:Value→Hp→Prop):Prop:=
 (∃st',evOps P E k call all os st=some st'∧Q st')∨ ∃n v hp',Pan P E call (.ops k all os st) n v hp'∧PQ v hp'
def Wp {α:Type}(p:Prog α)(hp:Hp)(Q:α→Hp→Prop):Prop:= ∃v hp',p.run hp=some (v,hp')∧Q v hp'
abbrev panQ (Q:Ex→AS→Prop):Value→Hp→Prop:=fun v hp=>Q (.panic v) ⟨fun _=> .any,hp⟩
section
variable {P:Program}{E:Cfg}{k:Nat}{call:Orc}
theorem evC_np : ∀(n:Nat) (c:Code) (st s:AS) (v:Value),evC P E k call n c st=some (.panic v,s)→False
 |0,c,st,s,v,h=>by simp[evC] at h
 |n+1,c,st,s,v,h=>by
  cases c with
  |region id ops d=>
   simp only[evC] at h
   cases hr:evRegion P E k call ops d st with
   |none=>rw[hr] at h;cases h
   |some r=>rw[hr] at h;simp at h
  |seq x y=>
   simp only[evC] at h
   split at h
   ·exact evC_np n _ _ _ _ h
   ·exact evC_np n _ _ _ _ h
  |cond c x y=>
   simp only[evC] at h
   split at h
   ·split at h
    ·exact evC_np n _ _ _ _ h
    ·exact evC_np n _ _ _ _ h
   ·cases h
  |block id x=>
   simp only[evC] at h
   split at h
   ·split at h<;>cases h
   ·exact evC_np n _ _ _ _ h
  |scope x=>
   simp only[evC] at h
   exact evC_np n _ _ _ _ h
  |loop x=>
   simp only[evC] at h
   split at h
   ·exact evC_np n _ _ _ _ h
   ·exact evC_np n _ _ _ _ h
  |_=>simp[evC] at h
theorem W_of {n:Nat}{c:Code}{st s:AS}{e:Ex}{Q:Ex→AS→Prop}(h:evC P E k call n c st=some (e,s))(q:Q e s):W P E k call c st Q:=by
 cases e with
 |normal=>exact⟨.normal,s,⟨n,h⟩,q⟩
 |exit i=>exact⟨.exit i,s,⟨n,h⟩,q⟩
 |ret=>exact⟨.ret,s,⟨n,h⟩,q⟩
 |panic v=>exact(evC_np _ _ _ _ _ h).elim
theorem W_pan {n:Nat}{c:Code}{st:AS}{v:Value}{hp':Hp}{Q:Ex→AS→Prop}(h:Pan P E call (.code k c st) n v hp')(q:panQ Q v hp'):W P E k call c st Q:=⟨.panic v,_,⟨n,hp',h,rfl⟩,q⟩
theorem W_cases {c:Code}{st:AS}{Q:Ex→AS→Prop}(h:W P E k call c st Q):(∃n e s,evC P E k call n c st=some (e,s)∧(∀v,e≠ .panic v)∧Q e s)∨ ∃n v hp',Pan P E call (.code k c st) n v hp'∧panQ Q v hp':=by
 obtain⟨e,s,h1,h2⟩:=h
 cases e with
 |normal=>obtain⟨n,h1⟩:=h1;exact .inl ⟨n,_,s,h1,nofun,h2⟩
 |exit i=>obtain⟨n,h1⟩:=h1;exact .inl ⟨n,_,s,h1,nofun,h2⟩
 |ret=>obtain⟨n,h1⟩:=h1;exact .inl ⟨n,_,s,h1,nofun,h2⟩
 |panic v=>obtain⟨n,hp',h1,rfl⟩:=h1;exact .inr ⟨n,v,hp',h1,h2⟩
theorem W.mono {c:Code}{st:AS}{Q Q':Ex→AS→Prop}(h:W P E k call c st Q)(hq: ∀e s,Q e s→Q' e s):W P E k call c st Q':=by
 obtain⟨e,s,h1,h2⟩:=h
 exact⟨e,s,h1,hq _ _ h2⟩
theorem W_skip {st:AS}{Q:Ex→AS→Prop}(h:Q .normal st):W P E k call .skip st Q:=W_of (n:=1) rfl h
theorem W_label {l:Nat}{st:AS}{Q:Ex→AS→Prop}(h:Q .normal st):W P E k call (.label l) st Q:=W_of (n:=1) rfl h
theorem W_exit {id:Nat}{st:AS}{Q:Ex→AS→Prop}(h:Q (.exit id) st):W P E k call (.exit id) st Q:=W_of (n:=1) rfl h
theorem W_ret {st:AS}{Q:Ex→AS→Prop}(h:Q .ret st):W P E k call .ret st Q:=W_of (n:=1) rfl h
theorem W_region {id:Nat}{ops:Array Oper}{st:AS}{Q:Ex→AS→Prop}(h:Wo P E k call ops ops.toList st (Q .normal) (panQ Q)):W P E k call (.region id ops false) st Q:=by
 rcases h with⟨st',h1,h2⟩|⟨n,v,hp',h1,h2⟩
 ·exact W_of (n:=1) (by simp[evC,evRegion,h1]) h2
 ·exact W_pan (.region h1) h2
def thenW (N:AS→Prop)(Q:Ex→AS→Prop):Ex→AS→Prop
 | .normal,s=>N s
 |e,s=>Q e s
theorem W_seq {a b:Code}{st:AS}{Q:Ex→AS→Prop}(h:W P E k call a st (thenW (fun s=>W P E k call b s Q) Q)):W P E k call (.seq a b) st Q:=by
 rcases W_cases h with⟨n,e,s,h1,_,h2⟩|⟨n,v,hp',h1,h2⟩
 ·cases e with
  |normal=>
   rcases W_cases h2 with⟨m,e',s',h3,_,h4⟩|⟨m,v,hp',h3,h4⟩
   ·refine W_of (n:=max n m+1) ?_ h4
    simp only[evC]
    rw[evC_mono (.refl call) n (max n m) (Nat.le_max_left ..) _ _ _ h1]
    exact evC_mono (.refl call) m (max n m) (Nat.le_max_right ..) _ _ _ h3
   ·exact W_pan (.seqR h1 h3) h4
  |exit i=>exact W_of (n:=n+1) (by simp only[evC];rw[h1]) h2
  |ret=>exact W_of (n:=n+1) (by simp only[evC];rw[h1]) h2
  |panic v=>exact(evC_np _ _ _ _ _ h1).elim
 ·exact W_pan (.seqL h1) h2
theorem W_cond {c:Operand}{a b:Code}{st:AS}{Q:Ex→AS→Prop}{t:Bool}(hc:opA st.fr c= .sc (.bool t))(h:W P E k call (if t then a else b) st Q):W P E k call (.cond c a b) st Q:=by
 rcases W_cases h with⟨n,e,s,h1,_,h2⟩|⟨n,v,hp',h1,h2⟩
 ·refine W_of (n:=n+1) ?_ h2
  simp only[evC,hc]
  cases t<;>simpa using h1
 ·exact W_pan (.cond hc h1) h2
def inBlockW (id:Nat)(Q:Ex→AS→Prop):Ex→AS→Prop
 | .exit i,s=>if i=id then Q .normal s else Q (.exit i) s
 |e,s=>Q e s
theorem W_block {id:Nat}{c:Code}{st:AS}{Q:Ex→AS→Prop}(h:W P E k call c st (inBlockW id Q)):W P E k call (.block id c) st Q:=by
 rcases W_cases h with⟨n,e,s,h1,_,h2⟩|⟨n,v,hp',h1,h2⟩
 ·cases e with
  |normal=>exact W_of (n:=n+1) (by simp only[evC];rw[h1]) h2
  |ret=>exact W_of (n:=n+1) (by simp only[evC];rw[h1]) h2
  |panic v=>exact(evC_np _ _ _ _ _ h1).elim
  |exit i=>
   by_cases hi:i=id
   ·simp only[inBlockW,hi,if_true] at h2
    exact W_of (n:=n+1) (e:= .normal) (by simp only[evC];rw[h1];simp[hi]) h2
   ·simp only[inBlockW,hi,if_false] at h2
    exact W_of (n:=n+1) (e:= .exit i) (by simp only[evC];rw[h1];simp[hi]) h2
 ·exact W_pan (.block h1) h2
theorem W_scope {c:Code}{st:AS}{Q:Ex→AS→Prop}(h:W P E k call c st Q):W P E k call (.scope c) st Q:=by
 rcases W_cases h with⟨n,e,s,h1,_,h2⟩|⟨n,v,hp',h1,h2⟩
 ·exact W_of (n:=n+1) (by simp only[evC];exact h1) h2
 ·exact W_pan (.scope h1) h2
theorem W_unroll {c:Code}{st:AS}{Q:Ex→AS→Prop}(h:W P E k call c st (thenW (fun s=>W P E k call (.loop c) s Q) Q)):W P E k call (.loop c) st Q:=by
 rcases W_cases h with⟨n,e,s,h1,_,h2⟩|⟨n,v,hp',h1,h2⟩
 ·cases e with
  |normal=>
   rcases W_cases h2 with⟨m,e',s',h3,_,h4⟩|⟨m,v,hp',h3,h4⟩
   ·refine W_of (n:=max n m+1) ?_ h4
    simp only[evC]
    rw[evC_mono (.refl call) n (max n m) (Nat.le_max_left ..) _ _ _ h1]
    exact evC_mono (.refl call) m (max n m) (Nat.le_max_right ..) _ _ _ h3
   ·exact W_pan (.loopN h1 h3) h4
  |exit i=>exact W_of (n:=n+1) (by simp only[evC];rw[h1]) h2
  |ret=>exact W_of (n:=n+1) (by simp only[evC];rw[h1]) h2
  |panic v=>exact(evC_np _ _ _ _ _ h1).elim
 ·exact W_pan (.loopP h1) h2
theorem W_loop {c:Code}{st:AS}{Q:Ex→AS→Prop}(I:Nat→AS→Prop){n:Nat}(h0:I n st)(round: ∀n s,I n s→W P E k call c s (thenW (fun s'=> ∃m,m<n∧I m s') Q)):W P E k call (.loop c) st Q:=by
 induction n using Nat.strongRecOn generalizing st with
 |_ n ih=>
  refine W_unroll ((round n st h0).mono fun e s h=>?_)
  cases e with
  |normal=>obtain⟨m,hm,hI⟩:=h;exact ih m hm hI
  |exit i=>exact h
  |ret=>exact h
  |panic v=>exact h
theorem Wo_nil {all:Array Oper}{st:AS}{Q:AS→Prop}{PQ:Value→Hp→Prop}(h:Q st):Wo P E k call all [] st Q PQ:= .inl ⟨st,rfl,h⟩
theorem Wo_cons {all:Array Oper}{o:Oper}{os:List Oper}{st:AS}{Q:AS→Prop}{PQ:Value→Hp→Prop}(hg:guardA all st.fr o=some true)(h:Wp (evOp P E k call st.fr o) st.hp fun v hp=>Wo P E k call all os ⟨setd st.fr o.dst v,hp⟩ Q PQ):Wo P E k call all (o::os) st Q PQ:=by
 obtain⟨v,hp,h1,h⟩:=h
 rcases h with⟨st',h2,h3⟩|⟨n,v',hp',h2,h3⟩
 ·exact .inl ⟨st',by simp only[evOps,hg,h1,h2],h3⟩
 ·exact .inr ⟨n+1,v',hp',.step hg h1 h2,h3⟩
theorem Wo_skip {all:Array Oper}{o:Oper}{os:List Oper}{st:AS}{Q:AS→Prop}{PQ:Value→Hp→Prop}(hg:guardA all st.fr o=some false)(h:Wo P E k call all os ⟨setd st.fr o.dst (.sc undef),st.hp⟩ Q PQ):Wo P E k call all (o::os) st Q PQ:=by
 rcases h with⟨st',h2,h3⟩|⟨n,v',hp',h2,h3⟩
 ·exact .inl ⟨st',by simp only[evOps,hg,h2],h3⟩
 ·exact .inr ⟨n+1,v',hp',.skip hg h2,h3⟩
section
variable {α β:Type}{hp:Hp}
end
def Ex.fine :Ex→Bool
 | .normal=>true
 | .ret=>true
 |_=>false
@[simp] theorem fine_normal :Ex.normal.fine=true:=rfl
@[simp] theorem fine_ret :Ex.ret.fine=true:=rfl
theorem fn_of {X:Orc}{f:Nat}{fn:Func}{c:Code}{args rs:List AV}(hf:P.funcs[f]?=some fn)(hx:X.dat f args=none)(hb:fn.body=some c)(hok:bodyOk fn=true)(hl:args.length=fn.params.size+fn.nfree)
  (h:W P E 0 (lim P E X) c ⟨frame0 args,hp0⟩ fun e st=>e.fine=true∧Wp (resultsP P st.fr fn.resultTypes.toList fn.results.toList) st.hp fun v _=>v=rs):(lim P E X).dat f args=some rs:=by
 rcases W_cases h with⟨n,e,st,h1,_,hne,v,hp',h2,rfl⟩|⟨n,v,hp',h1,h2,_⟩
 ·refine lim_fn (n:=n) hf hx ?_
  unfold evFn
  rw[hb]
  simp only[hok,hl,beq_self_eq_true,Bool.and_self,if_true]
  rw[h1]
  cases e with
  |exit i=>simp[Ex.fine] at hne
  |panic v=>simp[Ex.fine] at hne
  |normal=>simp[h2]
  |ret=>simp[h2]
 ·simp[Ex.fine] at h2
def EndQ (P:Program)(ts:List TypeId)(rvs:List ResultVar)(R:List AV→Prop):Ex→AS→Prop
 | .exit _,_=>False
 | .panic _,_=>False
 |_,st=> ∃rs hp',(resultsP P st.fr ts rvs).run st.hp=some (rs,hp')∧R rs
theorem EndQ_ret {ts:List TypeId}{rvs:List ResultVar}{R:List AV→Prop}{st:AS}{rs:List AV}{hp':Hp}(h:(resultsP P st.fr ts rvs).run st.hp=some (rs,hp'))(hr:R rs):EndQ P ts rvs R .ret st:=⟨rs,hp',h,hr⟩
theorem fnW {X:Orc}{f:Nat}{fn:Func}{c:Code}{args rs:List AV}{ts:List TypeId}{rvs:List ResultVar}(hf:P.funcs[f]?=some fn)(hx:X.dat f args=none)(hb:fn.body=some c)(hok:bodyOk fn=true)(hl:args.length=fn.params.size+fn.nfree)
  (ht:rtys P f=ts) (hrv:fn.results.toList=rvs) (h:W P E 0 (lim P E X) c ⟨frame0 args,hp0⟩ (EndQ P ts rvs (· =rs))):(lim P E X).dat f args=some rs:=by
 refine fn_of hf hx hb hok hl (h.mono fun e st hq=>?_)
 have ht:fn.resultTypes.toList=ts:=by rw[←ht];simp[rtys,hf]
 subst ht hrv
 cases e with
 |exit i=>exact hq.elim
 |panic v=>exact hq.elim
 |normal=>obtain⟨rs',hp',h1,h2⟩:=hq;exact⟨rfl,rs',hp',h1,h2⟩
 |ret=>obtain⟨rs',hp',h1,h2⟩:=hq;exact⟨rfl,rs',hp',h1,h2⟩
theorem fnR {X:Orc}{f:Nat}{fn:Func}{c:Code}{args:List AV}{R:List AV→Prop}{ts:List TypeId}{rvs:List ResultVar}(hf:P.funcs[f]?=some fn)(hx:X.dat f args=none)(hb:fn.body=some c)(hok:bodyOk fn=true)(hl:args.length=fn.params.size+fn.nfree)
  (ht:rtys P f=ts) (hrv:fn.results.toList=rvs) (h:W P E 0 (lim P E X) c ⟨frame0 args,hp0⟩ (EndQ P ts rvs R)): ∃rs,(lim P E X).dat f args=some rs∧R rs:=by
 obtain⟨e,st,h1,h2⟩:=h
 cases e with
 |exit i=>exact h2.elim
 |panic v=>exact h2.elim
 |normal=>obtain⟨rs,hp',h3,h4⟩:=h2;exact⟨rs,fnW hf hx hb hok hl ht hrv ⟨.normal,st,h1,rs,hp',h3,rfl⟩,h4⟩
 |ret=>obtain⟨rs,hp',h3,h4⟩:=h2;exact⟨rs,fnW hf hx hb hok hl ht hrv ⟨.ret,st,h1,rs,hp',h3,rfl⟩,h4⟩
end
/-! ### rules for code in sequence -/
section
variable {P:Program}{E:Cfg}{k:Nat}{call:Orc}{a b c d:Code}{st st':AS}{Q:Ex→AS→Prop}{id:Nat}{ops:Array Oper}{fs:List Foot}
theorem W_rd (h:runDraw P E.dry k call ops ops.toList st []=some (st',fs))(hs:drawS ops=true)(hf:drawF ops fs=true)(hq:Q .normal st'):W P E k call (.region id ops true) st Q:=
 W_of (n:=1) (by simp[evC,evRegion,h,hs,hf]) hq
theorem W_srd (h:runDraw P E.dry k call ops ops.toList st []=some (st',fs))(hs:drawS ops=true)(hf:drawF ops fs=true)(hb:W P E k call b st' Q):W P E k call (.seq (.region id ops true) b) st Q:=W_seq (W_rd h hs hf hb)
theorem W_seq_inv (h:W P E k call (.seq a b) st Q):W P E k call a st (thenW (fun s=>W P E k call b s Q) Q):=by
 rcases W_cases h with⟨n,e,s,h1,_,h2⟩|⟨n,v,hp',h1,h2⟩
 ·cases n with
  |zero=>simp[evC] at h1
  |succ n=>
   simp only[evC] at h1
   cases ha:evC P E k call n a st with
   |none=>rw[ha] at h1;cases h1
   |some r=>
    obtain⟨ea,sa⟩:=r
    rw[ha] at h1
    cases ea with
    |normal=>exact W_of ha (show W P E k call b sa Q from W_of h1 h2)
    |exit i=>cases h1;exact W_of ha h2
    |ret=>cases h1;exact W_of ha h2
    |panic v=>exact(evC_np _ _ _ _ _ ha).elim
 ·cases h1 with
  |seqL h3=>exact W_pan h3 h2
  |seqR h3 h4=>exact W_of h3 (show W P E k call b _ Q from W_pan h4 h2)
theorem W_ss (h:W P E k call (.seq a (.seq b c)) st Q):W P E k call (.seq (.seq a b) c) st Q:=by
 refine W_seq (W_seq ((W_seq_inv h).mono fun e s hs=>?_))
 cases e with
 |normal=>exact(W_seq_inv hs).mono fun e s hs=>by cases e<;>exact hs
 |exit i=>exact hs
 |ret=>exact hs
 |panic v=>exact hs
theorem W_sc {x:Operand}{t:Bool}(hc:opA st.fr x= .sc (.bool t))(h1:t=true→t=true→W P E k call (.seq a d) st Q)(h2:t=false→t=false→W P E k call (.seq b d) st Q):W P E k call (.seq (.cond x a b) d) st Q:=by
 refine W_seq (W_cond hc ?_)
 cases t with
 |true=>exact W_seq_inv (h1 rfl rfl)
 |false=>exact W_seq_inv (h2 rfl rfl)
theorem W_c {x:Operand}{t:Bool}(hc:opA st.fr x= .sc (.bool t))(h1:t=true→t=true→W P E k call a st Q)(h2:t=false→t=false→W P E k call b st Q):W P E k call (.cond x a b) st Q:=by
 refine W_cond hc ?_
 cases t with
 |true=>exact h1 rfl rfl
 |false=>exact h2 rfl rfl
theorem W_sskip (h:W P E k call b st Q):W P E k call (.seq .skip b) st Q:=W_seq (W_skip h)
theorem W_slabel {l:Nat}(h:W P E k call b st Q):W P E k call (.seq (.label l) b) st Q:=W_seq (W_label h)
theorem W_sret (h:Q .ret st):W P E k call (.seq .ret b) st Q:=W_seq (W_ret h)
theorem W_sexit (h:Q (.exit id) st):W P E k call (.seq (.exit id) b) st Q:=W_seq (W_exit h)
theorem W_sblock (h:W P E k call a st (inBlockW id (thenW (fun s=>W P E k call b s Q) Q))):W P E k call (.seq (.block id a) b) st Q:=W_seq (W_block h)
end
theorem W_loopS {P:Program}{E:Cfg}{k:Nat}{call:Orc}{c:Code}{st:AS}{Q:Ex→AS→Prop}(I:AS→Nat→AS→Prop){n:Nat}(h0:I st n st)(round: ∀n s,I st n s→W P E k call c s (thenW (fun s'=> ∃m,m<n∧I st m s') Q)):W P E k call (.loop c) st Q:=
 W_loop (I st) h0 round
theorem lim_hpcW {P:Program}{E:Cfg}{X:Orc}{f k d:Nat}{fn:Func}{c:Code}{args:List AV}{hp:Hp}{rvs:List ResultVar}{R:AV→Hp→Prop}(hf:P.funcs[f]?=some fn)(hx:X.hpc k d f args hp=none)(hb:fn.body=some c)(hok:bodyOk fn=true)(hl:args.length=fn.params.size+fn.nfree)
  (hrv:fn.results.toList=rvs) (h:W P E (k+1) (lim P E X) c ⟨frame0 args,hp⟩ fun e st=>e.fine=true∧ ∃v hp',(lowerRes P st.fr k d rvs).run st.hp=some (v,hp')∧R v hp') (hi:E.inl f=false:=by first|rfl|simp) (hz:E.frz f=false:=by first|rfl|simp): ∃v hp',(lim P E X).hpc k d f args hp=some (v,hp')∧R v hp':=by
 rcases W_cases h with⟨n,e,st,h1,_,hne,v,hp',h2,h3⟩|⟨n,v,hp',h1,h2,_⟩
 ·refine⟨v,hp',lim_fnH (n:=n) hf hx ?_ hi hz,h3⟩
  unfold evFnH
  rw[hb,hrv]
  simp only[hok,hl,beq_self_eq_true,Bool.and_self,if_true]
  rw[h1]
  cases e with
  |exit i=>simp[Ex.fine] at hne
  |panic v=>simp[Ex.fine] at hne
  |normal=>exact h2
  |ret=>exact h2
 ·simp[Ex.fine] at h2
theorem lim_hpcZ {P:Program}{E:Cfg}{X:Orc}{f k d:Nat}{fn:Func}{c:Code}{args:List AV}{hp:Hp}{rvs:List ResultVar}{ts:List TypeId}{R:AV→Hp→Prop}(hf:P.funcs[f]?=some fn)(hx:X.hpc k d f args hp=none)(hb:fn.body=some c)(hok:bodyOk fn=true)(hl:args.length=fn.params.size+fn.nfree)
  (hrv:fn.results.toList=rvs) (ht:rtys P f=ts) (h:W P E (k+1) (lim P E X) c ⟨frame0 args,hp⟩ fun e st=>e.fine=true∧ ∃v hp',(frzRes P st.fr ts rvs).run st.hp=some (v,hp')∧R v hp') (hi:E.inl f=false:=by first|rfl|simp) (hz:E.frz f=true:=by first|rfl|simp): ∃v hp',(lim P E X).hpc k d f args hp=some (v,hp')∧R v hp':=by
 have hts:fn.resultTypes.toList=ts:=by rw[←ht];simp[rtys,hf]
 rcases W_cases h with⟨n,e,st,h1,_,hne,v,hp',h2,h3⟩|⟨n,v,hp',h1,h2,_⟩
 ·refine⟨v,hp',lim_fnZ (n:=n) hf hx ?_ hi hz,h3⟩
  unfold evFnZ
  rw[hb,hrv,hts]
  simp only[hok,hl,beq_self_eq_true,Bool.and_self,if_true]
  rw[h1]
  cases e with
  |exit i=>simp[Ex.fine] at hne
  |panic v=>simp[Ex.fine] at hne
  |normal=>exact h2
  |ret=>exact h2
 ·simp[Ex.fine] at h2
def EndB (P:Program)(k d:Nat)(rvs:List ResultVar)(R:AV→Hp→Prop)(PR:Value→Hp→Prop):Ex→AS→Prop
 | .exit _,_=>False
 | .panic v,st=>PR v st.hp
 |_,st=> ∃v hp',(lowerRes P st.fr k d rvs).run st.hp=some (v,hp')∧R v hp'
theorem lim_hpcB {P:Program}{E:Cfg}{X:Orc}{f k d:Nat}{fn:Func}{c:Code}{args:List AV}{hp:Hp}{rvs:List ResultVar}{R:AV→Hp→Prop}{PR:Value→Hp→Prop}(hf:P.funcs[f]?=some fn)(hx:X.hpc k d f args hp=none)(hb:fn.body=some c)(hok:bodyOk fn=true)(hl:args.length=fn.params.size+fn.nfree)
  (hrv:fn.results.toList=rvs) (h:W P E (k+1) (lim P E X) c ⟨frame0 args,hp⟩ (EndB P k d rvs R PR)) (hi:E.inl f=false:=by first|rfl|simp) (hz:E.frz f=false:=by first|rfl|simp):
  (∃v hp',(lim P E X).hpc k d f args hp=some (v,hp')∧R v hp')∨ ∃n v hp',Pan P E (lim P E X) (.fn k f args hp) n v hp'∧PR v hp':=by
 rcases W_cases h with⟨n,e,st,h1,hnp,h2⟩|⟨n,v,hp',h1,h2⟩
 ·left
  have key:e.fine=true∧ ∃v hp',(lowerRes P st.fr k d rvs).run st.hp=some (v,hp')∧R v hp':=by
   cases e with
   |exit i=>exact h2.elim
   |panic v=>exact(hnp v rfl).elim
   |normal=>exact⟨rfl,h2⟩
   |ret=>exact⟨rfl,h2⟩
  exact lim_hpcW hf hx hb hok hl hrv (W_of h1 key) hi hz
 ·exact .inr ⟨n+1,v,hp',.fn hf hb hok hl h1,h2⟩
def EndBZ (P:Program)(ts:List TypeId)(rvs:List ResultVar)(R:AV→Hp→Prop)(PR:Value→Hp→Prop):Ex→AS→Prop
 | .exit _,_=>False
 | .panic v,st=>PR v st.hp
 |_,st=> ∃v hp',(frzRes P st.fr ts rvs).run st.hp=some (v,hp')∧R v hp'
theorem lim_hpcBZ {P:Program}{E:Cfg}{X:Orc}{f k d:Nat}{fn:Func}{c:Code}{args:List AV}{hp:Hp}{rvs:List ResultVar}{ts:List TypeId}{R:AV→Hp→Prop}{PR:Value→Hp→Prop}(hf:P.funcs[f]?=some fn)(hx:X.hpc k d f args hp=none)(hb:fn.body=some c)(hok:bodyOk fn=true)(hl:args.length=fn.params.size+fn.nfree)
  (hrv:fn.results.toList=rvs) (ht:rtys P f=ts) (h:W P E (k+1) (lim P E X) c ⟨frame0 args,hp⟩ (EndBZ P ts rvs R PR)) (hi:E.inl f=false:=by first|rfl|simp) (hz:E.frz f=true:=by first|rfl|simp):
  (∃v hp',(lim P E X).hpc k d f args hp=some (v,hp')∧R v hp')∨ ∃n v hp',Pan P E (lim P E X) (.fn k f args hp) n v hp'∧PR v hp':=by
 rcases W_cases h with⟨n,e,st,h1,hnp,h2⟩|⟨n,v,hp',h1,h2⟩
 ·left
  have key:e.fine=true∧ ∃v hp',(frzRes P st.fr ts rvs).run st.hp=some (v,hp')∧R v hp':=by
   cases e with
   |exit i=>exact h2.elim
   |panic v=>exact(hnp v rfl).elim
   |normal=>exact⟨rfl,h2⟩
   |ret=>exact⟨rfl,h2⟩
  exact lim_hpcZ hf hx hb hok hl hrv ht (W_of h1 key) hi hz
 ·exact .inr ⟨n+1,v,hp',.fn hf hb hok hl h1,h2⟩
theorem wrap64 {n:Int}(h1: -9223372036854775808≤n)(h2:n≤9223372036854775807):IntKind.i64.wrap n=n:=IntWalk.i64_in n ⟨h1,h2⟩
/-! ### one operation at a time -/
section
variable {P:Program}{E:Cfg}{k:Nat}{call:Orc}{all:Array Oper}{os l:List Oper}{fr:Nat→AV}{hp hp':Hp}{Q:AS→Prop}{d d' j id:Nat}{op:Op}{ty:TypeId}{pos:String}{aft:Array Edge}{v:AV}{b c:Bool}{fs:List Foot}{R W':List Facet}{st:AS}{B:Code}{QQ:Ex→AS→Prop}{PQ:Value→Hp→Prop}
theorem W_srl (h:Wo P E k call l.toArray l st (fun s=>W P E k call B s QQ) (panQ QQ)):W P E k call (.seq (.region id l.toArray false) B) st QQ:=by
 refine W_seq (W_region ?_)
 rcases h with⟨st',h1,h2⟩|⟨n,v,hp',h1,h2⟩
 ·exact .inl ⟨st',by simpa using h1,h2⟩
 ·exact .inr ⟨n,v,hp',by simpa using h1,h2⟩
theorem W_rl (h:Wo P E k call l.toArray l st (QQ .normal) (panQ QQ)):W P E k call (.region id l.toArray false) st QQ:=by
 refine W_region ?_
 rcases h with⟨st',h1,h2⟩|⟨n,v,hp',h1,h2⟩
 ·exact .inl ⟨st',by simpa using h1,h2⟩
 ·exact .inr ⟨n,v,hp',by simpa using h1,h2⟩
theorem Wo_u (h:(evOp P E k call fr ⟨some d,op,ty,pos,aft,none⟩).run hp=some (v,hp'))(r:Wo P E k call all os ⟨setd fr (some d) v,hp'⟩ Q PQ):Wo P E k call all (⟨some d,op,ty,pos,aft,none⟩::os) ⟨fr,hp⟩ Q PQ:=Wo_cons rfl ⟨v,hp',h,r⟩
theorem Wo_n (h:(evOp P E k call fr ⟨none,op,ty,pos,aft,none⟩).run hp=some (v,hp'))(r:Wo P E k call all os ⟨fr,hp'⟩ Q PQ):Wo P E k call all (⟨none,op,ty,pos,aft,none⟩::os) ⟨fr,hp⟩ Q PQ:=Wo_cons rfl ⟨v,hp',h,r⟩
theorem Wo_gsT (hd:(all[j]?).bind (·.dst)=some d')(hc:fr d'= .sc (.bool c))(ht:c=true→c=true→ ∃v hp',(evOp P E k call fr ⟨some d,op,ty,pos,aft,some (j,true)⟩).run hp=some (v,hp')∧Wo P E k call all os ⟨setd fr (some d) v,hp'⟩ Q PQ)
  (hf:c=false→c=false→Wo P E k call all os ⟨setd fr (some d) (.sc undef),hp⟩ Q PQ):Wo P E k call all (⟨some d,op,ty,pos,aft,some (j,true)⟩::os) ⟨fr,hp⟩ Q PQ:=by
 cases c with
 |true=>
  obtain⟨v,hp',h,r⟩:=ht rfl rfl
  exact Wo_cons (by simp only[guardA,hd,hc,beq_self_eq_true]) ⟨v,hp',h,r⟩
 |false=>exact Wo_skip (by simp only[guardA,hd,hc];rfl) (hf rfl rfl)
theorem Wo_gsF (hd:(all[j]?).bind (·.dst)=some d')(hc:fr d'= .sc (.bool c))(ht:c=false→c=false→ ∃v hp',(evOp P E k call fr ⟨some d,op,ty,pos,aft,some (j,false)⟩).run hp=some (v,hp')∧Wo P E k call all os ⟨setd fr (some d) v,hp'⟩ Q PQ)
  (hf:c=true→c=true→Wo P E k call all os ⟨setd fr (some d) (.sc undef),hp⟩ Q PQ):Wo P E k call all (⟨some d,op,ty,pos,aft,some (j,false)⟩::os) ⟨fr,hp⟩ Q PQ:=by
 cases c with
 |false=>
  obtain⟨v,hp',h,r⟩:=ht rfl rfl
  exact Wo_cons (by simp only[guardA,hd,hc,beq_self_eq_true]) ⟨v,hp',h,r⟩
 |true=>exact Wo_skip (by simp only[guardA,hd,hc];rfl) (hf rfl rfl)
theorem Wo_gt (hd:(all[j]?).bind (·.dst)=some d')(hc:fr d'= .sc (.bool b))(h:(evOp P E k call fr ⟨some d,op,ty,pos,aft,some (j,b)⟩).run hp=some (v,hp'))(r:Wo P E k call all os ⟨setd fr (some d) v,hp'⟩ Q PQ):Wo P E k call all (⟨some d,op,ty,pos,aft,some (j,b)⟩::os) ⟨fr,hp⟩ Q PQ:=
 Wo_cons (by simp only[guardA,hd,hc,beq_self_eq_true]) ⟨v,hp',h,r⟩
theorem Wo_gf (hd:(all[j]?).bind (·.dst)=some d')(hc:fr d'= .sc (.bool c))(hcb:(c==b)=false)(r:Wo P E k call all os ⟨setd fr (some d) (.sc undef),hp⟩ Q PQ):Wo P E k call all (⟨some d,op,ty,pos,aft,some (j,b)⟩::os) ⟨fr,hp⟩ Q PQ:=
 Wo_skip (by simp only[guardA,hd,hc,hcb]) r
theorem Wo_gx {us:List Value}(hd:(all[j]?).bind (·.dst)=some d')(hc:fr d'= .sc (.tuple ⟨us⟩))(r:Wo P E k call all os ⟨setd fr (some d) (.sc undef),hp⟩ Q PQ):Wo P E k call all (⟨some d,op,ty,pos,aft,some (j,b)⟩::os) ⟨fr,hp⟩ Q PQ:=
 Wo_skip (by simp only[guardA,hd,hc]) r
theorem Wo_pc {dd:Option Nat}{x:Operand}{args:Array Operand}{ats:Array TypeId}{f:Nat}{cs:List AV}(hx:opA fr x= .fn f cs)(hok:okFn P f=true)(hlt:f<1000000)
  (h:(∃v hp',(evOp P E k call fr ⟨dd,.call ⟨.value x,args,ats⟩,ty,pos,aft,none⟩).run hp=some (v,hp')∧Wo P E k call all os ⟨setd fr dd v,hp'⟩ Q PQ)∨ ∃n v hp',Pan P E call (.fn k f (args.toList.map (opA fr)++cs) hp) n v hp'∧PQ v hp'):
  Wo P E k call all (⟨dd,.call ⟨.value x,args,ats⟩,ty,pos,aft,none⟩::os) ⟨fr,hp⟩ Q PQ:=by
 rcases h with⟨v,hp',h1,h2⟩|⟨n,v,hp',h1,h2⟩
 ·exact Wo_cons rfl ⟨v,hp',h1,h2⟩
 ·exact .inr ⟨n+1,v,hp',.call rfl rfl hx hok hlt h1,h2⟩
theorem Wo_panic {dd:Option Nat}{x:Operand}{t:TypeId}{u:Value}(hx:opA fr x= .sc (.iface t u))(h:PQ (.iface t u) hp):Wo P E k call all (⟨dd,.panic x,ty,pos,aft,none⟩::os) ⟨fr,hp⟩ Q PQ:=
 .inr ⟨1,_,_,.panic (n:=0) rfl rfl hx,h⟩
def Wd (P:Program)(E:Cfg)(k:Nat)(call:Orc)(all:Array Oper)(os:List Oper)(st:AS)(fs:List Foot)(Q:AS→Prop):Prop:= ∃st' fs',runDraw P E k call all os st fs=some (st',fs')∧drawF all fs'=true∧Q st'
theorem W_srdl (hs:drawS l.toArray=true)(h:Wd P E.dry k call l.toArray l st [] (fun s=>W P E k call B s QQ)):W P E k call (.seq (.region id l.toArray true) B) st QQ:=by
 obtain⟨st',fs',h1,h2,h3⟩:=h
 exact W_srd (by simpa using h1) hs h2 h3
theorem W_rdl (hs:drawS l.toArray=true)(h:Wd P E.dry k call l.toArray l st [] (QQ .normal)):W P E k call (.region id l.toArray true) st QQ:=by
 obtain⟨st',fs',h1,h2,h3⟩:=h
 exact W_rd (by simpa using h1) hs h2 h3
theorem Wd_nil (hf:drawF all fs.reverse=true)(q:Q st):Wd P E k call all [] st fs Q:=⟨st,fs.reverse,rfl,hf,q⟩
theorem Wd_u (h:(evOp P E k call fr ⟨some d,op,ty,pos,aft,none⟩).runF hp [] []=some (v,hp',R,W'))(r:Wd P E k call all os ⟨setd fr (some d) v,hp'⟩ (⟨R,refW E k hp hp' W'⟩::fs) Q):Wd P E k call all (⟨some d,op,ty,pos,aft,none⟩::os) ⟨fr,hp⟩ fs Q:=by
 obtain⟨st',fs',h1,h2⟩:=r
 exact⟨st',fs',by simp only[runDraw,stepF,guardA,h];exact h1,h2⟩
theorem Wd_n (h:(evOp P E k call fr ⟨none,op,ty,pos,aft,none⟩).runF hp [] []=some (v,hp',R,W'))(r:Wd P E k call all os ⟨fr,hp'⟩ (⟨R,refW E k hp hp' W'⟩::fs) Q):Wd P E k call all (⟨none,op,ty,pos,aft,none⟩::os) ⟨fr,hp⟩ fs Q:=by
 obtain⟨st',fs',h1,h2⟩:=r
 exact⟨st',fs',by simp only[runDraw,stepF,guardA,h];exact h1,h2⟩
theorem Wd_gsT (hd:(all[j]?).bind (·.dst)=some d')(hc:fr d'= .sc (.bool c))(ht:c=true→c=true→ ∃v hp' R W',(evOp P E k call fr ⟨some d,op,ty,pos,aft,some (j,true)⟩).runF hp [] []=some (v,hp',R,W')∧Wd P E k call all os ⟨setd fr (some d) v,hp'⟩ (⟨R,refW E k hp hp' W'⟩::fs) Q)
  (hf:c=false→c=false→Wd P E k call all os ⟨setd fr (some d) (.sc undef),hp⟩ (⟨[],[]⟩::fs) Q):Wd P E k call all (⟨some d,op,ty,pos,aft,some (j,true)⟩::os) ⟨fr,hp⟩ fs Q:=by
 cases c with
 |true=>
  obtain⟨v,hp',R,W',h,st',fs',h1,h2⟩:=ht rfl rfl
  exact⟨st',fs',by simp only[runDraw,stepF,guardA,hd,hc,h,beq_self_eq_true];exact h1,h2⟩
 |false=>
  obtain⟨st',fs',h1,h2⟩:=hf rfl rfl
  exact⟨st',fs',by simp only[runDraw,stepF,guardA,hd,hc];exact h1,h2⟩
theorem Wd_gsF (hd:(all[j]?).bind (·.dst)=some d')(hc:fr d'= .sc (.bool c))(ht:c=false→c=false→ ∃v hp' R W',(evOp P E k call fr ⟨some d,op,ty,pos,aft,some (j,false)⟩).runF hp [] []=some (v,hp',R,W')∧Wd P E k call all os ⟨setd fr (some d) v,hp'⟩ (⟨R,refW E k hp hp' W'⟩::fs) Q)
  (hf:c=true→c=true→Wd P E k call all os ⟨setd fr (some d) (.sc undef),hp⟩ (⟨[],[]⟩::fs) Q):Wd P E k call all (⟨some d,op,ty,pos,aft,some (j,false)⟩::os) ⟨fr,hp⟩ fs Q:=by
 cases c with
 |false=>
  obtain⟨v,hp',R,W',h,st',fs',h1,h2⟩:=ht rfl rfl
  exact⟨st',fs',by simp only[runDraw,stepF,guardA,hd,hc,h,beq_self_eq_true];exact h1,h2⟩
 |true=>
  obtain⟨st',fs',h1,h2⟩:=hf rfl rfl
  exact⟨st',fs',by simp only[runDraw,stepF,guardA,hd,hc];exact h1,h2⟩
theorem ex2 {α β:Type}{p:Option (α×β)}{G:α→β→Prop}{v:α}{h:β}(e:p=some (v,h))(g:G v h): ∃v h,p=some (v,h)∧G v h:=⟨v,h,e,g⟩
theorem ex4 {α β γ δ:Type}{p:Option (α×β×γ×δ)}{G:α→β→γ→δ→Prop}{v:α}{h:β}{r:γ}{w:δ}(e:p=some (v,h,r,w))(g:G v h r w): ∃v h r w,p=some (v,h,r,w)∧G v h r w:=⟨v,h,r,w,e,g⟩
end
/-! ### rules for the symbolic end -/
theorem thenW_n {N:AS→Prop}{Q:Ex→AS→Prop}{s:AS}(h:N s):thenW N Q .normal s:=h
theorem thenW_r {N:AS→Prop}{Q:Ex→AS→Prop}{s:AS}(h:Q .ret s):thenW N Q .ret s:=h
theorem thenW_p {N:AS→Prop}{Q:Ex→AS→Prop}{s:AS}{v:Value}(h:Q (.panic v) s):thenW N Q (.panic v) s:=h
theorem thenW_e {N:AS→Prop}{Q:Ex→AS→Prop}{s:AS}{i:Nat}(h:Q (.exit i) s):thenW N Q (.exit i) s:=h
theorem inB_n {Q:Ex→AS→Prop}{s:AS}{i:Nat}(h:Q .normal s):inBlockW i Q .normal s:=h
theorem inB_r {Q:Ex→AS→Prop}{s:AS}{i:Nat}(h:Q .ret s):inBlockW i Q .ret s:=h
theorem inB_p {Q:Ex→AS→Prop}{s:AS}{i:Nat}{v:Value}(h:Q (.panic v) s):inBlockW i Q (.panic v) s:=h
theorem inB_e {Q:Ex→AS→Prop}{s:AS}{i:Nat}(h:Q .normal s):inBlockW i Q (.exit i) s:=by simp[inBlockW,h]
theorem inB_o {Q:Ex→AS→Prop}{s:AS}{i j:Nat}(h:Q (.exit i) s)(hne:(i==j)=false):inBlockW j Q (.exit i) s:=by
 have:i≠j:=by simpa using hne
 simp[inBlockW,this,h]
@[simp] theorem setd_app (fr:Nat→AV)(d i:Nat)(v:AV):setd fr (some d) v i=if i=d then v else fr i:=rfl
@[simp] theorem setd_none (fr:Nat→AV)(v:AV):setd fr none v=fr:=rfl
@[simp] theorem run_ret {α:Type}(a:α)(hp:Hp):(Prog.ret a).run hp=some (a,hp):=rfl
attribute [simp] run_bind
@[simp] theorem run_get {α:Type}(x:Nm)(f:AObj→Prog α)(hp:Hp):(Prog.get x f).run hp=(f (hp x)).run hp:=rfl
@[simp] theorem run_put {α:Type}(x:Nm)(o:AObj)(p:Prog α)(hp:Hp):(Prog.put x o p).run hp=p.run (upd hp x o):=rfl
@[simp] theorem run_hdr {α:Type}(x:Nm)(f:Head→Prog α)(hp:Hp):(Prog.hdr x f).run hp=(f (hp x).head).run hp:=rfl
@[simp] theorem upd_app {α:Type}(hp:Nm→α)(x y:Nm)(o:α):upd hp x o y=if y=x then o else hp y:=rfl
@[simp] theorem upd_upd {α:Type}(hp:Nm→α)(x:Nm)(o o':α):upd (upd hp x o) x o'=upd hp x o':=by
 funext y
 simp only[upd]
 split<;>rfl
@[simp] theorem Cfg.dry_off (E:Cfg):E.dry.off=E.off:=rfl
@[simp] theorem Cfg.dry_frz (E:Cfg)(f:Nat):E.dry.frz f=E.frz f:=rfl
@[simp] theorem Cfg.at_frz (E:Cfg)(o f:Nat):(E.at o).frz f=E.frz f:=rfl
@[simp] theorem Cfg.dry_inl (E:Cfg)(f:Nat):E.dry.inl f=E.inl f:=rfl
@[simp] theorem Cfg.at_off (E:Cfg)(o:Nat):(E.at o).off=o:=rfl
@[simp] theorem Cfg.at_hp (E:Cfg)(o f:Nat):(E.at o).hp f=E.hp f:=rfl
@[simp] theorem Cfg.at_eq (E:Cfg)(o:Nat)(t:TypeId):(E.at o).eq t=E.eq t:=rfl
@[simp] theorem Cfg.at_yl (E:Cfg)(o l:Nat):(E.at o).yl l=E.yl l:=rfl
@[simp] theorem Cfg.at_inl (E:Cfg)(o f:Nat):(E.at o).inl f=E.inl f:=rfl
@[simp] theorem Cfg.dry_hp (E:Cfg)(f:Nat):E.dry.hp f=E.hp f:=rfl
@[simp] theorem Cfg.dry_bx (E:Cfg)(t:TypeId):E.dry.bx t=E.bx t:=rfl
@[simp] theorem Cfg.dry_eq (E:Cfg)(t:TypeId):E.dry.eq t=E.eq t:=rfl
@[simp] theorem Cfg.dry_yl (E:Cfg)(l:Nat):E.dry.yl l=false:=rfl
end
section
open Go
attribute [simp] Prog.run Prog.bind evOps guardA evOp opA assignP evBin evInt evStr evUn newBox settleL settle newArr loadP cellsFrom getCs putCs storeP shiftA fieldP indexP lenP chk chkL cellsA aggA allSc toDat toDatL callP argsP oneV takeRes takeAll takeOne takeL takeCell resultsP resultP hand handL handCell sliceP bound rowsP fnN fnA appendP appR appR1 appendBP cellsBP lenB tgtB growBP copyP makeP makeBP fillA buildP rowsOfParts buildSliceP partA fieldVP indexVP convertP bytesOfRows eqV eqL cellFits fitsL splice chunks isDat isDat0 capD capDL ownD ownDL escC escL moveB lowerC inlRes inlAll frzRes packV mapT keyOk keyEq keyA plainL mapRows zeroV lookupP insertP boxSliceP liveA scalars notIface chkC chkCs cellOf setCellOf runDraw stepF Prog.runF frame0 Value.oneCell'
@[simp] theorem gen_no (g:Nat):(AObj.no g).gen=g:=(rfl)
@[simp] theorem gen_box (g:Nat)(c:List AV)(f:Bool):(AObj.box g c f).gen=g:=(rfl)
@[simp] theorem gen_arr (g sz:Nat)(e:TypeId)(r:List (List AV))(f:Bool):(AObj.arr g sz e r f).gen=g:=(rfl)
@[simp] theorem gen_map (g:Nat)(a:Bool)(ks:List Value)(r:List (List AV))(f:Bool):(AObj.map g a ks r f).gen=g:=(rfl)
@[simp] theorem head_map (g:Nat)(a:Bool)(ks:List Value)(r:List (List AV))(f:Bool):(AObj.map g a ks r f).head= .map g f:=(rfl)
@[simp] theorem head_no (g:Nat):(AObj.no g).head= .no:=(rfl)
@[simp] theorem head_box (g:Nat)(c:List AV)(f:Bool):(AObj.box g c f).head= .box g c.length f:=(rfl)
@[simp] theorem head_arr (g sz:Nat)(e:TypeId)(r:List (List AV))(f:Bool):(AObj.arr g sz e r f).head= .arr g sz e r.length f:=(rfl)
@[simp] theorem hp0_app (x:Nm):hp0 x= .no 0:=rfl
@[simp] theorem maxLen_eq :maxLen=9223372036854775807:=rfl
end
end Go.Ab
