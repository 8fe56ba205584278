/- A part of the proof: Ab36, Ab37. -/
import Derived.Test.YtpedpkegmalgmaaGreatDoorZ09
import Derived.WideKeyEntry
set_option linter.unusedSimpArgs false
set_option linter.unusedVariables false
namespace Go.Ab
section
open Go
section
variable {P:Program}{E:Cfg}{call:Orc}
theorem sem_split (hm:P.follows .mixedOrders=true)(hE:ELaw P E)(hC:OrcOk P call){f:Nat}{fn:Func}(hfn:P.funcs[f]?=some fn){cs:List Code}{y z:Code}{args rs:List AV}(hb:fn.body=some (chain cs (.seq y z)))(hbo:bodyOk fn=true)
  (hlen:args.length=fn.params.size+fn.nfree) {ts:List TypeId} {rvs:List ResultVar} (hrt0:rtys P f=ts) (hrv:fn.results.toList=rvs) {F F':AS→Prop}
  (h1:Wch P E 0 call (fun _ _=>False) F cs ⟨frame0 args,hp0⟩) (hsl:(∀c∈cs,slotsIn fn.ntmps c=true)∧slotsIn fn.ntmps z=true)
  (hy: ∀(K:Nat→Prop) (B:Base) (st:AS) (a:Act) (w:World) (Q:Exit→Act→World→Prop),F st→StR 0 fn.ntmps K B st a w→(∀st' a' w',F' st'→StR 0 fn.ntmps K B st' a' w'→Q .normal a' w')→y.wp P Q a w)
  (h2: ∀st,F' st→W P E 0 call z st (EndQ P ts rvs (· =rs))):SemD P f args rs:=by
 intro hok I w us hI hgl ha
 unfold bodyOk at hbo
 rw[hb] at hbo
 simp only[Bool.and_eq_true,decide_eq_true_eq] at hbo
 obtain⟨⟨hs1,hs2⟩,hs3⟩:=hbo
 have hus:us.length=fn.params.size+fn.nfree:=by rw[←ha.1];exact hlen
 have hrt:rtys P f=fn.resultTypes.toList:=by simp[rtys,hfn]
 refine calls_of_wp hfn hb ?_
 have S0:StR 0 fn.ntmps (fun b=>b<w.heap.size∧ ¬I b) ⟨I,fun _=>none,hp0,w,[]⟩ ⟨frame0 args,hp0⟩ {tmps:=(⟨us⟩:Array Value)++Array.replicate (fn.ntmps - (⟨us⟩:Array Value).size) undef,defers:=[]} w:=by
  refine⟨I,fun _=>none,⟨fun x=>trivial,fun x y p q hl=>by simp[hp0,AObj.live] at hl,hI,fun b hb=>hb.1,fun b hb hk=>hk.2 hb,hgl⟩,.refl _ _ _ _ _,fun t=>?_,?_,rfl⟩
  ·by_cases ht:t<us.length
   ·have ht':t<args.length:=by rw[ha.1];exact ht
    have e1:frame0 args t=args[t]:=by simp[frame0,ht']
    have e2:Act.eval {tmps:=(⟨us⟩:Array Value)++Array.replicate (fn.ntmps - (⟨us⟩:Array Value).size) undef,defers:=[]} (.tmp t)=us[t]:=by
     simp[Act.eval,Array.getElem?_append,ht]
    rw[e2]
    show Rep 0 I (fun _=>none) hp0 w (frame0 args t) _
    rw[e1]
    exact repA_rep (ha.2 t _ _ (List.getElem?_eq_getElem ht') (List.getElem?_eq_getElem ht))
   ·have ht': ¬t<args.length:=by rw[ha.1];exact ht
    have e1:frame0 args t= .sc undef:=by simp only[frame0,List.getD_eq_getElem?_getD];rw[List.getElem?_eq_none (by omega)];rfl
    have e2:Act.eval {tmps:=(⟨us⟩:Array Value)++Array.replicate (fn.ntmps - (⟨us⟩:Array Value).size) undef,defers:=[]} (.tmp t)=undef:=by
     simp only[Act.eval,Array.getD_eq_getD_getElem?,Array.getElem?_append]
     rw[if_neg (by simpa using ht),Array.getElem?_replicate]
     split<;>rfl
    rw[e2]
    show Rep 0 I (fun _=>none) hp0 w (frame0 args t) _
    rw[e1]
    simp only[Rep]
  ·simp only[Array.size_append,List.size_toArray,Array.size_replicate]
   omega
 have fin: ∀(st:AS) (hpf:Hp),(resultsP P st.fr ts rvs).run st.hp=some (rs,hpf)→ ∀a' w',StR 0 fn.ntmps (fun b=>b<w.heap.size∧ ¬I b) ⟨I,fun _=>none,hp0,w,[]⟩ st a' w'→
   a'.defers=[]∧ ∃v,(results fn a'.tmps).run P w'= .ok v w'∧ ∃u,Ending.returned v= .returned u∧CallPost P I w (rtys P f) rs u w':=by
  intro st hpf hr a' w' S
  obtain⟨I1,m1,G1,E1,hf1,_,hd1⟩:=S
  rw[←hrv,show ts=fn.resultTypes.toList from by rw[←hrt0,hrt]] at hr
  obtain⟨I2,bs,us',hrun,G2,E2,d2,nb,i2,l2,m2,n2⟩:=results_ok G1 hf1 hr
  refine⟨hd1,retV us',run_results fn _ us' hrun,retV us',rfl,?_⟩
  have E12:=E1.trans E2
  exact {
   old:=fun b hb=>E12.keep b (by
    by_cases hi:I b
    ·exact .inl hi
    ·exact .inr ⟨hb,hi⟩)
   size:=E12.size
   os:=E12.os
   tape:=E12.tape
   output:=E12.output
   res:=⟨I2,us',bs,rfl,E12.isub,fun b hb=>by
     by_cases hi:I b
     ·exact .inl hi
     ·exact .inr (Nat.le_of_not_lt fun hlt=>G2.ik b hb ⟨hlt,hi⟩),G2.ilt,fun b hb=>by
     refine⟨Nat.le_of_not_lt fun hlt=>?_,(nb b hb).1⟩
     by_cases hi:I b
     ·exact(nb b hb).1 (E12.isub b hi)
     ·exact(nb b hb).2 ⟨hlt,hi⟩,n2,by rw[hrt];exact d2⟩}
 refine Wch.wp hm hE hC (fun s a' w' hF S=>?_) (fun e s a' w' _ h=>h.elim) (fun v hp' a' w' h=>h.elim) cs h1 hsl.1 S0
 refine wp_seq ?_
 refine hy _ _ s a' w' _ hF S fun st' a2 w2 hF' S2=>?_
 refine W.wp hm hE hC (h2 st' hF') hsl.2 S2 (fun e s3 a3 w3 hq S3=>?_) (fun v hp' a3 w3 hq _=>hq.elim)
 cases e with
 |exit i=>exact hq.elim
 |panic v=>exact hq.elim
 |normal=>obtain⟨rs',hpf,h3,rfl⟩:=hq;exact fin s3 hpf h3 a3 w3 S3
 |ret=>obtain⟨rs',hpf,h3,rfl⟩:=hq;exact fin s3 hpf h3 a3 w3 S3
end
end
section
open Go
section
variable {P:Program}{I K:Nat→Prop}{m:Mp}{hp:Hp}{w:World}{b0:Nat}
theorem Gam.addK (G:Gam I K m hp w)(hlt:b0<w.heap.size)(hi: ¬I b0)(hl: ∀x p,(hp x).live=true→m x=some p→p.1≠b0):Gam I (fun b=>K b∨b=b0) m hp w where
 obj:=fun x=>by
  have ho:=G.obj x
  cases hx:hp x with
  |no g=>trivial
  |box g cells fz=>
   rw[hx] at ho
   obtain⟨b,c,us,T,mk,o1,o2,o3,o4,o5,o6⟩:=ho
   exact⟨b,c,us,T,mk,o1,o2,o3,o4,o5,fun hf=>⟨(o6 hf).1,fun hk=>hk.elim (o6 hf).2 fun e=>hl x _ (by rw[hx];rfl) o1 e⟩⟩
  |arr g sz e rows fz=>
   rw[hx] at ho
   rcases ho with ho|⟨b,cap,us,mk,o1,o2,o3,o4,o5,o6,o7,o8,o9⟩
   ·exact .inl ho
   ·exact .inr ⟨b,cap,us,mk,o1,o2,o3,o4,o5,o6,o7,o8,fun hf=>⟨(o9 hf).1,fun hk=>hk.elim (o9 hf).2 fun e=>hl x _ (by rw[hx];rfl) o1 e⟩⟩
  |map g ag ks rows fz=>
   rw[hx] at ho
   obtain⟨b,c,es,clock,o1,o2,o3,o4,o5,o6⟩:=ho
   exact⟨b,c,es,clock,o1,o2,o3,o4,o5,fun hf=>⟨(o6 hf).1,fun hk=>hk.elim (o6 hf).2 fun e=>hl x _ (by rw[hx];rfl) o1 e⟩⟩
 inj:=G.inj
 ilt:=G.ilt
 klt:=fun b hb=>hb.elim (G.klt b) (fun e=>e▸hlt)
 ik:=fun b hb hk=>hk.elim (G.ik b hb) fun e=>hi (e▸hb)
 gl:=G.gl
theorem Gam.notK (G:Gam I K m hp w)(hk:K b0): ∀x p,(hp x).live=true→m x=some p→p.1≠b0:=by
 intro x p hl hm e
 have ho:=G.obj x
 have key: ∀b c (fz:Bool),m x=some (b,c)→(fz=true→I b)→(fz=false→ ¬I b∧ ¬K b)→False:=by
  intro b c fz o1 o5 o6
  rw[o1] at hm;cases hm
  subst e
  cases fz with
  |true=>exact G.ik _ (o5 rfl) hk
  |false=>exact(o6 rfl).2 hk
 cases hx:hp x with
 |no g=>rw[hx] at hl;simp[AObj.live] at hl
 |box g cells fz=>
  rw[hx] at ho
  obtain⟨b,c,us,T,mk,o1,o2,o3,o4,o5,o6⟩:=ho
  exact key b c fz o1 (fun h=>(o5 h).1) o6
 |arr g sz e rows fz=>
  rw[hx] at ho
  rcases ho with⟨ho,_⟩|⟨b,cap,us,mk,o1,o2,o3,o4,o5,o6,o7,o8,o9⟩
  ·rw[ho] at hm;cases hm
  ·exact key b cap fz o1 o8 o9
 |map g ag ks rows fz=>
  rw[hx] at ho
  obtain⟨b,c,es,clock,o1,o2,o3,o4,o5,o6⟩:=ho
  exact key b c fz o1 o5 o6
theorem Gam.keptI (G:Gam I (fun b=>K b∨b=b0) m hp w)(hnk: ¬K b0):Gam (fun b=>I b∨b=b0) K m hp w∧Ext I K m hp w (fun b=>I b∨b=b0) m hp w:=by
 have E:Ext I K m hp w (fun b=>I b∨b=b0) m hp w:=
  {isub:=fun _ h=> .inl h,keep:=fun _ _=>rfl,size:=Nat.le_refl _,os:=rfl,tape:=rfl,output:=rfl,gmono:=fun _=>Nat.le_refl _,stable:=(Ext.refl I K m hp w).stable}
 refine⟨Gam.step (G.lessK fun _ h=> .inl h) E (fun _=>False) (fun y _=>⟨rfl,rfl⟩) (fun y h=>h.elim) (fun y _ _ _ _=>rfl) (fun y _ hl _ p hp hn hq=>hq.elim hn fun e=>G.notK (.inr rfl) y p hl hp e) G.inj (fun b hb=>hb.elim (G.ilt b) fun e=>e▸G.klt b0 (.inr rfl)) (fun b hb hk=>hb.elim (fun h=>G.ik b h (.inl hk)) fun e=>hnk (e▸hk)),E⟩
theorem Gam.putK (G:Gam I (fun b=>K b∨b=b0) m hp w)(hnk: ¬K b0)(o:Obj):Gam I (fun b=>K b∨b=b0) m hp (w.putObj b0 o)∧Ext I K m hp w I m hp (w.putObj b0 o):=by
 have hn:=G.notK (b0:=b0) (.inr rfl)
 have hi: ¬I b0:=fun h=>G.ik _ h (.inr rfl)
 obtain⟨G2,E2⟩:=(G.lessK (K:=K) fun _ h=> .inl h).world' (w':=w.putObj b0 o) (fun b ⟨x,p,h1,h2,h3⟩=>World.putObj_heap_other fun e=>hn x p h1 h2 (h3.trans e)) (.putObj hi hnk)
 exact⟨G2.addK (by simpa[World.putObj] using G.klt b0 (.inr rfl)) hi hn,E2⟩
/-! ### an entry -/
theorem run_mapEntry_new {t kt e:TypeId}(hmu:P.underlying t=some (.map kt e)){key:Value}(hk:keyOk P kt key=true){clock:Nat}{es:Array MapEntry}(hb:w.heap[b0]?=some (.map es clock))
  (hfk:(Instr.findKey kt key es.toList).run P w= .ok none w) {z:Value} (hz:(zeroValue e).run P w= .ok z w):(Instr.mapEntry t (.map (some b0)) key).run P w= .ok (.tuple #[z,goInt clock]) (w.putObj b0 (.map (es.push {key,val:=z,born:=clock}) (clock+1))):=by
 have hck:=run_checkKey (P:=P) hk w
 have hg:(getObj b0).run P w= .ok (.map es clock) w:=by simp[getObj,Sem.run,hb]
 have hset: ∀o,(setObj b0 o).run P w= .ok () (w.putObj b0 o):=fun o=>by simp[setObj,Sem.run,hb,World.putObj]
 simp[Instr.mapEntry,run_underlying hmu,hck,hfk,hg,hset,hz]
theorem run_mapEntry_old {t kt e:TypeId}(hmu:P.underlying t=some (.map kt e)){key:Value}(hk:keyOk P kt key=true){clock:Nat}{es:Array MapEntry}(hb:w.heap[b0]?=some (.map es clock))
  {j:Nat} {en:MapEntry} (hfk:(Instr.findKey kt key es.toList).run P w= .ok (some (j,en.val)) w) (he:es[j]?=some en) (hkey:en.key=key):(Instr.mapEntry t (.map (some b0)) key).run P w= .ok (.tuple #[en.val,goInt en.born]) (w.putObj b0 (.map es clock)):=by
 have hck:=run_checkKey (P:=P) hk w
 have hg:(getObj b0).run P w= .ok (.map es clock) w:=by simp[getObj,Sem.run,hb]
 have hset: ∀o,(setObj b0 o).run P w= .ok () (w.putObj b0 o):=fun o=>by simp[setObj,Sem.run,hb,World.putObj]
 have hsame:es.modify j (fun e=>{e with key:=key})=es:=by
  apply Array.ext'
  rw[Array.toList_modify,ChangeMaps.modify_eq_set _ _ _ _ (by simpa using he)]
  have:({en with key:=key}:MapEntry)=en:=by rw[←hkey]
  rw[this]
  exact WideElems.set_self _ _ _ (by simpa using he)
 simp[Instr.mapEntry,run_underlying hmu,hck,hfk,hg,hset,Instr.keyThatStays,he,hkey,sameBits_key hk,hsame]
theorem run_entryStore {t:TypeId}{clock j st:Nat}{es:Array MapEntry}{v:Value}(hb:w.heap[b0]?=some (.map es clock))(hf:es.findIdx? (fun e=>((e.born:Nat):Int)==((st:Nat):Int))=some j):
  (Instr.entryStore t (.map (some b0)) (goInt st) v).run P w= .ok () (w.putObj b0 (.map (es.modify j fun e=>{e with val:=v}) clock)):=by
 have hg:(getObj b0).run P w= .ok (.map es clock) w:=by simp[getObj,Sem.run,hb]
 have hset: ∀o,(setObj b0 o).run P w= .ok () (w.putObj b0 o):=fun o=>by simp[setObj,Sem.run,hb,World.putObj]
 simp[Instr.entryStore,hg,hset,asInt,asIntOf,goInt,hf]
structure MapR (I:Nat→Prop)(m:Mp)(hp:Hp)(w:World)(nm:Nat→Nm)(sz:Nat)(e:TypeId)(ms:List (Value×List (List AV)))(es:List MapEntry):Prop where
 len:es.length=ms.length
 at': ∀j k rows,ms[j]?=some (k,rows)→ ∃en g,es[j]?=some en∧en.key=k∧hp (nm j)= .arr g sz e rows false∧Rep 0 I m hp w (.own (nm j) g rows.length) en.val
structure Born (es:Array MapEntry)(clock:Nat):Prop where
 lt: ∀x∈es.toList,x.born<clock
 nd:(es.toList.map (·.born)).Nodup
def addG (key:Value)(row:List AV)(ms:List (Value×List (List AV))):List (Value×List (List AV)):=match findK key (ms.map (·.1)) 0 with
 |some (some j)=>ms.modify j fun p=>(p.1,p.2++[row])
 |_=>ms++[(key,[row])]
theorem MapR.keys {nm:Nat→Nm}{sz:Nat}{e:TypeId}{ms:List (Value×List (List AV))}{es:List MapEntry}(M:MapR I m hp w nm sz e ms es):es.map (·.key)=ms.map (·.1):=by
 apply List.ext_getElem?
 intro j
 rw[List.getElem?_map,List.getElem?_map]
 cases h:ms[j]? with
 |none=>rw[List.getElem?_eq_none_iff] at h;rw[List.getElem?_eq_none_iff.2 (by rw[M.len];exact h)];rfl
 |some p=>
  obtain⟨en,g,h1,h2,_⟩:=M.at' j p.1 p.2 h
  rw[h1]
  simp[h2]
theorem MapR.mono {I' K':Nat→Prop}{m':Mp}{hp':Hp}{w':World}{nm:Nat→Nm}{sz:Nat}{e:TypeId}{ms:List (Value×List (List AV))}{es:List MapEntry}(M:MapR I m hp w nm sz e ms es)(E:Ext I K' m hp w I' m' hp' w')(hh: ∀j,hp' (nm j)=hp (nm j)):MapR I' m' hp' w' nm sz e ms es where
 len:=M.len
 at':=fun j k rows h=>by
  obtain⟨en,g,h1,h2,h3,h4⟩:=M.at' j k rows h
  exact⟨en,g,h1,h2,by rw[hh];exact h3,Rep.mono E _ _ _ h4⟩
theorem entry_step {es:Array MapEntry}{clock:Nat}{t kt lt e ty:TypeId}{nm:Nat→Nm}{sz N:Nat}{ms:List (Value×List (List AV))}{key:Value}{r:Option Nat}{x:AV}{ux:Value}{row:List AV}
  (hmu:P.underlying t=some (.map kt lt)) (hz: ∀u,(zeroValue lt).run P u= .ok (.slice none 0 0) u) (hnm: ∀i j,nm i=nm j→i=j) (hnd: ∀j,(nm j).d=0)
  (G:Gam I (fun b=>K b∨b=b0) m hp w) (hnk: ¬K b0) (hb:w.heap[b0]?=some (.map es clock)) (hB:Born es clock) (M:MapR I m hp w nm sz e ms es.toList) (hk:keyOk P kt key=true) (hf:findK key (ms.map (·.1)) 0=some r) (hx:Rep 0 I m hp w x ux)
  (hN: ∀p∈ms,p.2.length≤N)
  (ho: ∀j g rows,hp (nm j)= .arr g sz e rows false→rows.length≤N→(appendP P (nm j) lt lt (.own (nm j) g rows.length) x).run hp=some (.own (nm j) (g+1) (rows.length+1),upd hp (nm j) (.arr (g+1) sz e (rows++[row]) false)))
  (hn:(appendP P (nm ms.length) lt lt (.sc (.slice none 0 0)) x).run hp=some (.own (nm ms.length) ((hp (nm ms.length)).gen+1) 1,upd hp (nm ms.length) (.arr ((hp (nm ms.length)).gen+1) sz e [row] false))):
  ∃v st w1,(Instr.mapEntry t (.map (some b0)) key).run P w= .ok (.tuple #[v,goInt st]) w1∧ ∃u w2,(Builtin.append_ #[lt,lt] ty #[v,ux]).run P w1= .ok u w2∧ ∃w3,(Instr.entryStore t (.map (some b0)) (goInt st) u).run P w2= .ok () w3∧
   ∃m3 hp3 es3 clock3,Gam I (fun b=>K b∨b=b0) m3 hp3 w3∧Ext I K m hp w I m3 hp3 w3∧w3.heap[b0]?=some (.map es3 clock3)∧Born es3 clock3∧MapR I m3 hp3 w3 nm sz e (addG key row ms) es3.toList∧ ∀y,(∀j,y≠nm j)→hp3 y=hp y:=by
 have hlt:b0<w.heap.size:=G.klt b0 (.inr rfl)
 have hsize: ∀(w:World) o,(w.putObj b0 o).heap.size=w.heap.size:=fun w o=>by simp[World.putObj]
 obtain⟨r',hr',hcase⟩:=findK_ok hk (es:=es.toList) (by rw[M.keys];exact hf) w
 cases r with
 |some j=>
  obtain⟨en,he,hkey,rfl⟩:=hcase
  have hjl:j<ms.length:=by rw[←M.len];exact(List.getElem?_eq_some_iff.1 he).1
  obtain⟨⟨k,rows⟩,hms⟩: ∃p,ms[j]?=some p:=⟨_,List.getElem?_eq_getElem hjl⟩
  obtain⟨en',g,h1,h2,h3,h4⟩:=M.at' j k rows hms
  rw[he] at h1;cases h1
  have hea:es[j]?=some en:=by rw[←Array.getElem?_toList];exact he
  have r1:=run_mapEntry_old hmu hk hb hr' hea hkey
  obtain⟨G1,E1⟩:=G.putK hnk (.map es clock)
  have hb1:(w.putObj b0 (.map es clock)).heap[b0]?=some (.map es clock):=World.putObj_heap_same hlt
  have happ:=ho j g rows h3 (hN (k,rows) (List.mem_of_getElem? hms))
  obtain⟨u,w2,m2,r2,G2,E2,R2⟩:=append_ok (ty:=ty) G1 (y:=nm j) (k:=0) (by rw[hnd];exact Nat.le_refl 0) (Rep.mono E1 _ _ _ h4) (Rep.mono E1 _ _ _ hx) happ
  have hb2:w2.heap[b0]?=some (.map es clock):=(E2.keep b0 (.inr (.inr rfl))).trans hb1
  have hfi:es.findIdx? (fun e=>((e.born:Nat):Int)==((en.born:Nat):Int))=some j:=by
   rw[WideElems.findIdx_arr]
   exact WideElems.findIdx_born hB.nd he
  have r3:=run_entryStore (P:=P) (t:=t) (v:=u) hb2 hfi
  obtain⟨G3,E3⟩:=G2.putK hnk (.map (es.modify j fun e=>{e with val:=u}) clock)
  have ET:=(E1.trans (E2.lessK (K:=K) fun _ h=> .inl h)).trans E3
  refine⟨_,_,_,r1,u,w2,r2,_,r3,m2,_,_,_,G3,ET,World.putObj_heap_same (Nat.lt_of_lt_of_le (by rw[hsize];exact hlt) E2.size),?_,?_,fun y hy=>upd_other _ _ (hy j)⟩
  ·have hbn:(es.modify j fun e=>{e with val:=u}).toList.map (·.born)=es.toList.map (·.born):=by
    rw[Array.toList_modify];exact modify_keys _ _ _ _ (fun _ _=>rfl)
   refine⟨fun y hy=>?_,by rw[hbn];exact hB.nd⟩
   have:y.born∈(es.modify j fun e=>{e with val:=u}).toList.map (·.born):=List.mem_map.2 ⟨y,hy,rfl⟩
   rw[hbn] at this
   obtain⟨z,hz1,hz2⟩:=List.mem_map.1 this
   rw[←hz2];exact hB.lt z hz1
  ·have ha:addG key row ms=ms.modify j fun p=>(p.1,p.2++[row]):=by unfold addG;rw[hf]
   rw[ha]
   refine⟨by rw[Array.toList_modify,List.length_modify,List.length_modify];exact M.len,fun i k' rows' hi=>?_⟩
   rw[Array.toList_modify]
   by_cases hij:i=j
   ·subst hij
    rw[List.getElem?_modify_eq,hms] at hi
    cases hi
    refine⟨{en with val:=u},g+1,by rw[List.getElem?_modify_eq,he];rfl,h2,upd_same _ _ _,?_⟩
    rw[List.length_append]
    exact Rep.mono E3 _ _ _ R2
   ·have hji: ¬j=i:=fun e=>hij e.symm
    simp only[List.getElem?_modify,hji,if_false,Option.map_id_fun',id_eq,Option.map_eq_map] at hi⊢
    obtain⟨en2,g2,q1,q2,q3,q4⟩:=M.at' i k' rows' hi
    exact⟨en2,g2,q1,q2,by rw[upd_other _ _ (fun e=>hij (hnm _ _ e))];exact q3,Rep.mono ET _ _ _ q4⟩
 |none=>
  subst hcase
  have r1:=run_mapEntry_new hmu hk hb hr' (hz w)
  obtain⟨G1,E1⟩:=G.putK hnk (.map (es.push {key,val:= .slice none 0 0,born:=clock}) (clock+1))
  have hb1:(w.putObj b0 (.map (es.push {key,val:= .slice none 0 0,born:=clock}) (clock+1))).heap[b0]?=some (.map (es.push {key,val:= .slice none 0 0,born:=clock}) (clock+1)):=World.putObj_heap_same hlt
  obtain⟨u,w2,m2,r2,G2,E2,R2⟩:=append_ok (ty:=ty) (us:= .slice none 0 0) G1 (y:=nm ms.length) (k:=0) (by rw[hnd];exact Nat.le_refl 0) (by simp only[Rep]) (Rep.mono E1 _ _ _ hx) hn
  have hb2:=(E2.keep b0 (.inr (.inr rfl))).trans hb1
  have hnd':((es.push {key,val:= .slice none 0 0,born:=clock}).toList.map (·.born)).Nodup:=by
   simp only[Array.toList_push,List.map_append,List.map_cons,List.map_nil]
   refine List.nodup_append.2 ⟨hB.nd,by simp,fun a ha c hc e1=>?_⟩
   simp only[List.mem_singleton] at hc
   obtain⟨y,hy,rfl⟩:=List.mem_map.1 ha
   have:=hB.lt y hy
   omega
  have hel:es.size=ms.length:=by rw[←Array.length_toList];exact M.len
  have hfi:(es.push {key,val:= .slice none 0 0,born:=clock}).findIdx? (fun e=>((e.born:Nat):Int)==((clock:Nat):Int))=some ms.length:=by
   rw[WideElems.findIdx_arr]
   exact WideElems.findIdx_born (j:=ms.length) (e0:={key,val:= .slice none 0 0,born:=clock}) hnd' (by rw[←hel];simp)
  have r3:=run_entryStore (P:=P) (t:=t) (v:=u) hb2 hfi
  obtain⟨G3,E3⟩:=G2.putK hnk (.map ((es.push {key,val:= .slice none 0 0,born:=clock}).modify ms.length fun e=>{e with val:=u}) (clock+1))
  have ET:=(E1.trans (E2.lessK (K:=K) fun _ h=> .inl h)).trans E3
  have hlist:((es.push {key,val:= .slice none 0 0,born:=clock}).modify ms.length fun e=>{e with val:=u}).toList=es.toList++[{key,val:=u,born:=clock}]:=by
   rw[Array.toList_modify,Array.toList_push,←M.len,WideElems.modify_last]
  refine⟨_,_,_,r1,u,w2,r2,_,r3,m2,_,_,_,G3,ET,World.putObj_heap_same (Nat.lt_of_lt_of_le (by rw[hsize];exact hlt) E2.size),?_,?_,fun y hy=>upd_other _ _ (hy _)⟩
  ·refine⟨fun y hy=>?_,?_⟩
   ·rw[hlist] at hy
    simp only[List.mem_append,List.mem_singleton] at hy
    rcases hy with hy|rfl
    ·exact Nat.lt_succ_of_lt (hB.lt y hy)
    ·exact Nat.lt_succ_self _
   ·rw[hlist]
    simpa using hnd'
  ·have ha:addG key row ms=ms++[(key,[row])]:=by unfold addG;rw[hf]
   rw[ha,hlist]
   refine⟨by simp only[List.length_append,M.len,List.length_cons,List.length_nil],fun i k' rows' hi=>?_⟩
   by_cases hil:i<ms.length
   ·rw[List.getElem?_append_left hil] at hi
    obtain⟨en2,g2,q1,q2,q3,q4⟩:=M.at' i k' rows' hi
    exact⟨en2,g2,by rw[List.getElem?_append_left (by rw[M.len];exact hil)];exact q1,q2,by rw[upd_other _ _ (fun e=>by have:=hnm _ _ e;omega)];exact q3,Rep.mono ET _ _ _ q4⟩
   ·have hie:i=ms.length:=by
     have:=(List.getElem?_eq_some_iff.1 hi).1
     simp only[List.length_append,List.length_cons,List.length_nil] at this
     omega
    subst hie
    simp only[List.getElem?_append_right (Nat.le_refl _),Nat.sub_self,List.getElem?_cons_zero,Option.some.injEq,Prod.mk.injEq] at hi
    obtain⟨rfl,rfl⟩:=hi
    refine⟨{key,val:=u,born:=clock},_,by rw[←M.len];simp,rfl,upd_same _ _ _,Rep.mono E3 _ _ _ R2⟩
end
section
variable {P:Program}{E:Cfg}{call:Orc}{K:Nat→Prop}{N b0:Nat}{B:Base}{nm:Nat→Nm}{sz:Nat}{e:TypeId}
def StM (N:Nat)(K:Nat→Prop)(B:Base)(b0:Nat)(nm:Nat→Nm)(sz:Nat)(e:TypeId)(ms:List (Value×List (List AV)))(st:AS)(a:Act)(w:World):Prop:=
 ¬K b0∧ ∃I m es clock,Gam I (fun b=>K b∨b=b0) m st.hp w∧Ext B.I K B.m B.hp B.w I m st.hp w∧(∀t,Rep 0 I m st.hp w (st.fr t) (a.eval (.tmp t)))∧a.tmps.size=N∧a.defers=B.df∧w.heap[b0]?=some (.map es clock)∧Born es clock∧MapR I m st.hp w nm sz e ms es.toList
theorem StM.on {ms:List (Value×List (List AV))}{st s:AS}{a':Act}{w w':World}{I:Nat→Prop}{m:Mp}{es:Array MapEntry}{clock:Nat}(hnk: ¬K b0)(E0:Ext B.I K B.m B.hp B.w I m st.hp w)(hb:w.heap[b0]?=some (.map es clock))(hB:Born es clock)(M:MapR I m st.hp w nm sz e ms es.toList)
  (S:StR 0 N (fun b=>K b∨b=b0) ⟨I,m,st.hp,w,B.df⟩ s a' w') (hh: ∀j,s.hp (nm j)=st.hp (nm j)):StM N K B b0 nm sz e ms s a' w':=by
 obtain⟨I',m',G',E',hf',hs',hd'⟩:=S
 exact⟨hnk,I',m',es,clock,G',E0.trans (E'.lessK fun _ h=> .inl h),hf',hs',hd',(E'.keep b0 (.inr (.inr rfl))).trans hb,hB,M.mono E' hh⟩
theorem StM.run (hm:P.follows .mixedOrders=true)(hE:ELaw P E)(hC:OrcOk P call){ms:List (Value×List (List AV))}{st:AS}{a:Act}{w:World}(S:StM N K B b0 nm sz e ms st a w){c:Code}{R:Ex→AS→Prop}(h:W P E 0 call c st R)(hs:slotsIn N c=true)(hP: ∀v s,¬R (.panic v) s)
  (hh: ∀e' s,R e' s→ ∀j,s.hp (nm j)=st.hp (nm j)) {Q:Exit→Act→World→Prop} (hQ: ∀e' s a' w',R e' s→StM N K B b0 nm sz e ms s a' w'→Q (exOf e') a' w'):c.wp P Q a w:=by
 obtain⟨hnk,I,m,es,clock,G,E0,hf,hsz,hd,hb,hB,M⟩:=S
 exact W.wp (B:=⟨I,m,st.hp,w,B.df⟩) hm hE hC h hs ⟨I,m,G,.refl _ _ _ _ _,hf,hsz,hd⟩ (fun e' s a' w' hr S'=>hQ e' s a' w' hr (StM.on hnk E0 hb hB M S' (hh e' s hr))) (fun v hp' a' w' hr _=>(hP v _ hr).elim)
theorem region_entry (hE:ELaw P E)(hC:OrcOk P call){ms:List (Value×List (List AV))}{st st1:AS}{a:Act}{w:World}(S:StM N K B b0 nm sz e ms st a w){Q:Exit→Act→World→Prop}{id n:Nat}{all:Array Oper}{pre:List Oper}(hpre:all.toList.take n=pre){d1 d2 d3 d4 x kx y:Nat}{t kt lt q1 q2 q3 q4 q5:TypeId}{p1 p2 p3 p4 p5:String}{f1 f2 f3 f4 f5:Array Edge}
  (hmu:P.underlying t=some (.map kt lt)) (hz: ∀u,(zeroValue lt).run P u= .ok (.slice none 0 0) u) (hnm: ∀i j,nm i=nm j→i=j) (hnd: ∀j,(nm j).d=0)
  (hsl: ∀o∈pre,∀z,o.dst=some z→z<N) (hsize:all.size=n+5)
  (g0:all[n]?=some ⟨some d1,.mapEntry t (.tmp x) (.tmp kx),q1,p1,f1,none⟩) (g1:all[n+1]?=some ⟨some d2,.extract (.tmp d1) 0,q2,p2,f2,none⟩) (g2:all[n+2]?=some ⟨some d3,.call ⟨.builtin .append,#[.tmp d2,.tmp y],#[lt,lt]⟩,q3,p3,f3,none⟩) (g3:all[n+3]?=some ⟨some d4,.extract (.tmp d1) 1,q4,p4,f4,none⟩) (g4:all[n+4]?=some ⟨none,.entryStore t (.tmp x) (.tmp d4) (.tmp d3),q5,p5,f5,none⟩) (hd:d1<N∧d2<N∧d3<N∧d4<N) (hne:d1≠d2∧d1≠d3∧d1≠d4∧d2≠d3∧d2≠d4∧d3≠d4) (hxn:x≠d1∧x≠d2∧x≠d3∧x≠d4) (hyn:y≠d1∧y≠d2)
  (h:evOps P E 0 call all pre st=some st1)
  (hh: ∀j,st1.hp (nm j)=st.hp (nm j)) (hx:st1.fr x= .sc (.map (some b0))) {key:Value} (hkx:keyA (st1.fr kx)=some key) (hk:keyOk P kt key=true) {r:Option Nat} (hf:findK key (ms.map (·.1)) 0=some r) {M0:Nat} (hN: ∀p∈ms,p.2.length≤M0) {row:List AV}
  (ho: ∀j g rows,st1.hp (nm j)= .arr g sz e rows false→rows.length≤M0→(appendP P (nm j) lt lt (.own (nm j) g rows.length) (st1.fr y)).run st1.hp=some (.own (nm j) (g+1) (rows.length+1),upd st1.hp (nm j) (.arr (g+1) sz e (rows++[row]) false)))
  (hn:(appendP P (nm ms.length) lt lt (.sc (.slice none 0 0)) (st1.fr y)).run st1.hp=some (.own (nm ms.length) ((st1.hp (nm ms.length)).gen+1) 1,upd st1.hp (nm ms.length) (.arr ((st1.hp (nm ms.length)).gen+1) sz e [row] false)))
  (hQ: ∀hp' a' w',(∀z,(∀j,z≠nm j)→hp' z=st1.hp z)→StM N K B b0 nm sz e (addG key row ms) ⟨fun z=>if z=d1∨z=d2∨z=d3∨z=d4 then .any else st1.fr z,hp'⟩ a' w'→Q .normal a' w'):
  (Code.region id all false).wp P Q a w:=by
 subst hpre
 refine wp_region ?_
 obtain⟨hnk,I,m,es,clock,G,E0,hfr,hsz,hdf,hb,hB,M⟩:=S
 have hpl:(all.toList.take n).length=n:=by rw[List.length_take,Array.length_toList,hsize];omega
 rw[hsize,List.range_eq_range',show List.range' 0 (n+5)=List.range' 0 (all.toList.take n).length++[n,n+1,n+2,n+3,n+4] from by rw[hpl,←List.range'_append_1];simp[List.range']]
 refine evOps_then (B:=⟨I,m,st.hp,w,B.df⟩) (K:=fun b=>K b∨b=b0) hE hC (all.toList.take n) 0 (fun j hj=>by rw[List.getElem?_take,if_pos (by omega),Nat.zero_add,Array.getElem?_toList]) hsl ⟨I,m,G,.refl _ _ _ _ _,hfr,hsz,hdf⟩ h (fun a1 w1 S1=>?_)
 obtain⟨hnk,I1,m1,es1,clock1,G1,E1,hf1,hs1,hd1,hb1,hB1,M1⟩:=StM.on hnk E0 hb hB M S1 hh
 have ex:a1.eval (.tmp x)= .map (some b0):=by
  have:=hf1 x
  rw[hx] at this
  simpa only[Rep] using this
 have ek:a1.eval (.tmp kx)=key:=keyA_ok hkx (hf1 kx)
 obtain⟨v,stp,w2,r1,u,w3,r2,w4,r3,m4,hp4,es4,clock4,G4,E4,hb4,hB4,M4,hh4⟩:=entry_step (ty:=q3) hmu hz hnm hnd G1 hnk hb1 hB1 M1 hk hf (hf1 y) hN ho hn
 obtain⟨l1,l2,l3,l4⟩:=hd
 obtain⟨n12,n13,n14,n23,n24,n34⟩:=hne
 obtain⟨x1,x2,x3,x4⟩:=hxn
 obtain⟨y1,y2⟩:=hyn
 have s1:a1.tmps.size=N:=hs1
 have sz2:(a1.put (some d1) (.tuple #[v,goInt stp])).tmps.size=N:=by rw[put_size,s1]
 have sz3:((a1.put (some d1) (.tuple #[v,goInt stp])).put (some d2) v).tmps.size=N:=by rw[put_size,sz2]
 have sz4:(((a1.put (some d1) (.tuple #[v,goInt stp])).put (some d2) v).put (some d3) u).tmps.size=N:=by rw[put_size,sz3]
 simp only[wpOps]
 rw[g0]
 simp only[Region.wanted,if_true]
 refine .inl ((opR_value (P:=P) (Post:=fun u' w'=> .tuple #[v,goInt stp]=u'∧w2=w') (by simp only[execOp,ex,ek];simp[r1]) ⟨rfl,rfl⟩).wp ?_)
 rintro _ _ ⟨rfl,rfl⟩
 simp only[wpOps]
 rw[g1]
 simp only[Region.wanted,if_true]
 have e1:(a1.put (some d1) (.tuple #[v,goInt stp])).eval (.tmp d1)= .tuple #[v,goInt stp]:=by rw[put_eval _ _ _ _ (by rw[s1];exact l1),if_pos rfl]
 refine .inl ((opR_value (P:=P) (u:=v) (w':=w2) (Post:=fun u' w'=>v=u'∧w2=w') (by simp[execOp,e1,Instr.extract]) ⟨rfl,rfl⟩).wp ?_)
 rintro _ _ ⟨rfl,rfl⟩
 simp only[wpOps]
 rw[g2]
 simp only[Region.wanted,if_true]
 have e2:((a1.put (some d1) (.tuple #[v,goInt stp])).put (some d2) v).eval (.tmp d2)=v:=by rw[put_eval _ _ _ _ (by rw[sz2];exact l2),if_pos rfl]
 have e3:((a1.put (some d1) (.tuple #[v,goInt stp])).put (some d2) v).eval (.tmp y)=a1.eval (.tmp y):=by rw[put_eval _ _ _ _ (by rw[sz2];exact l2),if_neg y2,put_eval _ _ _ _ (by rw[s1];exact l1),if_neg y1]
 refine .inl ((opR_value (P:=P) (u:=u) (w':=w3) (Post:=fun u' w'=>u=u'∧w3=w') (by simp[execOp,resolve,invoke,builtin,e2,e3,r2]) ⟨rfl,rfl⟩).wp ?_)
 rintro _ _ ⟨rfl,rfl⟩
 simp only[wpOps]
 rw[g3]
 simp only[Region.wanted,if_true]
 have e4:(((a1.put (some d1) (.tuple #[v,goInt stp])).put (some d2) v).put (some d3) u).eval (.tmp d1)= .tuple #[v,goInt stp]:=by
  rw[put_eval _ _ _ _ (by rw[sz3];exact l3),if_neg n13,put_eval _ _ _ _ (by rw[sz2];exact l2),if_neg n12,e1]
 refine .inl ((opR_value (P:=P) (u:=goInt stp) (w':=w3) (Post:=fun u' w'=>goInt stp=u'∧w3=w') (by simp[execOp,e4,Instr.extract]) ⟨rfl,rfl⟩).wp ?_)
 rintro _ _ ⟨rfl,rfl⟩
 simp only[wpOps]
 rw[g4]
 simp only[Region.wanted,if_true]
 generalize ha5:(((a1.put (some d1) (.tuple #[v,goInt stp])).put (some d2) v).put (some d3) u).put (some d4) (goInt stp)=a5
 have ev: ∀z,a5.eval (.tmp z)=if z=d4 then goInt stp else if z=d3 then u else if z=d2 then v else if z=d1 then .tuple #[v,goInt stp] else a1.eval (.tmp z):=fun z=>by
  rw[←ha5,put_eval _ _ _ _ (by rw[sz4];exact l4),put_eval _ _ _ _ (by rw[sz3];exact l3),put_eval _ _ _ _ (by rw[sz2];exact l2),put_eval _ _ _ _ (by rw[s1];exact l1)]
 have v1:a5.eval (.tmp x)= .map (some b0):=by rw[ev,if_neg x4,if_neg x3,if_neg x2,if_neg x1,ex]
 have v2:a5.eval (.tmp d4)=goInt stp:=by rw[ev,if_pos rfl]
 have v3:a5.eval (.tmp d3)=u:=by rw[ev,if_neg n34,if_pos rfl]
 refine .inl ((opR_skip (P:=P) (w':=w4) (Post:=fun _ w'=>w4=w') (by simp only[execOp,v1,v2,v3];simp[r3]) rfl).wp ?_)
 rintro _ _ rfl
 refine hQ hp4 _ _ hh4 ⟨hnk,I1,m4,es4,clock4,G4,E1.trans E4,fun z=>?_,?_,?_,hb4,hB4,M4⟩
 ·show Rep 0 I1 m4 hp4 _ (if z=d1∨z=d2∨z=d3∨z=d4 then .any else st1.fr z) (a5.eval (.tmp z))
  by_cases hc:z=d1∨z=d2∨z=d3∨z=d4
  ·rw[if_pos hc];simp only[Rep]
  ·rw[if_neg hc,ev]
   simp only[not_or] at hc
   rw[if_neg hc.2.2.2,if_neg hc.2.2.1,if_neg hc.2.1,if_neg hc.1]
   exact Rep.mono E4 _ _ _ (hf1 z)
 ·show a5.tmps.size=N
  rw[←ha5,put_size,sz4]
 ·show a5.defers=B.df
  rw[←ha5,put_defers,put_defers,put_defers,put_defers,hd1]
theorem region_entryW (hE:ELaw P E)(hC:OrcOk P call){ms:List (Value×List (List AV))}{st:AS}{a:Act}{w:World}(S:StM N K B b0 nm sz e ms st a w){Q:Exit→Act→World→Prop}{id n:Nat}{all:Array Oper}{pre:List Oper}{F:AS→Prop}(hpre:all.toList.take n=pre)(h:Wo P E 0 call all pre st F (fun _ _=>False)){d1 d2 d3 d4 x kx y:Nat}{t kt lt q1 q2 q3 q4 q5:TypeId}{p1 p2 p3 p4 p5:String}{f1 f2 f3 f4 f5:Array Edge}
  (hsize:all.size=n+5)
  (g0:all[n]?=some ⟨some d1,.mapEntry t (.tmp x) (.tmp kx),q1,p1,f1,none⟩) (g1:all[n+1]?=some ⟨some d2,.extract (.tmp d1) 0,q2,p2,f2,none⟩) (g2:all[n+2]?=some ⟨some d3,.call ⟨.builtin .append,#[.tmp d2,.tmp y],#[lt,lt]⟩,q3,p3,f3,none⟩) (g3:all[n+3]?=some ⟨some d4,.extract (.tmp d1) 1,q4,p4,f4,none⟩) (g4:all[n+4]?=some ⟨none,.entryStore t (.tmp x) (.tmp d4) (.tmp d3),q5,p5,f5,none⟩)
  (hmu:P.underlying t=some (.map kt lt)) (hz: ∀u,(zeroValue lt).run P u= .ok (.slice none 0 0) u) (hnm: ∀i j,nm i=nm j→i=j) (hnd: ∀j,(nm j).d=0)
  (hsl: ∀o∈pre,∀z,o.dst=some z→z<N) (hd:d1<N∧d2<N∧d3<N∧d4<N) (hne:d1≠d2∧d1≠d3∧d1≠d4∧d2≠d3∧d2≠d4∧d3≠d4) (hxn:x≠d1∧x≠d2∧x≠d3∧x≠d4) (hyn:y≠d1∧y≠d2)
  {key:Value} (hk:keyOk P kt key=true) {r:Option Nat} (hf:findK key (ms.map (·.1)) 0=some r) {M0:Nat} (hN: ∀p∈ms,p.2.length≤M0) {row:List AV}
  (hrest: ∀st1,F st1→(∀j,st1.hp (nm j)=st.hp (nm j))∧st1.fr x= .sc (.map (some b0))∧keyA (st1.fr kx)=some key∧
   (∀j g rows,st1.hp (nm j)= .arr g sz e rows false→rows.length≤M0→(appendP P (nm j) lt lt (.own (nm j) g rows.length) (st1.fr y)).run st1.hp=some (.own (nm j) (g+1) (rows.length+1),upd st1.hp (nm j) (.arr (g+1) sz e (rows++[row]) false)))∧
   (∀j,(appendP P (nm j) lt lt (.sc (.slice none 0 0)) (st1.fr y)).run st1.hp=some (.own (nm j) ((st1.hp (nm j)).gen+1) 1,upd st1.hp (nm j) (.arr ((st1.hp (nm j)).gen+1) sz e [row] false)))∧
   ∀hp' a' w',(∀z,(∀j,z≠nm j)→hp' z=st1.hp z)→StM N K B b0 nm sz e (addG key row ms) ⟨fun z=>if z=d1∨z=d2∨z=d3∨z=d4 then .any else st1.fr z,hp'⟩ a' w'→Q .normal a' w'):
  (Code.region id all false).wp P Q a w:=by
 rcases h with⟨st1,hev,hF⟩|⟨_,_,_,_,h⟩
 ·obtain⟨h1,h2,h3,h4,h5,h6⟩:=hrest st1 hF
  exact region_entry hE hC S hpre hmu hz hnm hnd hsl hsize g0 g1 g2 g3 g4 hd hne hxn hyn hev h1 h2 h3 hk hf hN h4 (h5 _) h6
 ·exact h.elim
theorem StM.bool {ms:List (Value×List (List AV))}{st:AS}{a:Act}{w:World}(S:StM N K B b0 nm sz e ms st a w){t:Nat}{v:Bool}(h:st.fr t= .sc (.bool v)):a.eval (.tmp t)= .bool v:=by
 obtain⟨_,I,m,es,clock,_,_,hf,_⟩:=S
 have:=hf t
 rw[h] at this
 simpa only[Rep] using this
theorem map_begin {st:AS}{a:Act}{w:World}{x7 x15:Nm}{g g7:Nat}{ag:Bool}(S:StR 0 N K B st a w)(hx:st.hp x15= .map g ag [] [] false)(hbx:st.hp x7= .box g7 [.mp x15 g] false)(hne:x7≠x15):
  ∃b0,StM N K B b0 nm sz e [] ⟨st.fr,upd (upd st.hp x7 (.box g7 [.sc (.map (some b0))] true)) x15 (.no (g+1))⟩ a w:=by
 obtain⟨I,m,G,E0,hf,hs,hd⟩:=S
 have ho:=G.obj x15
 rw[hx] at ho
 obtain⟨b0,c,es,clock,o1,o2,o3,o4,o5,o6⟩:=ho
 obtain⟨hni,hnk⟩:=o6 rfl
 obtain⟨I1,G1,E1,hI1,hI2⟩:=G.freezeBoxC hbx (cs:=[.sc (.map (some b0))]) (fun b c us T mk h1 h2=>by
  have h7:=G.obj x7
  rw[hbx] at h7
  obtain⟨b',c',us',T',mk',q1,q2,q3,q4,_⟩:=h7
  rw[h1] at q1;cases q1
  rw[h2] at q2;cases q2
  simp only[List.length_cons,List.length_nil] at q4⊢
  simp only[RepL] at q4
  obtain⟨v,vs,q5,q6,q7⟩:=q4
  simp only[Rep] at q6
  obtain⟨_,_,q6⟩:=q6
  obtain⟨b2,c2,q8,q9⟩:=q6 _ _ _ _ hx
  rw[o1] at q8;cases q8
  rw[q5]
  simp only[RepDL,RepD]
  exact⟨v,vs,rfl,⟨q9,rfl⟩,q7⟩)
 have h15:upd st.hp x7 (.box g7 [.sc (.map (some b0))] true) x15= .map g ag [] [] false:=by rw[upd_other _ _ (fun e=>hne e.symm)];exact hx
 have ho2:=G1.obj x15
 rw[h15] at ho2
 obtain⟨b2,c2,es2,clock2,p1,p2,p3,p4,p5,p6⟩:=ho2
 rw[o1] at p1;cases p1
 obtain⟨G2,E2⟩:=G1.kill x15 (g:=g+1) (by rw[h15];exact Nat.lt_succ_self g)
 have hes:es.toList=[]:=List.map_eq_nil_iff.1 o3
 refine⟨b0,hnk,I1,m,es,clock,G2.addK (Array.getElem?_eq_some_iff.1 o2).1 (p6 rfl).1 (fun x p hl hm e=>?_),E0.trans (E1.trans E2),fun t=>Rep.mono (E1.trans E2) _ _ _ (hf t),hs,hd,o2,⟨fun x hx=>by rw[hes] at hx;exact(List.not_mem_nil hx).elim,by rw[hes];exact List.nodup_nil⟩,⟨by rw[hes];rfl,fun j k rows h=>by simp at h⟩⟩
 by_cases hxe:x=x15
 ·subst hxe;rw[upd_same] at hl;simp[AObj.live] at hl
 ·rw[upd_other _ _ hxe] at hl
  exact hxe (G1.inj x x15 p (b0,c) hl (by rw[h15];rfl) hm o1 e)
theorem freeze_first (P:Program){I K:Nat→Prop}{m:Mp}{hp:Hp}{w:World}{ms:List (Value×List (List AV))}{es:List MapEntry}(G:Gam I K m hp w)(M:MapR I m hp w nm sz e ms es)(hnm: ∀i j,nm i=nm j→i=j): ∀n,n≤ms.length→
  ∃I' hp',Gam I' K m hp' w∧Ext I K m hp w I' m hp' w∧(∀z,(∀i,z≠nm i)→hp' z=hp z)∧(∀i,n≤i→hp' (nm i)=hp (nm i))∧ ∀i,i<n→ ∀k rows,ms[i]?=some (k,rows)→ ∃en,es[i]?=some en∧RepD I' w (.sl false sz rows) en.val
 |0,_=>⟨I,hp,G,.refl _ _ _ _ _,fun _ _=>rfl,fun _ _=>rfl,fun i hi=>absurd hi (Nat.not_lt_zero i)⟩
 |n+1,hn=>by
  obtain⟨I1,hp1,G1,E1,f1,l1,d1⟩:=freeze_first P G M hnm n (by omega)
  obtain⟨⟨k,rows⟩,hms⟩: ∃p,ms[n]?=some p:=⟨_,List.getElem?_eq_getElem (by omega)⟩
  obtain⟨en,g,h1,h2,h3,h4⟩:=M.at' n k rows hms
  have h5:hp1 (nm n)= .arr g sz e rows false:=(l1 n (Nat.le_refl n)).trans h3
  have hrun:(toDat P true 0 (.own (nm n) g rows.length)).run hp1=some (.sl false sz rows,upd hp1 (nm n) (.arr g sz e rows true)):=by
   simp[toDat,Prog.run,h5]
  obtain⟨I2,G2,E2,R2⟩:=toDat_frz G1 (Rep.mono E1 _ _ _ h4) hrun
  refine⟨I2,_,G2,E1.trans E2,fun z hz=>by rw[upd_other _ _ (hz n)];exact f1 z hz,fun i hi=>by rw[upd_other _ _ (fun e=>by have:=hnm _ _ e;omega)];exact l1 i (by omega),fun i hi k' rows' hms'=>?_⟩
  by_cases hin:i=n
  ·subst hin
   rw[hms] at hms';cases hms'
   exact⟨en,h1,R2⟩
  ·obtain⟨en',q1,q2⟩:=d1 i (by omega) k' rows' hms'
   exact⟨en',q1,RepD.mono E2.isub (fun b hb=>E2.keep b (.inl hb)) _ _ q2⟩
theorem repMs_of {I:Nat→Prop}{w:World}: ∀{ms:List (Value×List (List AV))} {es:List MapEntry},es.length=ms.length→(∀(i:Nat) (k:Value) (rows:List (List AV)),ms[i]?=some (k,rows)→ ∃en:MapEntry,es[i]?=some en∧RepD I w (.sl false sz rows) en.val)→RepMs I w false (ms.map fun p=>[.sl false sz p.2]) (es.map (·.val))
 |[],[],_,_=>by simp[RepMs]
 |[],_::_,h,_=>by simp at h
 |_::_,[],h,_=>by simp at h
 |(k,rows)::ms,en::es,h,hr=>by
  obtain⟨en',h1,h2⟩:=hr 0 k rows rfl
  simp only[List.getElem?_cons_zero,Option.some.injEq] at h1
  subst h1
  simp only[List.map_cons,RepMs]
  refine⟨_,_,[en.val],rfl,by simp,fun _=>⟨rfl,?_⟩,?_,repMs_of (by simpa using h) (fun i k' rows' hi=>by simpa using hr (i+1) k' rows' (by simpa using hi))⟩
  ·simp only[RepD] at h2
   obtain⟨A,cap,hu,_⟩:=h2
   rw[hu];rfl
  ·simp only[RepDL]
   exact⟨_,_,rfl,h2,rfl⟩
theorem map_end (P:Program){ms:List (Value×List (List AV))}{st:AS}{a:Act}{w:World}{x7:Nm}{g7:Nat}(S:StM N K B b0 nm sz e ms st a w)(hnm: ∀i j,nm i=nm j→i=j)(hbx:st.hp x7= .box g7 [.sc (.map (some b0))] true)(h7: ∀j,x7≠nm j):
  ∃hp',StR 0 N K B ⟨st.fr,hp'⟩ a w∧hp' x7= .box g7 [.dmp false (ms.map (·.1)) (ms.map fun p=>[.sl false sz p.2])] true∧ ∀z,z≠x7→(∀j,z≠nm j)→hp' z=st.hp z:=by
 obtain⟨hnk,I,m,es,clock,G,E0,hf,hs,hd,hb,hB,M⟩:=S
 obtain⟨I1,hp1,G1,E1,f1,l1,d1⟩:=freeze_first P G M hnm ms.length (Nat.le_refl _)
 obtain⟨G2,E2⟩:=G1.keptI hnk
 have E1':=E1.lessK (K:=K) fun _ h=> .inl h
 have hbx1:hp1 x7= .box g7 [.sc (.map (some b0))] true:=(f1 x7 h7).trans hbx
 have hms:RepMs (fun b=>I1 b∨b=b0) w false (ms.map fun p=>[.sl false sz p.2]) (es.toList.map (·.val)):=
  RepMs.mono (fun _ h=> .inl h) (fun _ _=>rfl) _ _ _ (repMs_of M.len (fun i k rows hi=>d1 i (List.getElem?_eq_some_iff.1 hi).1 k rows hi))
 obtain⟨I3,G3,E3,_,_⟩:=G2.freezeBoxC hbx1 (cs:=[.dmp false (ms.map (·.1)) (ms.map fun p=>[.sl false sz p.2])]) (fun b c us T mk h1 h2=>by
  have h8:=G2.obj x7
  rw[hbx1] at h8
  obtain⟨b',c',us',T',mk',q1,q2,q3,q4,_⟩:=h8
  rw[h1] at q1;cases q1
  rw[h2] at q2;cases q2
  simp only[List.length_cons,List.length_nil] at q4⊢
  simp only[RepL,Rep] at q4
  obtain⟨v,vs,q5,q6,q7⟩:=q4
  rw[q5]
  simp only[RepDL,RepD]
  exact⟨v,vs,rfl,⟨b0,es,clock,q6,.inr rfl,hb,M.keys,hms⟩,q7⟩)
 have ET:=E1'.trans (E2.trans E3)
 exact⟨upd hp1 x7 (.box g7 [.dmp false (ms.map (·.1)) (ms.map fun p=>[.sl false sz p.2])] true),⟨I3,m,G3,E0.trans ET,fun t=>Rep.mono ET _ _ _ (hf t),hs,hd⟩,upd_same _ _ _,fun z hz hj=>(upd_other _ _ hz).trans (f1 z hj)⟩
end
theorem wp_loopN {P:Program}{c:Code}{Q:Exit→Act→World→Prop}{a:Act}{w:World}(Inv:Nat→Act→World→Prop){j:Nat}(h0:Inv j a w)
  (round: ∀j a w,Inv j a w→c.wp P (Exit.then (fun a' w'=> ∃i,i<j∧Inv i a' w') Q) a w):(Code.loop c).wp P Q a w:=by
 refine wp_loop (fun a w=> ∃j,Inv j a w) (fun a w=>least fun j=>Inv j a w) ⟨j,h0⟩ ?_
 intro a w h
 obtain⟨h1,_⟩:=least_spec (p:=fun j=>Inv j a w) h
 refine wp_mono (round _ a w h1) ?_
 intro e a' w' hq
 cases e with
 |normal=>
  obtain⟨i,hi,h⟩:=hq
  exact⟨⟨i,h⟩,Nat.lt_of_le_of_lt ((least_spec (p:=fun j=>Inv j a' w') ⟨i,h⟩).2 i h) hi⟩
 |_=>exact hq
end
end Go.Ab
