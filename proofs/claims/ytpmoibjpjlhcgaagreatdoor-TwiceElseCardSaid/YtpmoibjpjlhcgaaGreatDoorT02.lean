/- A part of the proof: Ab19, Ab20, Ab21, Ab30, Ab22, Ab23. -/
import Derived.Test.YtpmoibjpjlhcgaaGreatDoorT01
import Derived.IntWalk
set_option linter.unusedSimpArgs false
set_option linter.unusedVariables false
namespace Go.Ab
section
open Go
section
variable {P:Program}{I K:Nat->Prop}{m:Mp}{hp hp':Hp}{w:World}{k:Nat}
theorem RepH.bs {ct:TypeId}{a:AV}{u:Value}{bs:List Nat}(h:RepH P I K w ct a u bs): ∀b∈bs,¬I b/\ ¬K b:=by
 cases a with
 |vec sz rows=>
  rcases h with⟨_,_,rfl⟩|⟨b,cap,us,mk,e,rfl,h2,h3,h4,h5,h6,h7,h8,h9,h10,h11⟩
  ·simp
  ·intro c hc
   rw[List.mem_singleton] at hc
   subst hc
   exact⟨h10,h11⟩
 |_=>
  have:bs=[]:=h.1
  subst this
  simp
theorem RepHL.bs : ∀{cts:List TypeId} {as:List AV} {us:List Value} {bs:List Nat},RepHL P I K w cts as us bs-> ∀b∈bs,¬I b/\ ¬K b
 |cts,[],_,bs,h=>by
  have:bs=[]:=by cases cts<;>simp only[RepHL] at h<;>exact h.2
  subst this;simp
 |[],_::_,_,_,h=>by simp[RepHL] at h
 |t::ts,a::as,us,bs,h=>by
  simp only[RepHL] at h
  obtain⟨u,us',b1,b2,rfl,rfl,h1,h2⟩:=h
  intro b hb
  rcases List.mem_append.1 hb with hb|hb
  ·exact RepH.bs h1 b hb
  ·exact RepHL.bs h2 b hb
theorem RepH.noK {ct:TypeId}{a:AV}{u:Value}{bs:List Nat}(h:RepH P I K w ct a u bs):RepH P I (fun _=>False) w ct a u bs:=by
 cases a with
 |vec sz rows=>
  rcases h with h|⟨b,cap,us,mk,e,h1,h2,h3,h4,h5,h6,h7,h8,h9,h10,h11⟩
  ·exact .inl h
  ·exact .inr ⟨b,cap,us,mk,e,h1,h2,h3,h4,h5,h6,h7,h8,h9,h10,fun h=>h⟩
 |_=>exact h
theorem RepHL.noK : ∀{cts:List TypeId} {as:List AV} {us:List Value} {bs:List Nat},RepHL P I K w cts as us bs->RepHL P I (fun _=>False) w cts as us bs
 |cts,[],_,_,h=>by cases cts<;>exact h
 |[],_::_,_,_,h=>by simp[RepHL] at h
 |t::ts,a::as,us,bs,h=>by
  simp only[RepHL] at h⊢
  obtain⟨u,us',b1,b2,e1,e2,h1,h2⟩:=h
  exact⟨u,us',b1,b2,e1,e2,RepH.noK h1,RepHL.noK h2⟩
theorem RepHL.mono {I':Nat->Prop}(hi: ∀b,I b->I' b): ∀{cts:List TypeId} {as:List AV} {us:List Value} {bs:List Nat},(∀b∈bs,¬I b-> ¬I' b)->RepHL P I K w cts as us bs->RepHL P I' K w cts as us bs
 |cts,[],_,_,_,h=>by cases cts<;>exact h
 |[],_::_,_,_,_,h=>by simp[RepHL] at h
 |t::ts,a::as,us,bs,hn,h=>by
  simp only[RepHL] at h⊢
  obtain⟨u,us',b1,b2,rfl,rfl,h1,h2⟩:=h
  exact⟨u,us',b1,b2,rfl,rfl,RepH.mono hi (fun b hb=>hn b (List.mem_append.2 (.inl hb))) h1,RepHL.mono hi (fun b hb=>hn b (List.mem_append.2 (.inr hb))) h2⟩
theorem RepRes.mono {I':Nat->Prop}(hi: ∀b,I b->I' b){t:TypeId}{a:AV}{u:Value}{bs:List Nat}(hn: ∀b∈bs,¬I b-> ¬I' b)(h:RepRes P I w t a u bs):RepRes P I' w t a u bs:=by
 unfold RepRes at h⊢
 split
 ·rename_i hagg
  rw[if_pos hagg] at h
  obtain⟨cs,us,e1,e2,h3⟩:=h
  exact⟨cs,us,e1,e2,RepHL.mono hi hn h3⟩
 ·rename_i hagg
  rw[if_neg hagg] at h
  exact RepH.mono hi hn h
theorem tcs_one {t:TypeId}(h:isAggB P t=false):tcs P t=[t]:=by
 unfold tcs tcsN
 unfold isAggB at h
 split
 ·rename_i hu;rw[hu] at h;cases h
 ·rename_i hu;rw[hu] at h;cases h
 ·rfl
theorem hand_ok (G:Gam I K m hp w){t:TypeId}{v v':AV}{u:Value}(hr:Rep k I m hp w v u)(h:(hand P t v).run hp=some (v',hp')):
  ∃I' bs,Gam I' K m hp' w/\Ext I K m hp w I' m hp' w/\RepRes P I' w t v' u bs/\(∀b∈bs,¬I' b/\ ¬K b)/\(∀b,I' b->I b\/Aw m hp b)/\(∀b∈bs,Aw m hp b/\ ¬Aw m hp' b)/\(∀b,Aw m hp' b->Aw m hp b)/\bs.Nodup:=by
 unfold hand at h
 split at h
 case isFalse=>simp[Prog.run] at h
 rename_i hc
 obtain⟨hl,ha⟩:=hc
 obtain⟨x,hp0,r0,h2⟩:=Aa h
 clear h
 obtain⟨e0,hcl,us1,hu1,hu2⟩:=Dj r0 hr
 rw[e0] at h2
 obtain⟨cs,hp1,r1,h3⟩:=Aa h2
 clear h2
 obtain⟨I1,bs,G1,E1,d1,i1,l1,m1,n1⟩:=Vs G hcl r1
 have hbs:=RepHL.bs d1
 have d1:=RepHL.noK d1
 rw[<-ha] at h3
 unfold oneV at h3
 cases hb:aggA v with
 |true=>
  rw[hb] at h3 hu1
  simp only[if_true,Prog.run,Option.some.injEq,Prod.mk.injEq] at h3 hu1
  obtain⟨rfl,rfl⟩:=h3
  refine⟨I1,bs,G1,E1,?_,hbs,i1,l1,m1,n1⟩
  unfold RepRes
  rw[if_pos (by rw[<-ha,hb])]
  rw[hu1] at d1
  exact⟨cs,us1,rfl,hu1,d1⟩
 |false=>
  rw[hb] at h3
  rw[hu2 hb,tcs_one (by rw[<-ha,hb])] at d1
  simp only[Bool.false_eq_true,if_false] at h3
  split at h3
  ·rename_i c
   simp only[Prog.run,Option.some.injEq,Prod.mk.injEq] at h3
   obtain⟨rfl,rfl⟩:=h3
   refine⟨I1,bs,G1,E1,?_,hbs,i1,l1,m1,n1⟩
   unfold RepRes
   rw[if_neg (by rw[<-ha,hb];simp)]
   simp only[RepHL] at d1
   obtain⟨u',us',b1,b2,e1,e2,h1,e3,e4⟩:=d1
   simp only[List.cons.injEq] at e1
   obtain⟨rfl,_⟩:=e1
   subst e2 e4
   simpa using h1
  ·simp[Prog.run] at h3
theorem Vj (P:Program)(G:Gam I K m hp w){t:TypeId}{a v:AV}{u:Value}(hr:Rep k I m hp w a u)(h:(loadP P t a).run hp=some (v,hp')): ∃ad,u= .pointer (some ad):=by
 unfold loadP at h
 split at h
 ·split at h
  ·rename_i hpos
   obtain⟨cs,hp1,r1,_⟩:=Aa h
   obtain⟨_,_,b,o,us,rfl,_⟩:=Dy G hpos hr r1
   exact⟨_,rfl⟩
  ·simp[Prog.run] at h
 ·split at h
  ·obtain⟨cs,hp1,r1,_⟩:=Aa h
   obtain⟨_,_,b,o,us,rfl,_⟩:=Dy G Zo hr r1
   exact⟨_,rfl⟩
  ·simp[Prog.run] at h
def readRes (tmps:Array Value):ResultVar->Sem Value
 | .tmp t=>pure (tmps.getD t undef)
 | .cell a t=>do loadVar t (<-asAddr (tmps.getD a undef))
theorem Jy {fr:Nat->AV}{a:Act}: ∀{ts:List TypeId} {rvs:List ResultVar} {rs:List AV} {I:Nat->Prop} {hp hp':Hp},Gam I K m hp w->(∀t,Rep k I m hp w (fr t) (a.eval (.tmp t)))->(resultsP P fr ts rvs).run hp=some (rs,hp')->
  ∃I' bs us,(rvs.mapM (readRes a.tmps)).run P w= .ok us w/\Gam I' K m hp' w/\Ext I K m hp w I' m hp' w/\RepResL P I' w ts rs us bs/\(∀b∈bs,¬I' b/\ ¬K b)/\(∀b,I' b->I b\/Aw m hp b)/\(∀b∈bs,Aw m hp b/\ ¬Aw m hp' b)/\
   (∀b,Aw m hp' b->Aw m hp b)/\bs.Nodup
 |[],[],rs,I,hp,hp',G,hf,h=>by
  simp only[resultsP,Prog.run,Option.some.injEq,Prod.mk.injEq] at h
  obtain⟨rfl,rfl⟩:=h
  exact⟨I,[],[],rfl,G,.refl _ _ _ _ _,⟨rfl,rfl⟩,Zi,fun _ h=> .inl h,Zi,fun _ h=>h,Zi⟩
 |[],_::_,_,_,_,_,_,_,h=>by simp[resultsP,Prog.run] at h
 |_::_,[],_,_,_,_,_,_,h=>by simp[resultsP,Prog.run] at h
 |t::ts,rv::rvs,rs,I,hp,hp',G,hf,h=>by
  simp only[resultsP] at h
  obtain⟨v,hp1,r1,h2⟩:=Aa h
  clear h
  obtain⟨vs,hp2,r2,h3⟩:=Aa h2
  clear h2
  simp only[Prog.run,Option.some.injEq,Prod.mk.injEq] at h3
  obtain⟨rfl,rfl⟩:=h3
  have one: ∃u,(readRes a.tmps rv).run P w= .ok u w/\ ∃v0,Rep k I m hp w v0 u/\(hand P t v0).run hp=some (v,hp1):=by
   cases rv with
   |tmp s=>
    simp only[resultP] at r1
    exact⟨_,rfl,_,hf s,r1⟩
   |cell c t'=>
    simp only[resultP] at r1
    split at r1
    ·rename_i ht
     subst ht
     obtain⟨v0,hp0,r0,h4⟩:=Aa r1
     obtain⟨e0,u',hrun,hrep⟩:=Sd P G (hf c) r0
     obtain⟨ad,had⟩:=Vj P G (hf c) r0
     rw[e0] at h4
     refine⟨u',?_,v0,hrep,h4⟩
     have hev:a.tmps.getD c undef= .pointer (some ad):=had
     rw[had] at hrun
     simp only[readRes,hev,asAddr]
     simpa[Instr.loadAt,Instr.sureAddr] using hrun
    ·simp[Prog.run] at r1
  obtain⟨u,hu,v0,hv0,r1'⟩:=one
  obtain⟨I1,b1,G1,E1,d1,nb1,i1,l1,m1,n1⟩:=hand_ok G hv0 r1'
  obtain⟨I2,b2,us,hus,G2,E2,d2,nb2,i2,l2,m2,n2⟩:=Jy G1 (fun s=>Rep.mono E1 _ _ _ (hf s)) r2
  have hn1: ∀b∈b1,¬I1 b-> ¬I2 b:=fun b hb hn hi=>by
   rcases i2 b hi with h|h
   ·exact hn h
   ·exact(l1 b hb).2 h
  refine⟨I2,b1++b2,u::us,?_,G2,E1.trans E2,⟨u,us,b1,b2,rfl,rfl,d1.mono E2.isub hn1,d2⟩,fun b hb=>?_,fun b hb=>?_,fun b hb=>?_,fun b hb=>m1 b (m2 b hb),?_⟩
  ·rw[List.mapM_cons,Sem.run_bind,hu,Result.andThen_ok,Sem.run_bind,hus]
   rfl
  ·rcases List.mem_append.1 hb with hb|hb
   ·exact⟨hn1 b hb (nb1 b hb).1,(nb1 b hb).2⟩
   ·exact nb2 b hb
  ·rcases i2 b hb with hb|hb
   ·exact i1 b hb
   ·exact .inr (m1 b hb)
  ·rcases List.mem_append.1 hb with hb|hb
   ·exact⟨(l1 b hb).1,fun hl=>(l1 b hb).2 (m2 b hl)⟩
   ·exact⟨m1 b (l2 b hb).1,(l2 b hb).2⟩
  ·rw[List.nodup_append]
   exact⟨n1,n2,fun b hb1 c hc hbc=>(l1 b hb1).2 (by rw[hbc];exact(l2 c hc).1)⟩
theorem Br (fn:Func)(tmps:Array Value)(us:List Value)(h:(fn.results.toList.mapM (readRes tmps)).run P w= .ok us w):(results fn tmps).run P w= .ok (retV us) w:=by
 have:results fn tmps=(do let vs<-fn.results.mapM (readRes tmps);pure (if h:vs.size=1 then vs[0] else .tuple vs)):=by
  unfold results
  congr 1
 rw[this,Array.mapM_eq_mapM_toList,Sem.run_bind,Sem.run_map,h]
 simp only[Result.andThen_ok]
 match us with
 |[]=>rfl
 |[x]=>rfl
 |_::_::_=>rfl
end
theorem T5 {k:Nat}{I:Nat->Prop}{m:Mp}{hp:Hp}{w:World}{a:AV}{u:Value}(h:RepA I w a u):Rep k I m hp w a u:=by
 unfold RepA at h
 split at h
 ·obtain⟨us,rfl,h⟩:=h
  simp only[Rep]
  exact⟨us,rfl,(Ah _ _).2 (((A1 _ _).1 h).imp fun a u h=>RepD.rep h)⟩
 ·exact RepD.rep h
section
variable {P:Program}{E:Cfg}
theorem evFn_ok (hm:P.follows .mixedOrders=true)(hE:ELaw P E){call:Orc}(hC:A4 P call){n f:Nat}{fn:Func}(hfn:P.funcs[f]?=some fn){args rs:List AV}(h:evFn P E call n fn args=some rs)
  {I:Nat->Prop} {w:World} {us:List Value} (hI: ∀b,I b->b<w.heap.size) (hgl:GlOk I w) (ha:AllR (RepA I w) args us):Calls P f ⟨us⟩ w (fun e w'=> ∃u,e= .returned u/\CallPost P I w (rtys P f) rs u w'):=by
 unfold evFn at h
 split at h
 case h_2=>cases h
 rename_i c hb
 split at h
 case isFalse=>cases h
 rename_i hc
 simp only[Bool.and_eq_true,beq_iff_eq] at hc
 obtain⟨hbo,hlen⟩:=hc
 unfold Ac at hbo
 rw[hb] at hbo
 simp only[Bool.and_eq_true,decide_eq_true_eq] at hbo
 obtain⟨⟨hs1,hs2⟩,hs3⟩:=hbo
 have hus:us.length=fn.params.size+fn.nfree:=by rw[<-ha.1];exact hlen
 have hrt:rtys P f=fn.resultTypes.toList:=by simp[rtys,hfn]
 refine calls_of_wp hfn hb ?_
 have S0:StR 0 fn.ntmps (fun b=>b<w.heap.size/\ ¬I b) ⟨I,fun _=>none,hp0,w,[]⟩ ⟨frame0 args,hp0⟩ {tmps:=(⟨us⟩:Array Value)++Array.replicate (fn.ntmps - (⟨us⟩:Array Value).size) undef,defers:=[]} w:=by
  refine⟨I,fun _=>none,⟨fun x=>trivial,fun x y p q hl=>by simp[hp0,AObj.live] at hl,hI,fun b hb=>hb.1,fun b hb hk=>hk.2 hb,hgl⟩,.refl _ _ _ _ _,fun t=>?_,?_,rfl⟩
  ·by_cases ht:t<us.length
   ·have ht':t<args.length:=by rw[ha.1];exact ht
    have e1:frame0 args t=args[t]:=by simp[frame0,ht']
    have e2:Act.eval {tmps:=(⟨us⟩:Array Value)++Array.replicate (fn.ntmps - (⟨us⟩:Array Value).size) undef,defers:=[]} (.tmp t)=us[t]:=by
     simp[Act.eval,Array.getElem?_append,ht]
    rw[e2]
    show Rep 0 I (fun _=>none) hp0 w (frame0 args t) _
    rw[e1]
    exact T5 (ha.2 t _ _ (List.getElem?_eq_getElem ht') (List.getElem?_eq_getElem ht))
   ·have ht': ¬t<args.length:=by rw[ha.1];exact ht
    have e1:frame0 args t= .sc undef:=by simp only[frame0,List.getD_eq_getElem?_getD];rw[List.getElem?_eq_none Zo];rfl
    have e2:Act.eval {tmps:=(⟨us⟩:Array Value)++Array.replicate (fn.ntmps - (⟨us⟩:Array Value).size) undef,defers:=[]} (.tmp t)=undef:=by
     simp only[Act.eval,Array.getD_eq_getD_getElem?,Array.getElem?_append]
     rw[if_neg (by simpa using ht),Array.getElem?_replicate]
     split<;>rfl
    rw[e2]
    show Rep 0 I (fun _=>none) hp0 w (frame0 args t) _
    rw[e1]
    simp only[Rep]
  ·simp only[Array.size_append,List.size_toArray,Array.size_replicate]
   omega
 have fin: ∀(st:AS) (hpf:Hp),(resultsP P st.fr fn.resultTypes.toList fn.results.toList).run st.hp=some (rs,hpf)-> ∀a' w',StR 0 fn.ntmps (fun b=>b<w.heap.size/\ ¬I b) ⟨I,fun _=>none,hp0,w,[]⟩ st a' w'->
   a'.defers=[]/\ ∃v,(results fn a'.tmps).run P w'= .ok v w'/\ ∃u,Ending.returned v= .returned u/\CallPost P I w (rtys P f) rs u w':=by
  intro st hpf hr a' w' S
  obtain⟨I1,m1,G1,E1,hf1,_,hd1⟩:=S
  obtain⟨I2,bs,us',hrun,G2,E2,d2,nb,i2,l2,m2,n2⟩:=Jy G1 hf1 hr
  refine⟨hd1,retV us',Br fn _ us' hrun,retV us',rfl,?_⟩
  have E12:=E1.trans E2
  exact {
   old:=fun b hb=>E12.keep b (by
    by_cases hi:I b
    ·exact .inl hi
    ·exact .inr ⟨hb,hi⟩)
   size:=E12.size
   os:=E12.os
   tape:=E12.tape
   output:=E12.output
   res:=⟨I2,us',bs,rfl,E12.isub,fun b hb=>by
     by_cases hi:I b
     ·exact .inl hi
     ·exact .inr (Nat.le_of_not_lt fun hlt=>G2.ik b hb ⟨hlt,hi⟩),G2.ilt,fun b hb=>by
     refine⟨Nat.le_of_not_lt fun hlt=>?_,(nb b hb).1⟩
     by_cases hi:I b
     ·exact(nb b hb).1 (E12.isub b hi)
     ·exact(nb b hb).2 ⟨hlt,hi⟩,n2,by rw[hrt];exact d2⟩}
 split at h
 ·cases h
 ·rename_i e st hne hev
  cases hr:(resultsP P st.fr fn.resultTypes.toList fn.results.toList).run st.hp with
  |none=>rw[hr] at h;cases h
  |some p=>
   obtain⟨rs',hpf⟩:=p
   rw[hr] at h
   simp only[Option.map_some,Option.some.injEq] at h
   subst h
   refine B7 hm hE hC n c hs1 S0 hev fun a' w' S=>?_
   have hfin:=fin st hpf hr a' w' S
   cases e with
   |normal=>exact hfin
   |exit i=>exact(hne i rfl).elim
   |ret=>exact hfin
   |panic v=>exact(Cj n _ _ hev v rfl).elim
 ·cases h
/-! ### calls on the caller's heap -/
theorem Sq {K:Nat->Prop}{w:World}{k:Nat}{f:Nat->AV->Prog AV}
  (hf: ∀{I:Nat->Prop} {m:Mp} {hp hp':Hp} {c:Nat} {v v':AV} {u:Value},Gam I K m hp w->Rep (k+1) I m hp w v u->(f c v).run hp=some (v',hp')-> ∃I' m',Sim I' K m' hp' w v' k I m hp w u):
  ∀{as as':List AV} {us:List Value} {c:Nat} {I:Nat->Prop} {m:Mp} {hp hp':Hp},Gam I K m hp w->AllR (Rep (k+1) I m hp w) as us->(escL f c as).run hp=some (as',hp')->
  ∃I' m',Gam I' K m' hp' w/\Ext I K m hp w I' m' hp' w/\AllR (Rep k I' m' hp' w) as' us
 |[],as',us,c,I,m,hp,hp',G,hr,h=>by
  simp only[escL,Prog.run,Option.some.injEq,Prod.mk.injEq] at h
  obtain⟨rfl,rfl⟩:=h
  have:us=[]:=List.eq_nil_of_length_eq_zero (by rw[<-hr.1];rfl)
  subst this
  exact⟨I,m,G,.refl _ _ _ _ _,.nil⟩
 |a::as,as',us,c,I,m,hp,hp',G,hr,h=>by
  obtain⟨u,us',rfl,h1,h2⟩:=hr.cons_inv
  simp only[escL] at h
  obtain⟨v1,hp1,r1,h3⟩:=Aa h
  clear h
  obtain⟨vs,hp2,r2,h4⟩:=Aa h3
  clear h3
  simp only[Prog.run,Option.some.injEq,Prod.mk.injEq] at h4
  obtain⟨rfl,rfl⟩:=h4
  obtain⟨I1,m1,G1,E1,R1⟩:=hf G h1 r1
  obtain⟨I2,m2,G2,E2,R2⟩:=Sq hf G1 (h2.imp fun a u h=>Rep.mono E1 _ a u h) r2
  exact⟨I2,m2,G2,E1.trans E2,.cons (Rep.mono E2 _ _ _ R1) R2⟩
theorem escC_ok {K:Nat->Prop}{w:World}{k d:Nat}: ∀(n:Nat) {cap:Bool} {I:Nat->Prop} {m:Mp} {hp hp':Hp} {c:Nat} {v v':AV} {u:Value},Gam I K m hp w->Rep (k+1) I m hp w v u->(escC P k d n cap c v).run hp=some (v',hp')->
  ∃I' m',Sim I' K m' hp' w v' k I m hp w u:=by
 intro n
 induction n with
 |zero=>
  intro cap I m hp hp' c v v' u G hr h
  cases v with
  |sc x=>
   simp only[escC,Prog.run,Option.some.injEq,Prod.mk.injEq] at h
   obtain⟨rfl,rfl⟩:=h
   exact⟨I,m,G,.refl _ _ _ _ _,by simpa only[Rep] using hr⟩
  |sl f sz rows=>
   simp only[escC,Prog.run,Option.some.injEq,Prod.mk.injEq] at h
   obtain⟨rfl,rfl⟩:=h
   exact⟨I,m,G,.refl _ _ _ _ _,by simpa only[Rep] using hr⟩
  |dp c o=>
   simp only[escC,Prog.run,Option.some.injEq,Prod.mk.injEq] at h
   obtain⟨rfl,rfl⟩:=h
   exact⟨I,m,G,.refl _ _ _ _ _,by simpa only[Rep] using hr⟩
  |own x g n=>
   simp only[escC] at h
   split at h
   ·rename_i hd
    simp only[Prog.run,Option.some.injEq,Prod.mk.injEq] at h
    obtain⟨rfl,rfl⟩:=h
    refine⟨I,m,G,.refl _ _ _ _ _,?_⟩
    simp only[Rep] at hr⊢
    exact⟨hd,hr.2⟩
   ·obtain⟨I',m',G',E',R',_⟩:=Lh G hr h
    exact⟨I',m',G',E',R'⟩
  |ptr x g o=>
   simp only[escC] at h
   split at h
   ·rename_i hd
    simp only[Prog.run,Option.some.injEq,Prod.mk.injEq] at h
    obtain⟨rfl,rfl⟩:=h
    refine⟨I,m,G,.refl _ _ _ _ _,?_⟩
    simp only[Rep] at hr⊢
    exact⟨hd,hr.2⟩
   ·simp[Prog.run] at h
  |eptr x g i o=>
   simp only[escC] at h
   split at h
   ·rename_i hd
    simp only[Prog.run,Option.some.injEq,Prod.mk.injEq] at h
    obtain⟨rfl,rfl⟩:=h
    refine⟨I,m,G,.refl _ _ _ _ _,?_⟩
    simp only[Rep] at hr⊢
    exact⟨hd,hr.2⟩
   ·simp[Prog.run] at h
  |dmp ag ks rows=>
   simp only[escC,Prog.run,Option.some.injEq,Prod.mk.injEq] at h
   obtain⟨rfl,rfl⟩:=h
   exact⟨I,m,G,.refl _ _ _ _ _,by simpa only[Rep] using hr⟩
  |mp x g=>
   simp only[escC] at h
   split at h
   ·rename_i hd
    simp only[Prog.run,Option.some.injEq,Prod.mk.injEq] at h
    obtain⟨rfl,rfl⟩:=h
    refine⟨I,m,G,.refl _ _ _ _ _,?_⟩
    simp only[Rep] at hr⊢
    exact⟨hd,hr.2⟩
   ·simp only[Prog.run] at h
    cases hx:hp x with
    |no g'=>rw[hx] at h;simp[Prog.run] at h
    |box g' cells f=>rw[hx] at h;simp[Prog.run] at h
    |arr g' sz e' rows f=>rw[hx] at h;simp[Prog.run] at h
    |map g' ag ks rows f=>
     rw[hx] at h
     simp only at h
     split at h
     case isFalse=>simp[Prog.run] at h
     rename_i hg
     subst hg
     simp only[Prog.run,Option.some.injEq,Prod.mk.injEq] at h
     obtain⟨rfl,rfl⟩:=h
     obtain⟨I',G',E',hb,_⟩:=G.freezeMap' hx
     exact⟨I',m,G',E',(G.mapD hx hr E'.isub hb).rep⟩
  |any|agg|tup|vec|bsl|fn=>simp[escC,Prog.run] at h
 |succ n ih=>
  intro cap I m hp hp' c v v' u G hr h
  cases v with
  |sc x=>
   simp only[escC,Prog.run,Option.some.injEq,Prod.mk.injEq] at h
   obtain⟨rfl,rfl⟩:=h
   exact⟨I,m,G,.refl _ _ _ _ _,by simpa only[Rep] using hr⟩
  |sl f sz rows=>
   simp only[escC,Prog.run,Option.some.injEq,Prod.mk.injEq] at h
   obtain⟨rfl,rfl⟩:=h
   exact⟨I,m,G,.refl _ _ _ _ _,by simpa only[Rep] using hr⟩
  |dp c o=>
   simp only[escC,Prog.run,Option.some.injEq,Prod.mk.injEq] at h
   obtain⟨rfl,rfl⟩:=h
   exact⟨I,m,G,.refl _ _ _ _ _,by simpa only[Rep] using hr⟩
  |own x g n=>
   simp only[escC] at h
   split at h
   ·rename_i hd
    simp only[Prog.run,Option.some.injEq,Prod.mk.injEq] at h
    obtain⟨rfl,rfl⟩:=h
    refine⟨I,m,G,.refl _ _ _ _ _,?_⟩
    simp only[Rep] at hr⊢
    exact⟨hd,hr.2⟩
   ·obtain⟨I',m',G',E',R',_⟩:=Lh G hr h
    exact⟨I',m',G',E',R'⟩
  |eptr x g i o=>
   simp only[escC] at h
   split at h
   ·rename_i hd
    simp only[Prog.run,Option.some.injEq,Prod.mk.injEq] at h
    obtain⟨rfl,rfl⟩:=h
    refine⟨I,m,G,.refl _ _ _ _ _,?_⟩
    simp only[Rep] at hr⊢
    exact⟨hd,hr.2⟩
   ·simp[Prog.run] at h
  |fn f caps=>
   simp only[escC] at h
   simp only[Rep] at hr
   obtain⟨us,rfl,hr⟩:=hr
   obtain⟨cs,hp1,r1,h2⟩:=Aa h
   simp only[Prog.run,Option.some.injEq,Prod.mk.injEq] at h2
   obtain⟨rfl,rfl⟩:=h2
   obtain⟨I',m',G',E',R'⟩:=Sq (fun G hr h=>ih G hr h) G ((Ah _ _).1 hr) r1
   refine⟨I',m',G',E',?_⟩
   simp only[Rep]
   exact⟨us,rfl,(Ah _ _).2 R'⟩
  |ptr x g o=>
   simp only[escC] at h
   split at h
   ·rename_i hd
    simp only[Prog.run,Option.some.injEq,Prod.mk.injEq] at h
    obtain⟨rfl,rfl⟩:=h
    refine⟨I,m,G,.refl _ _ _ _ _,?_⟩
    simp only[Rep] at hr⊢
    exact⟨hd,hr.2⟩
   ·simp only[Prog.run] at h
    cases hx:hp x with
    |no g'=>rw[hx] at h;simp[Prog.run] at h
    |map _ _ _ _ _=>rw[hx] at h;simp[Prog.run] at h
    |arr g' sz e' rows f=>rw[hx] at h;simp[Prog.run] at h
    |box g' cells f=>
     rw[hx] at h
     simp only at h
     split at h
     case isFalse=>simp[Prog.run] at h
     rename_i hg
     subst hg
     split at h
     ·rename_i hc
      simp only[Bool.and_eq_true] at hc
      have hdat:=hc.2
      simp only[Prog.run,Option.some.injEq,Prod.mk.injEq] at h
      obtain⟨rfl,rfl⟩:=h
      obtain⟨I',G',E',hb'⟩:=G.freezeBox hx (fun us hus=>Fh hdat hus)
      have ho:=G'.obj x
      rw[Ae] at ho
      obtain⟨b,c,us,T,mk,o1,o2,o3,o4,o5,o6⟩:=ho
      have hda:=(o5 rfl).2
      simp only[Rep] at hr
      obtain⟨_,_,hr⟩:=hr
      obtain⟨b',c',hm,rfl⟩:=hr cells f hx
      rw[o1] at hm;cases hm
      refine⟨I',m,G',E',?_⟩
      simp only[Rep,RepD]
      refine⟨b,0,us.toList.take cells.length,Zi,(o5 rfl).1,fun j v hv=>?_,hda⟩
      rw[cell_of_row w b (0+j) us T mk o2]
      simpa using C6 hv
     ·split at h
      case isFalse=>simp[Prog.run] at h
      rename_i hfz
      subst hfz
      obtain⟨cs,hp1,r1,h2⟩:=Aa h
      clear h
      have ho:=G.obj x
      rw[hx] at ho
      obtain⟨b,c0,us,T,mk,o1,o2,o3,o4,o5,o6⟩:=ho
      simp only[Rep] at hr
      obtain⟨hd1,_,hr⟩:=hr
      obtain⟨b',c',hm,rfl⟩:=hr cells false hx
      rw[o1] at hm;cases hm
      obtain⟨I1,m1,G1,E1,R1⟩:=Sq (fun G hr h=>ih G hr h) G (((Ah _ _).1 o4).imp fun a u h=>Rep.depth hd1 a u h) r1
      simp only[moveB,Prog.run] at h2
      cases hx1:hp1 x with
      |no g1=>rw[hx1] at h2;simp[Prog.run] at h2
      |map _ _ _ _ _=>rw[hx1] at h2;simp[Prog.run] at h2
      |arr g1 sz e' rows f=>rw[hx1] at h2;simp[Prog.run] at h2
      |box g1 cells1 f1=>
       rw[hx1] at h2
       simp only at h2
       split at h2
       case isFalse=>simp[Prog.run] at h2
       rename_i hc
       obtain⟨rfl,rfl,hxy⟩:=hc
       simp only[Prog.run,Option.some.injEq,Prod.mk.injEq,Al _ _ (Ne.symm hxy)] at h2
       obtain⟨rfl,rfl⟩:=h2
       have hst:=E1.stable x (by rw[hx1,hx];rfl)
       rw[hx] at hst
       have hmx:m1 x=some (b,c0):=by rw[hst.1,o1]
       have ho1:=G1.obj x
       rw[hx1] at ho1
       obtain⟨b1,c1,us1,T1,mk1,q1,q2,q3,q4,q5,q6⟩:=ho1
       rw[hmx] at q1;cases q1
       rw[o2] at q2;cases q2
       obtain⟨G2,E2⟩:=G1.moveBox (cs:=cs) hxy hx1 hmx o2 o3 (by rw[show cs.length=cells.length from R1.1.trans ((Ah _ _).1 o4).1.symm];exact(Ah _ _).2 R1) (q6 rfl)
       refine⟨I1,_,G2,E1.trans E2,?_⟩
       simp only[Rep]
       refine⟨Nat.le_refl _,by rw[Ae];exact Nat.le_refl _,fun cells' fz' hx'=>⟨b,c0,by rw[Ae];exact hmx,rfl⟩⟩
  |dmp ag ks rows=>
   simp only[escC,Prog.run,Option.some.injEq,Prod.mk.injEq] at h
   obtain⟨rfl,rfl⟩:=h
   exact⟨I,m,G,.refl _ _ _ _ _,by simpa only[Rep] using hr⟩
  |mp x g=>
   simp only[escC] at h
   split at h
   ·rename_i hd
    simp only[Prog.run,Option.some.injEq,Prod.mk.injEq] at h
    obtain⟨rfl,rfl⟩:=h
    refine⟨I,m,G,.refl _ _ _ _ _,?_⟩
    simp only[Rep] at hr⊢
    exact⟨hd,hr.2⟩
   ·simp only[Prog.run] at h
    cases hx:hp x with
    |no g'=>rw[hx] at h;simp[Prog.run] at h
    |box g' cells f=>rw[hx] at h;simp[Prog.run] at h
    |arr g' sz e' rows f=>rw[hx] at h;simp[Prog.run] at h
    |map g' ag ks rows f=>
     rw[hx] at h
     simp only at h
     split at h
     case isFalse=>simp[Prog.run] at h
     rename_i hg
     subst hg
     simp only[Prog.run,Option.some.injEq,Prod.mk.injEq] at h
     obtain⟨rfl,rfl⟩:=h
     obtain⟨I',G',E',hb,_⟩:=G.freezeMap' hx
     exact⟨I',m,G',E',(G.mapD hx hr E'.isub hb).rep⟩
  |any|agg|tup|vec|bsl=>simp[escC,Prog.run] at h
theorem Qf {I K:Nat->Prop}{m:Mp}{hp hp':Hp}{w:World}{k:Nat}(G:Gam I K m hp w){y:Nm}(hy:y.d=k){v v':AV}{u:Value}(hr:Rep (k+1) I m hp w v u)(h:(lowerC P k y v).run hp=some (v',hp')):
  ∃I' m',Sim I' K m' hp' w v' k I m hp w u:=escC_ok 6 G hr h
theorem Qe {K:Nat->Prop}{w:World}{k d:Nat}: ∀{c:Nat} {as as':List AV} {us:List Value} {I:Nat->Prop} {m:Mp} {hp hp':Hp},Gam I K m hp w->AllR (Rep (k+1) I m hp w) as us->(lowerL P k d c as).run hp=some (as',hp')->
  ∃I' m',Gam I' K m' hp' w/\Ext I K m hp w I' m' hp' w/\AllR (Rep k I' m' hp' w) as' us
 |c,[],as',us,I,m,hp,hp',G,hr,h=>by
  simp only[lowerL,Prog.run,Option.some.injEq,Prod.mk.injEq] at h
  obtain⟨rfl,rfl⟩:=h
  have:us=[]:=List.eq_nil_of_length_eq_zero (by rw[<-hr.1];rfl)
  subst this
  exact⟨I,m,G,.refl _ _ _ _ _,.nil⟩
 |c,a::as,as',us,I,m,hp,hp',G,hr,h=>by
  obtain⟨u,us',rfl,h1,h2⟩:=hr.cons_inv
  simp only[lowerL] at h
  obtain⟨v1,hp1,r1,h3⟩:=Aa h
  clear h
  obtain⟨vs,hp2,r2,h4⟩:=Aa h3
  clear h3
  simp only[Prog.run,Option.some.injEq,Prod.mk.injEq] at h4
  obtain⟨rfl,rfl⟩:=h4
  obtain⟨I1,m1,G1,E1,R1⟩:=Qf G (y:=⟨k,d,c⟩) rfl h1 r1
  obtain⟨I2,m2,G2,E2,R2⟩:=Qe G1 (h2.imp fun a u h=>Rep.mono E1 _ a u h) r2
  exact⟨I2,m2,G2,E1.trans E2,.cons (Rep.mono E2 _ _ _ R1) R2⟩
theorem Qd {I K:Nat->Prop}{m:Mp}{hp hp':Hp}{w:World}{k d c:Nat}(G:Gam I K m hp w){v v':AV}{u:Value}(hr:Rep (k+1) I m hp w v u)(h:(lowerV P k d c v).run hp=some (v',hp')):
  ∃I' m',Sim I' K m' hp' w v' k I m hp w u:=by
 unfold lowerV at h
 split at h
 ·rename_i cs
  simp only[Rep] at hr
  obtain⟨us,rfl,hr⟩:=hr
  obtain⟨vs,hp1,r1,h2⟩:=Aa h
  simp only[Prog.run,Option.some.injEq,Prod.mk.injEq] at h2
  obtain⟨rfl,rfl⟩:=h2
  obtain⟨I',m',G',E',R'⟩:=Qe G ((Ah _ _).1 hr) r1
  refine⟨I',m',G',E',?_⟩
  simp only[Rep]
  exact⟨us,rfl,(Ah _ _).2 R'⟩
 ·exact Qf G (y:=⟨k,d,c⟩) rfl hr h
theorem Fq {I K:Nat->Prop}{m:Mp}{hp hp':Hp}{w:World}{k:Nat}(G:Gam I K m hp w){fr:Nat->AV}{a:Act}(hf: ∀t,Rep k I m hp w (fr t) (a.eval (.tmp t))){r:ResultVar}{v:AV}(h:(resultV P fr r).run hp=some (v,hp')):
  hp'=hp/\ ∃u,(readRes a.tmps r).run P w= .ok u w/\Rep k I m hp w v u:=by
 cases r with
 |tmp s=>
  simp only[resultV,Prog.run,Option.some.injEq,Prod.mk.injEq] at h
  obtain⟨rfl,rfl⟩:=h
  exact⟨rfl,_,rfl,hf s⟩
 |cell c t=>
  simp only[resultV] at h
  obtain⟨e0,u',hrun,hrep⟩:=Sd P G (hf c) h
  obtain⟨ad,had⟩:=Vj P G (hf c) h
  refine⟨e0,u',?_,hrep⟩
  have hev:a.tmps.getD c undef= .pointer (some ad):=had
  rw[had] at hrun
  simp only[readRes,hev,asAddr]
  simpa[Instr.loadAt,Instr.sureAddr] using hrun
theorem Mf {K:Nat->Prop}{w:World}{k d:Nat}{fr:Nat->AV}{a:Act}: ∀{c:Nat} {rvs:List ResultVar} {as':List AV} {I:Nat->Prop} {m:Mp} {hp hp':Hp},Gam I K m hp w->(∀t,Rep (k+1) I m hp w (fr t) (a.eval (.tmp t)))->(lowerAll P fr k d c rvs).run hp=some (as',hp')->
  ∃I' m' us,(rvs.mapM (readRes a.tmps)).run P w= .ok us w/\Gam I' K m' hp' w/\Ext I K m hp w I' m' hp' w/\AllR (Rep k I' m' hp' w) as' us/\us.length=rvs.length
 |c,[],as',I,m,hp,hp',G,hf,h=>by
  simp only[lowerAll,Prog.run,Option.some.injEq,Prod.mk.injEq] at h
  obtain⟨rfl,rfl⟩:=h
  exact⟨I,m,[],rfl,G,.refl _ _ _ _ _,.nil,rfl⟩
 |c,r::rvs,as',I,m,hp,hp',G,hf,h=>by
  simp only[lowerAll] at h
  obtain⟨v0,hp0,r0,h1⟩:=Aa h
  clear h
  obtain⟨v1,hp1,r1,h2⟩:=Aa h1
  clear h1
  obtain⟨vs,hp2,r2,h3⟩:=Aa h2
  clear h2
  simp only[Prog.run,Option.some.injEq,Prod.mk.injEq] at h3
  obtain⟨rfl,rfl⟩:=h3
  obtain⟨e0,u,hu,hru⟩:=Fq G hf r0
  rw[e0] at r1
  obtain⟨I1,m1,G1,E1,R1⟩:=Qd G hru r1
  obtain⟨I2,m2,us,hus,G2,E2,R2,hl⟩:=Mf G1 (fun s=>Rep.mono E1 _ _ _ (hf s)) r2
  refine⟨I2,m2,u::us,?_,G2,E1.trans E2,.cons (Rep.mono E2 _ _ _ R1) R2,by simp[hl]⟩
  rw[List.mapM_cons,Sem.run_bind,hu,Result.andThen_ok,Sem.run_bind,hus]
  rfl
theorem Gw {I K:Nat->Prop}{m:Mp}{hp hp':Hp}{w:World}{k d:Nat}(G:Gam I K m hp w){fr:Nat->AV}{a:Act}(hf: ∀t,Rep (k+1) I m hp w (fr t) (a.eval (.tmp t))){rvs:List ResultVar}{v:AV}(h:(lowerRes P fr k d rvs).run hp=some (v,hp')):
  ∃us,(rvs.mapM (readRes a.tmps)).run P w= .ok us w/\ ∃I' m',Sim I' K m' hp' w v k I m hp w (retV us):=by
 unfold lowerRes at h
 split at h
 ·rename_i r
  obtain⟨v0,hp0,r0,h1⟩:=Aa h
  obtain⟨e0,u,hu,hru⟩:=Fq G hf r0
  rw[e0] at h1
  obtain⟨I1,m1,S⟩:=Qd G hru h1
  refine⟨[u],?_,I1,m1,S⟩
  rw[List.mapM_cons,Sem.run_bind,hu]
  rfl
 ·rename_i hne
  obtain⟨vs,hp1,r1,h2⟩:=Aa h
  simp only[Prog.run,Option.some.injEq,Prod.mk.injEq] at h2
  obtain⟨rfl,rfl⟩:=h2
  obtain⟨I1,m1,us,hus,G1,E1,R1,hl⟩:=Mf G hf r1
  refine⟨us,hus,I1,m1,G1,E1,?_⟩
  have hret:retV us= .tuple ⟨us⟩:=by
   match us,hl with
   |[],_=>rfl
   |[x],hl=>
    exfalso
    match rvs,hl with
    |[r],_=>exact hne r rfl
   |_::_::_,_=>rfl
  rw[hret]
  simp only[Rep]
  exact⟨us,rfl,(Ah _ _).2 R1⟩
theorem Ek {I:Nat->Prop}{m:Mp}{hp:Hp}{w:World}{k n:Nat}{args:List AV}{us:List Value}(ha:AllR (Rep k I m hp w) args us)(t:Nat):
  Rep k I m hp w (frame0 args t) (Act.eval {tmps:=(⟨us⟩:Array Value)++Array.replicate n undef,defers:=[]} (.tmp t)):=by
 by_cases ht:t<us.length
 ·have ht':t<args.length:=by rw[ha.1];exact ht
  have e1:frame0 args t=args[t]:=by simp[frame0,ht']
  have e2:Act.eval {tmps:=(⟨us⟩:Array Value)++Array.replicate n undef,defers:=[]} (.tmp t)=us[t]:=by
   simp[Act.eval,Array.getElem?_append,ht]
  rw[e1,e2]
  exact ha.2 t _ _ (List.getElem?_eq_getElem ht') (List.getElem?_eq_getElem ht)
 ·have ht': ¬t<args.length:=by rw[ha.1];exact ht
  have e1:frame0 args t= .sc undef:=by simp only[frame0,List.getD_eq_getElem?_getD];rw[List.getElem?_eq_none Zo];rfl
  have e2:Act.eval {tmps:=(⟨us⟩:Array Value)++Array.replicate n undef,defers:=[]} (.tmp t)=undef:=by
   simp only[Act.eval,Array.getD_eq_getD_getElem?,Array.getElem?_append]
   rw[if_neg (by simpa using ht),Array.getElem?_replicate]
   split<;>rfl
  rw[e1,e2]
  simp only[Rep]
theorem L2a (hm:P.follows .mixedOrders=true)(hE:ELaw P E){call:Orc}(hC:A4 P call){n f k d:Nat}{fn:Func}(hfn:P.funcs[f]?=some fn){args:List AV}{v:AV}{hp hp':Hp}(h:evFnH P E call n fn k d args hp=some (v,hp'))
  {I K:Nat->Prop} {m:Mp} {w:World} {us:List Value} (G:Gam I K m hp w) (ha:AllR (Rep k I m hp w) args us):Calls P f ⟨us⟩ w (fun e w'=> ∃u,e= .returned u/\ ∃I' m',Sim I' K m' hp' w' v k I m hp w u):=by
 unfold evFnH at h
 split at h
 case h_2=>cases h
 rename_i c hb
 split at h
 case isFalse=>cases h
 rename_i hc
 simp only[Bool.and_eq_true,beq_iff_eq] at hc
 obtain⟨hbo,hlen⟩:=hc
 unfold Ac at hbo
 rw[hb] at hbo
 simp only[Bool.and_eq_true,decide_eq_true_eq] at hbo
 obtain⟨⟨hs1,hs2⟩,hs3⟩:=hbo
 have hus:us.length=fn.params.size+fn.nfree:=by rw[<-ha.1];exact hlen
 refine calls_of_wp hfn hb ?_
 have S0:StR (k+1) fn.ntmps K ⟨I,m,hp,w,[]⟩ ⟨frame0 args,hp⟩ {tmps:=(⟨us⟩:Array Value)++Array.replicate (fn.ntmps - (⟨us⟩:Array Value).size) undef,defers:=[]} w:=by
  refine⟨I,m,G,.refl _ _ _ _ _,fun t=>Ek (ha.imp fun a u h=>Rep.depth (Nat.le_succ k) a u h) t,?_,rfl⟩
  simp only[Array.size_append,List.size_toArray,Array.size_replicate]
  omega
 split at h
 ·cases h
 ·rename_i e st hne hev
  refine B7 hm hE hC n c hs1 S0 hev fun a' w' S=>?_
  obtain⟨I1,m1,G1,E1,hf1,_,hd1⟩:=S
  obtain⟨us',hrun,I2,m2,G2,E2,R2⟩:=Gw G1 hf1 h
  have hfin:a'.defers=[]/\ ∃v',(results fn a'.tmps).run P w'= .ok v' w'/\ ∃u,Ending.returned v'= .returned u/\ ∃I' m',Sim I' K m' hp' w' v k I m hp w u:=
   ⟨hd1,retV us',Br fn _ us' hrun,retV us',rfl,I2,m2,G2,E1.trans E2,R2⟩
  cases e with
  |normal=>exact hfin
  |exit i=>exact(hne i rfl).elim
  |ret=>exact hfin
  |panic v=>exact(Cj n _ _ hev v rfl).elim
 ·cases h
theorem Lo {I K:Nat->Prop}{m:Mp}{hp:Hp}{w:World}{k:Nat}(G:Gam I K m hp w){fr:Nat->AV}{a:Act}(hf: ∀t,Rep k I m hp w (fr t) (a.eval (.tmp t))): ∀{rvs:List ResultVar} {vs:List AV} {hp':Hp},(inlAll P fr rvs).run hp=some (vs,hp')->
  hp'=hp/\ ∃us,(rvs.mapM (readRes a.tmps)).run P w= .ok us w/\AllR (Rep k I m hp w) vs us/\us.length=rvs.length
 |[],vs,hp',h=>by
  simp only[inlAll,Prog.run,Option.some.injEq,Prod.mk.injEq] at h
  obtain⟨rfl,rfl⟩:=h
  exact⟨rfl,[],rfl,.nil,rfl⟩
 |r::rvs,vs,hp',h=>by
  simp only[inlAll] at h
  obtain⟨v0,hp0,r0,h1⟩:=Aa h
  obtain⟨vs',hp1,r1,h2⟩:=Aa h1
  simp only[Prog.run,Option.some.injEq,Prod.mk.injEq] at h2
  obtain⟨rfl,rfl⟩:=h2
  obtain⟨e0,u,hu,hru⟩:=Fq G hf r0
  rw[e0] at r1
  obtain⟨e1,us,hus,R,hl⟩:=Lo G hf r1
  refine⟨e1,u::us,?_,.cons hru R,by simp[hl]⟩
  rw[List.mapM_cons,Sem.run_bind,hu,Result.andThen_ok,Sem.run_bind,hus]
  rfl
theorem Eqa {I K:Nat->Prop}{m:Mp}{hp hp':Hp}{w:World}{k:Nat}(G:Gam I K m hp w){fr:Nat->AV}{a:Act}(hf: ∀t,Rep k I m hp w (fr t) (a.eval (.tmp t))){rvs:List ResultVar}{v:AV}(h:(inlRes P fr rvs).run hp=some (v,hp')):
  hp'=hp/\ ∃us,(rvs.mapM (readRes a.tmps)).run P w= .ok us w/\Rep k I m hp w v (retV us):=by
 unfold inlRes at h
 split at h
 ·rename_i r
  obtain⟨e0,u,hu,hru⟩:=Fq G hf h
  refine⟨e0,[u],?_,hru⟩
  rw[List.mapM_cons,Sem.run_bind,hu]
  rfl
 ·rename_i hne
  obtain⟨vs,hp1,r1,h2⟩:=Aa h
  simp only[Prog.run,Option.some.injEq,Prod.mk.injEq] at h2
  obtain⟨rfl,rfl⟩:=h2
  obtain⟨e1,us,hus,R,hl⟩:=Lo G hf r1
  refine⟨e1,us,hus,?_⟩
  have hret:retV us= .tuple ⟨us⟩:=by
   match us,hl with
   |[],_=>rfl
   |[x],hl=>
    exfalso
    match rvs,hl with
    |[r],_=>exact hne r rfl
   |_::_::_,_=>rfl
  rw[hret]
  simp only[Rep]
  exact⟨us,rfl,(Ah _ _).2 R⟩
theorem L1a (hm:P.follows .mixedOrders=true)(hE:ELaw P E){call:Orc}(hC:A4 P call){n f k d:Nat}{fn:Func}(hfn:P.funcs[f]?=some fn){args:List AV}{v:AV}{hp hp':Hp}(h:evFnI P E call n fn k d args hp=some (v,hp'))
  {I K:Nat->Prop} {m:Mp} {w:World} {us:List Value} (G:Gam I K m hp w) (ha:AllR (Rep k I m hp w) args us):Calls P f ⟨us⟩ w (fun e w'=> ∃u,e= .returned u/\ ∃I' m',Sim I' K m' hp' w' v k I m hp w u):=by
 unfold evFnI at h
 split at h
 case h_2=>cases h
 rename_i c hb
 split at h
 case isFalse=>cases h
 rename_i hc
 simp only[Bool.and_eq_true,beq_iff_eq] at hc
 obtain⟨hbo,hlen⟩:=hc
 unfold Ac at hbo
 rw[hb] at hbo
 simp only[Bool.and_eq_true,decide_eq_true_eq] at hbo
 obtain⟨⟨hs1,hs2⟩,hs3⟩:=hbo
 have hus:us.length=fn.params.size+fn.nfree:=by rw[<-ha.1];exact hlen
 refine calls_of_wp hfn hb ?_
 have S0:StR k fn.ntmps K ⟨I,m,hp,w,[]⟩ ⟨frame0 args,hp⟩ {tmps:=(⟨us⟩:Array Value)++Array.replicate (fn.ntmps - (⟨us⟩:Array Value).size) undef,defers:=[]} w:=by
  refine⟨I,m,G,.refl _ _ _ _ _,fun t=>Ek ha t,?_,rfl⟩
  simp only[Array.size_append,List.size_toArray,Array.size_replicate]
  omega
 have hE':ELaw P (E.at ((d+1)*1000)):=hE
 split at h
 ·cases h
 ·rename_i e st hne hev
  refine B7 hm hE' hC n c hs1 S0 hev fun a' w' S=>?_
  obtain⟨I1,m1,G1,E1,hf1,_,hd1⟩:=S
  obtain⟨e1,us',hrun,R2⟩:=Eqa G1 hf1 h
  subst e1
  have hfin:a'.defers=[]/\ ∃v',(results fn a'.tmps).run P w'= .ok v' w'/\ ∃u,Ending.returned v'= .returned u/\ ∃I' m',Sim I' K m' st.hp w' v k I m hp w u:=
   ⟨hd1,retV us',Br fn _ us' hrun,retV us',rfl,I1,m1,G1,E1,R2⟩
  cases e with
  |normal=>exact hfin
  |exit i=>exact(hne i rfl).elim
  |ret=>exact hfin
  |panic v=>exact(Cj n _ _ hev v rfl).elim
 ·cases h
theorem RepA.rep {I:Nat->Prop}{m:Mp}{hp:Hp}{w:World}{k:Nat}{a:AV}{u:Value}(h:RepA I w a u):Rep k I m hp w a u:=by
 cases a with
 |agg cs=>
  obtain⟨us,rfl,h⟩:=h
  simp only[Rep]
  exact⟨us,rfl,(Ah _ _).2 (((A1 _ _).1 h).imp fun a u h=>RepD.rep h)⟩
 |_=>exact RepD.rep h
theorem Exa {I K:Nat->Prop}{m:Mp}{hp hp':Hp}{w:World}{k k':Nat}(G:Gam I K m hp w){fr:Nat->AV}{a:Act}(hf: ∀t,Rep k' I m hp w (fr t) (a.eval (.tmp t))){ts:List TypeId}{rvs:List ResultVar}{v:AV}(h:(frzRes P fr ts rvs).run hp=some (v,hp')):
  ∃us,(rvs.mapM (readRes a.tmps)).run P w= .ok us w/\ ∃I' m',Sim I' K m' hp' w v k I m hp w (retV us):=by
 unfold frzRes at h
 obtain⟨vs,hp1,r1,h1⟩:=Aa h
 obtain⟨as,hp2,r2,h2⟩:=Aa h1
 simp only[Prog.run,Option.some.injEq,Prod.mk.injEq] at h2
 obtain⟨rfl,rfl⟩:=h2
 obtain⟨e1,us,hus,R,hl⟩:=Lo G hf r1
 subst e1
 obtain⟨I1,G1,E1,d1⟩:=K5 G R r2
 refine⟨us,hus,I1,m,G1,E1,?_⟩
 have hll:=d1.1
 match as,us,hll with
 |[],[],_=>simp only[packV,retV,Rep];exact⟨[],rfl,by simp only[RepL]⟩
 |[v],[u],_=>exact RepA.rep (d1.2 0 _ _ rfl rfl)
 |v1::v2::vs,u1::u2::us,_=>
  have:Rep k I1 m hp2 w (.tup (v1::v2::vs)) (.tuple ⟨u1::u2::us⟩):=by
   simp only[Rep]
   exact⟨_,rfl,(Ah _ _).2 (d1.imp fun a u h=>RepA.rep h)⟩
  exact this
theorem L0a (hm:P.follows .mixedOrders=true)(hE:ELaw P E){call:Orc}(hC:A4 P call){n f k:Nat}{fn:Func}(hfn:P.funcs[f]?=some fn){args:List AV}{v:AV}{hp hp':Hp}(h:evFnZ P E call n fn k args hp=some (v,hp'))
  {I K:Nat->Prop} {m:Mp} {w:World} {us:List Value} (G:Gam I K m hp w) (ha:AllR (Rep k I m hp w) args us):Calls P f ⟨us⟩ w (fun e w'=> ∃u,e= .returned u/\ ∃I' m',Sim I' K m' hp' w' v k I m hp w u):=by
 unfold evFnZ at h
 split at h
 case h_2=>cases h
 rename_i c hb
 split at h
 case isFalse=>cases h
 rename_i hc
 simp only[Bool.and_eq_true,beq_iff_eq] at hc
 obtain⟨hbo,hlen⟩:=hc
 unfold Ac at hbo
 rw[hb] at hbo
 simp only[Bool.and_eq_true,decide_eq_true_eq] at hbo
 obtain⟨⟨hs1,hs2⟩,hs3⟩:=hbo
 have hus:us.length=fn.params.size+fn.nfree:=by rw[<-ha.1];exact hlen
 refine calls_of_wp hfn hb ?_
 have S0:StR (k+1) fn.ntmps K ⟨I,m,hp,w,[]⟩ ⟨frame0 args,hp⟩ {tmps:=(⟨us⟩:Array Value)++Array.replicate (fn.ntmps - (⟨us⟩:Array Value).size) undef,defers:=[]} w:=by
  refine⟨I,m,G,.refl _ _ _ _ _,fun t=>Ek (ha.imp fun a u h=>Rep.depth (Nat.le_succ k) a u h) t,?_,rfl⟩
  simp only[Array.size_append,List.size_toArray,Array.size_replicate]
  omega
 split at h
 ·cases h
 ·rename_i e st hne hev
  refine B7 hm hE hC n c hs1 S0 hev fun a' w' S=>?_
  obtain⟨I1,m1,G1,E1,hf1,_,hd1⟩:=S
  obtain⟨us',hrun,I2,m2,G2,E2,R2⟩:=Exa (k:=k) G1 hf1 h
  have hfin:a'.defers=[]/\ ∃v',(results fn a'.tmps).run P w'= .ok v' w'/\ ∃u,Ending.returned v'= .returned u/\ ∃I' m',Sim I' K m' hp' w' v k I m hp w u:=
   ⟨hd1,retV us',Br fn _ us' hrun,retV us',rfl,I2,m2,G2,E1.trans E2,R2⟩
  cases e with
  |normal=>exact hfin
  |exit i=>exact(hne i rfl).elim
  |ret=>exact hfin
  |panic v=>exact(Cj n _ _ hev v rfl).elim
 ·cases h
theorem D7 (hm:P.follows .mixedOrders=true)(hE:ELaw P E){X:Orc}(hX:A4 P X): ∀n,A4 P (evCall P E X n)
 |0=>hX
 |n+1=>by
  refine⟨fun f args rs h hok I w us hI hgl ha=>?_,fun k d f args hp v hp' h hok I K m w us G ha=>?_⟩
  ·simp only[evCall] at h
   split at h
   ·rename_i rs' hx
    cases h
    exact hX.1 f args rs hx hok I w us hI hgl ha
   ·split at h
    ·rename_i fn hfn
     exact evFn_ok hm hE (D7 hm hE hX n) hfn h hI hgl ha
    ·cases h
  ·simp only[evCall] at h
   split at h
   ·rename_i r hx
    cases h
    exact hX.2 k d f args hp v hp' hx hok I K m w us G ha
   ·split at h
    ·rename_i fn hfn
     split at h
     ·exact L1a hm hE (D7 hm hE hX n) hfn h G ha
     ·split at h
      ·exact L0a hm hE (D7 hm hE hX n) hfn h G ha
      ·exact L2a hm hE (D7 hm hE hX n) hfn h G ha
    ·cases h
end
end
section
open Go
structure Orc.le (c c':Orc):Prop where
 dat: ∀f a r,c.dat f a=some r->c'.dat f a=some r
 hpc: ∀k d f a hp r,c.hpc k d f a hp=some r->c'.hpc k d f a hp=some r
theorem Orc.le.refl (c:Orc):c.le c:=⟨fun _ _ _ h=>h,fun _ _ _ _ _ _ h=>h⟩
theorem Orc.le.trans {a b c:Orc}(h:a.le b)(h':b.le c):a.le c:=⟨fun _ _ _ x=>h'.dat _ _ _ (h.dat _ _ _ x),fun _ _ _ _ _ _ x=>h'.hpc _ _ _ _ _ _ (h.hpc _ _ _ _ _ _ x)⟩
theorem Au {α β:Type}(p:Prog α)(f:α->Prog β): ∀(hp:Hp) (R W:List Facet),(p.bind f).runF hp R W=match p.runF hp R W with|some (a,hp',R',W')=>(f a).runF hp' R' W'|none=>none:=by
 induction p with
 |ret a=>intro hp R W;rfl
 |get x k ih=>intro hp R W;exact ih _ hp _ _
 |put x o k ih=>intro hp R W;exact ih _ _ _
 |hdr x k ih=>intro hp R W;exact ih _ hp _ _
 |getC x off k ih=>
  intro hp R W
  simp only[Prog.bind,Prog.runF]
  cases cellOf (hp x) off with
  |none=>rfl
  |some v=>exact ih v hp _ _
 |putC x off v k ih=>
  intro hp R W
  simp only[Prog.bind,Prog.runF]
  cases setCellOf (hp x) off v with
  |none=>rfl
  |some o=>exact ih _ _ _
 |ext g k ih=>
  intro hp R W
  simp only[Prog.bind,Prog.runF]
  cases g hp with
  |none=>rfl
  |some q=>exact ih _ _ _ _
 |fail=>intro hp R W;rfl
section
variable {P:Program}{E:Cfg}{k:Nat}{call call':Orc}{all:Array Oper}
theorem Yb (hle:call.le call'){d f:Nat}{args:List AV}{hp:Hp}:(∀r,(callP P E k d call f args).run hp=some r->(callP P E k d call' f args).run hp=some r)/\
  (∀R W r,(callP P E k d call f args).runF hp R W=some r->(callP P E k d call' f args).runF hp R W=some r):=by
 unfold callP
 by_cases h1:okFn P f=true
 ·rw[if_pos h1,if_pos h1]
  by_cases h2:E.hp f=true
  ·rw[if_pos h2,if_pos h2]
   constructor
   ·intro r h
    simp only[Prog.run] at h⊢
    cases hg:call.hpc k d f args hp with
    |none=>rw[hg] at h;cases h
    |some q=>rw[hg] at h;rw[hle.hpc _ _ _ _ _ _ hg];exact h
   ·intro R W r h
    simp only[Prog.runF] at h⊢
    cases hg:call.hpc k d f args hp with
    |none=>rw[hg] at h;cases h
    |some q=>rw[hg] at h;rw[hle.hpc _ _ _ _ _ _ hg];exact h
  ·rw[if_neg h2,if_neg h2]
   constructor
   ·intro r h
    rw[run_bind] at h⊢
    cases ha:(argsP P (!Ai P f) (ptys P f) args).run hp with
    |none=>rw[ha] at h;cases h
    |some q=>
     rw[ha] at h
     simp only at h⊢
     cases hd:call.dat f q.1 with
     |none=>rw[hd] at h;simp[Prog.run] at h
     |some rs=>rw[hd] at h;rw[hle.dat _ _ _ hd];exact h
   ·intro R W r h
    rw[Au] at h⊢
    cases ha:(argsP P (!Ai P f) (ptys P f) args).runF hp R W with
    |none=>rw[ha] at h;cases h
    |some q=>
     rw[ha] at h
     simp only at h⊢
     cases hd:call.dat f q.1 with
     |none=>rw[hd] at h;simp[Prog.runF] at h
     |some rs=>rw[hd] at h;rw[hle.dat _ _ _ hd];exact h
 ·rw[if_neg h1,if_neg h1]
  exact⟨fun _ h=>h,fun _ _ _ h=>h⟩
theorem Lt (hle:call.le call'){fr:Nat->AV}{o:Oper}{hp:Hp}:(∀r,(evOp P E k call fr o).run hp=some r->(evOp P E k call' fr o).run hp=some r)/\
  (∀R W r,(evOp P E k call fr o).runF hp R W=some r->(evOp P E k call' fr o).runF hp R W=some r):=by
 obtain⟨dst,op,type,pos,after,guard⟩:=o
 cases op
 case call c=>
  obtain⟨callee,args,argTypes⟩:=c
  simp only[evOp]
  split
  ·exact⟨fun _ h=>h,fun _ _ _ h=>h⟩
  ·exact⟨fun _ h=>h,fun _ _ _ h=>h⟩
  ·exact⟨fun _ h=>h,fun _ _ _ h=>h⟩
  ·exact⟨fun _ h=>h,fun _ _ _ h=>h⟩
  ·exact⟨fun _ h=>h,fun _ _ _ h=>h⟩
  ·split
   ·exact Yb hle
   ·exact⟨fun _ h=>h,fun _ _ _ h=>h⟩
   ·exact⟨fun _ h=>h,fun _ _ _ h=>h⟩
  ·exact⟨fun _ h=>h,fun _ _ _ h=>h⟩
 case makeFunc fn first caps=>cases fn<;>exact⟨fun _ h=>h,fun _ _ _ h=>h⟩
 case makeMap t r=>cases r<;>exact⟨fun _ h=>h,fun _ _ _ h=>h⟩
 all_goals exact⟨fun _ h=>h,fun _ _ _ h=>h⟩
theorem Fx (hle:call.le call'): ∀(os:List Oper) (st:AS) (r:AS),evOps P E k call all os st=some r->evOps P E k call' all os st=some r
 |[],_,_,h=>h
 |o::os,st,r,h=>by
  simp only[evOps] at h⊢
  split at h
  ·split at h
   ·rename_i v hp hr
    rw[(Lt hle).1 _ hr]
    exact Fx hle os _ r h
   ·cases h
  ·exact Fx hle os _ r h
  ·cases h
theorem Nu (hle:call.le call'){o:Oper}{st:AS}{r:AS×Foot}(h:stepF P E k call all o st=some r):stepF P E k call' all o st=some r:=by
 unfold stepF at h⊢
 split at h
 ·split at h
  ·rename_i v hp R W hr
   rw[(Lt hle).2 _ _ _ hr]
   exact h
  ·cases h
 ·exact h
 ·cases h
theorem B9 (hle:call.le call'): ∀(os:List Oper) (st:AS) (acc:List Foot) (r:AS×List Foot),runDraw P E k call all os st acc=some r->runDraw P E k call' all os st acc=some r
 |[],_,_,_,h=>h
 |o::os,st,acc,r,h=>by
  simp only[runDraw] at h⊢
  split at h
  ·rename_i st' f hs
   rw[Nu hle hs]
   exact B9 hle os _ _ r h
  ·cases h
theorem Pv (hle:call.le call'){draw:Bool}{st r:AS}(h:evRegion P E k call all draw st=some r):evRegion P E k call' all draw st=some r:=by
 unfold evRegion at h⊢
 cases draw with
 |true=>
  simp only[if_true] at h⊢
  split at h
  ·rename_i st' fs hr
   rw[B9 hle _ _ _ _ hr]
   simp only
   split at h
   ·rename_i hc;rw[if_pos hc];exact h
   ·rename_i hc
    rw[if_neg hc]
    split at h
    ·rename_i st2 fs2 hr2
     rw[B9 hle _ _ _ _ hr2]
     exact h
    ·cases h
  ·cases h
 |false=>
  simp only[Bool.false_eq_true,if_false] at h⊢
  exact Fx hle _ _ _ h
theorem Cg (hle:call.le call'): ∀(n m:Nat),n<=m-> ∀(c:Code) (st:AS) (r:Ex×AS),evC P E k call n c st=some r->evC P E k call' m c st=some r
 |0,_,_,c,st,r,h=>by simp[evC] at h
 |n+1,0,hnm,_,_,_,_=>Zo
 |n+1,m+1,hnm,c,st,r,h=>by
  have ih:=Cg hle n m Zo
  cases c with
  |skip=>exact h
  |label l=>exact h
  |region id ops d=>
   simp only[evC] at h⊢
   cases hr:evRegion P E k call ops d st with
   |none=>rw[hr] at h;cases h
   |some s=>rw[hr] at h;rw[Pv hle hr];exact h
  |seq x y=>
   simp only[evC] at h⊢
   split at h
   ·rename_i s h1
    rw[ih x st _ h1]
    exact ih y s r h
   ·rename_i hne
    rw[ih x st _ h]
    split
    ·rename_i s hs
     simp only[Option.some.injEq] at hs
     subst hs
     exact(hne s h).elim
    ·rfl
  |cond c x y=>
   simp only[evC] at h⊢
   split at h
   ·split at h
    ·rename_i ht;rw[if_pos ht];exact ih x st r h
    ·rename_i ht;rw[if_neg ht];exact ih y st r h
   ·cases h
  |block id x=>
   simp only[evC] at h⊢
   split at h
   ·rename_i i s h1
    rw[ih x st _ h1]
    exact h
   ·rename_i hne
    rw[ih x st _ h]
    split
    ·rename_i i s hs
     simp only[Option.some.injEq] at hs
     subst hs
     exact(hne i s h).elim
    ·rfl
  |scope x=>
   simp only[evC] at h⊢
   exact ih x st _ h
  |loop x=>
   simp only[evC] at h⊢
   split at h
   ·rename_i s h1
    rw[ih x st _ h1]
    exact ih (.loop x) s r h
   ·rename_i hne
    rw[ih x st _ h]
    split
    ·rename_i s hs
     simp only[Option.some.injEq] at hs
     subst hs
     exact(hne s h).elim
    ·rfl
  |exit id=>exact h
  |ret=>exact h
  |_=>simp[evC] at h
theorem Qp (hle:call.le call'){n m:Nat}(hnm:n<=m){fn:Func}{args rs:List AV}(h:evFn P E call n fn args=some rs):evFn P E call' m fn args=some rs:=by
 unfold evFn at h⊢
 split at h
 ·split at h
  ·rename_i hc
   rw[if_pos hc]
   split at h
   ·cases h
   ·rename_i e st hne hev
    rw[Cg hle n m hnm _ _ _ hev]
    cases e with
    |exit i=>exact(hne i rfl).elim
    |normal=>exact h
    |ret=>exact h
    |panic v=>exact h
   ·cases h
  ·cases h
 ·cases h
theorem Ou (hle:call.le call'){n m:Nat}(hnm:n<=m){fn:Func}{d:Nat}{args:List AV}{hp:Hp}{r:AV×Hp}(h:evFnH P E call n fn k d args hp=some r):evFnH P E call' m fn k d args hp=some r:=by
 unfold evFnH at h⊢
 split at h
 ·split at h
  ·rename_i hc
   rw[if_pos hc]
   split at h
   ·cases h
   ·rename_i e st hne hev
    rw[Cg hle n m hnm _ _ _ hev]
    cases e with
    |exit i=>exact(hne i rfl).elim
    |normal=>exact h
    |ret=>exact h
    |panic v=>exact h
   ·cases h
  ·cases h
 ·cases h
theorem Oq (hle:call.le call'){n m:Nat}(hnm:n<=m){fn:Func}{args:List AV}{hp:Hp}{r:AV×Hp}(h:evFnZ P E call n fn k args hp=some r):evFnZ P E call' m fn k args hp=some r:=by
 unfold evFnZ at h⊢
 split at h
 ·split at h
  ·rename_i hc
   rw[if_pos hc]
   split at h
   ·cases h
   ·rename_i e st hne hev
    rw[Cg hle n m hnm _ _ _ hev]
    cases e with
    |exit i=>exact(hne i rfl).elim
    |normal=>exact h
    |ret=>exact h
    |panic v=>exact h
   ·cases h
  ·cases h
 ·cases h
theorem Ot (hle:call.le call'){n m:Nat}(hnm:n<=m){fn:Func}{d:Nat}{args:List AV}{hp:Hp}{r:AV×Hp}(h:evFnI P E call n fn k d args hp=some r):evFnI P E call' m fn k d args hp=some r:=by
 unfold evFnI at h⊢
 split at h
 ·split at h
  ·rename_i hc
   rw[if_pos hc]
   split at h
   ·cases h
   ·rename_i e st hne hev
    rw[Cg hle n m hnm _ _ _ hev]
    cases e with
    |exit i=>exact(hne i rfl).elim
    |normal=>exact h
    |ret=>exact h
    |panic v=>exact h
   ·cases h
  ·cases h
 ·cases h
theorem Mr (X:Orc): ∀n,(evCall P E X n).le (evCall P E X (n+1))
 |0=>⟨fun f a r h=>by simp only[evCall] at h⊢;rw[h],fun k d f a hp r h=>by simp only[evCall] at h⊢;rw[h]⟩
 |n+1=>by
  have ih:=Mr X n
  constructor
  ·intro f a r h
   rw[evCall] at h⊢
   simp only at h⊢
   split at h
   ·rename_i rs hx;exact h
   ·rename_i hx
    split at h
    ·exact Qp ih (Nat.le_succ n) h
    ·cases h
  ·intro k d f a hp r h
   rw[evCall] at h⊢
   simp only at h⊢
   split at h
   ·rename_i rs hx;exact h
   ·rename_i hx
    split at h
    ·split at h
     ·rename_i hi;rw[if_pos hi];exact Ot ih (Nat.le_succ n) h
     ·rename_i hi;rw[if_neg hi]
      split at h
      ·rename_i hz;rw[if_pos hz];exact Oq ih (Nat.le_succ n) h
      ·rename_i hz;rw[if_neg hz];exact Ou ih (Nat.le_succ n) h
    ·cases h
theorem A7 (X:Orc){n m:Nat}(h:n<=m):(evCall P E X n).le (evCall P E X m):=by
 induction m with
 |zero=>
      have:n=0:=Zo
      subst this;exact .refl _
 |succ m ih=>
  by_cases e:n=m+1
  ·subst e;exact .refl _
  ·exact(ih Zo).trans (Mr X m)
end
end
section
open Go
open Classical in
noncomputable def lim (P:Program) (E:Cfg) (X:Orc):Orc where
 dat:=fun f a=>if h: ∃r n,(evCall P E X n).dat f a=some r then some (Classical.choose h) else none
 hpc:=fun k d f a hp=>if h: ∃r n,(evCall P E X n).hpc k d f a hp=some r then some (Classical.choose h) else none
section
variable {P:Program}{E:Cfg}{X:Orc}{k:Nat}{all:Array Oper}
theorem lim_dat {f:Nat}{a:List AV}{r:List AV}:(lim P E X).dat f a=some r↔ ∃n,(evCall P E X n).dat f a=some r:=by
 simp only[lim]
 constructor
 ·intro h
  split at h
  ·rename_i hex
   have:=Classical.choose_spec hex
   simp only[Option.some.injEq] at h
   rw[h] at this
   exact this
  ·cases h
 ·rintro⟨n,h⟩
  have hex: ∃r n,(evCall P E X n).dat f a=some r:=⟨r,n,h⟩
  rw[dif_pos hex]
  obtain⟨m,hm⟩:=Classical.choose_spec hex
  have h1:=(A7 X (Nat.le_max_left n m)).dat _ _ _ h
  have h2:=(A7 X (Nat.le_max_right n m)).dat _ _ _ hm
  rw[h1] at h2
  exact h2.symm
theorem lim_hpc {d f:Nat}{a:List AV}{hp:Hp}{r:AV×Hp}:(lim P E X).hpc k d f a hp=some r↔ ∃n,(evCall P E X n).hpc k d f a hp=some r:=by
 simp only[lim]
 constructor
 ·intro h
  split at h
  ·rename_i hex
   have:=Classical.choose_spec hex
   simp only[Option.some.injEq] at h
   rw[h] at this
   exact this
  ·cases h
 ·rintro⟨n,h⟩
  have hex: ∃r n,(evCall P E X n).hpc k d f a hp=some r:=⟨r,n,h⟩
  rw[dif_pos hex]
  obtain⟨m,hm⟩:=Classical.choose_spec hex
  have h1:=(A7 X (Nat.le_max_left n m)).hpc _ _ _ _ _ _ h
  have h2:=(A7 X (Nat.le_max_right n m)).hpc _ _ _ _ _ _ hm
  rw[h1] at h2
  exact h2.symm
theorem Ll (hm:P.follows .mixedOrders=true)(hE:ELaw P E)(hX:A4 P X):A4 P (lim P E X):=by
 refine⟨fun f args rs h=>?_,fun k d f args hp v hp' h=>?_⟩
 ·obtain⟨n,h⟩:=lim_dat.1 h
  exact(D7 hm hE hX n).1 f args rs h
 ·obtain⟨n,h⟩:=lim_hpc.1 h
  exact(D7 hm hE hX n).2 k d f args hp v hp' h
variable {E':Cfg}
theorem Fia {d f:Nat}{args:List AV}{hp:Hp}:(∀r,(callP P E' k d (lim P E X) f args).run hp=some r-> ∃n,(callP P E' k d (evCall P E X n) f args).run hp=some r)/\
  (∀R W r,(callP P E' k d (lim P E X) f args).runF hp R W=some r-> ∃n,(callP P E' k d (evCall P E X n) f args).runF hp R W=some r):=by
 unfold callP
 by_cases h1:okFn P f=true
 ·simp only[if_pos h1]
  by_cases h2:E'.hp f=true
  ·simp only[if_pos h2]
   constructor
   ·intro r h
    simp only[Prog.run] at h⊢
    cases hg:(lim P E X).hpc k d f args hp with
    |none=>rw[hg] at h;cases h
    |some q=>
     obtain⟨n,hn⟩:=lim_hpc.1 hg
     rw[hg] at h
     exact⟨n,by rw[hn];exact h⟩
   ·intro R W r h
    simp only[Prog.runF] at h⊢
    cases hg:(lim P E X).hpc k d f args hp with
    |none=>rw[hg] at h;cases h
    |some q=>
     obtain⟨n,hn⟩:=lim_hpc.1 hg
     rw[hg] at h
     exact⟨n,by rw[hn];exact h⟩
  ·simp only[if_neg h2]
   constructor
   ·intro r h
    simp only[run_bind] at h⊢
    cases ha:(argsP P (!Ai P f) (ptys P f) args).run hp with
    |none=>rw[ha] at h;cases h
    |some q=>
     rw[ha] at h
     simp only at h⊢
     cases hd:(lim P E X).dat f q.1 with
     |none=>rw[hd] at h;simp[Prog.run] at h
     |some rs=>
      obtain⟨n,hn⟩:=lim_dat.1 hd
      rw[hd] at h
      exact⟨n,by rw[hn];exact h⟩
   ·intro R W r h
    simp only[Au] at h⊢
    cases ha:(argsP P (!Ai P f) (ptys P f) args).runF hp R W with
    |none=>rw[ha] at h;cases h
    |some q=>
     rw[ha] at h
     simp only at h⊢
     cases hd:(lim P E X).dat f q.1 with
     |none=>rw[hd] at h;simp[Prog.runF] at h
     |some rs=>
      obtain⟨n,hn⟩:=lim_dat.1 hd
      rw[hd] at h
      exact⟨n,by rw[hn];exact h⟩
 ·simp only[if_neg h1]
  exact⟨fun _ h=>⟨0,h⟩,fun _ _ _ h=>⟨0,h⟩⟩
theorem evOp_lim {fr:Nat->AV}{o:Oper}{hp:Hp}:(∀r,(evOp P E' k (lim P E X) fr o).run hp=some r-> ∃n,(evOp P E' k (evCall P E X n) fr o).run hp=some r)/\
  (∀R W r,(evOp P E' k (lim P E X) fr o).runF hp R W=some r-> ∃n,(evOp P E' k (evCall P E X n) fr o).runF hp R W=some r):=by
 obtain⟨dst,op,type,pos,after,guard⟩:=o
 cases op
 case call c=>
  obtain⟨callee,args,argTypes⟩:=c
  simp only[evOp]
  split
  ·exact⟨fun _ h=>⟨0,h⟩,fun _ _ _ h=>⟨0,h⟩⟩
  ·exact⟨fun _ h=>⟨0,h⟩,fun _ _ _ h=>⟨0,h⟩⟩
  ·exact⟨fun _ h=>⟨0,h⟩,fun _ _ _ h=>⟨0,h⟩⟩
  ·exact⟨fun _ h=>⟨0,h⟩,fun _ _ _ h=>⟨0,h⟩⟩
  ·exact⟨fun _ h=>⟨0,h⟩,fun _ _ _ h=>⟨0,h⟩⟩
  ·split
   ·exact Fia
   ·exact⟨fun _ h=>⟨0,h⟩,fun _ _ _ h=>⟨0,h⟩⟩
   ·exact⟨fun _ h=>⟨0,h⟩,fun _ _ _ h=>⟨0,h⟩⟩
  ·exact⟨fun _ h=>⟨0,h⟩,fun _ _ _ h=>⟨0,h⟩⟩
 case makeFunc fn first caps=>cases fn<;>exact⟨fun _ h=>⟨0,h⟩,fun _ _ _ h=>⟨0,h⟩⟩
 case makeMap t r=>cases r<;>exact⟨fun _ h=>⟨0,h⟩,fun _ _ _ h=>⟨0,h⟩⟩
 all_goals exact⟨fun _ h=>⟨0,h⟩,fun _ _ _ h=>⟨0,h⟩⟩
theorem Ls : ∀(os:List Oper) (st:AS) (r:AS),evOps P E' k (lim P E X) all os st=some r-> ∃n,evOps P E' k (evCall P E X n) all os st=some r
 |[],_,_,h=>⟨0,h⟩
 |o::os,st,r,h=>by
  simp only[evOps] at h⊢
  split at h
  ·split at h
   ·rename_i v hp hr
    obtain⟨n,hn⟩:=evOp_lim.1 _ hr
    obtain⟨m,hm⟩:=Ls os _ r h
    refine⟨max n m,?_⟩
    rw[(Lt (A7 X (Nat.le_max_left n m))).1 _ hn]
    exact Fx (A7 X (Nat.le_max_right n m)) _ _ _ hm
   ·cases h
  ·exact Ls os _ r h
  ·cases h
theorem Dsa {o:Oper}{st:AS}{r:AS×Foot}(h:stepF P E' k (lim P E X) all o st=some r): ∃n,stepF P E' k (evCall P E X n) all o st=some r:=by
 unfold stepF at h⊢
 split at h
 ·split at h
  ·rename_i v hp R W hr
   obtain⟨n,hn⟩:=evOp_lim.2 _ _ _ hr
   exact⟨n,by rw[hn];exact h⟩
  ·cases h
 ·exact⟨0,h⟩
 ·cases h
theorem Gs : ∀(os:List Oper) (st:AS) (acc:List Foot) (r:AS×List Foot),runDraw P E' k (lim P E X) all os st acc=some r-> ∃n,runDraw P E' k (evCall P E X n) all os st acc=some r
 |[],_,_,_,h=>⟨0,h⟩
 |o::os,st,acc,r,h=>by
  simp only[runDraw] at h⊢
  split at h
  ·rename_i st' f hs
   obtain⟨n,hn⟩:=Dsa hs
   obtain⟨m,hm⟩:=Gs os _ _ r h
   refine⟨max n m,?_⟩
   rw[Nu (A7 X (Nat.le_max_left n m)) hn]
   exact B9 (A7 X (Nat.le_max_right n m)) _ _ _ _ hm
  ·cases h
theorem Sp {draw:Bool}{st r:AS}(h:evRegion P E' k (lim P E X) all draw st=some r): ∃n,evRegion P E' k (evCall P E X n) all draw st=some r:=by
 unfold evRegion at h⊢
 cases draw with
 |true=>
  simp only[if_true] at h⊢
  split at h
  ·rename_i st' fs hr
   obtain⟨n,hn⟩:=Gs _ _ _ _ hr
   split at h
   ·rename_i hc;exact⟨n,by rw[hn];simp only;rw[if_pos hc];exact h⟩
   ·rename_i hc
    split at h
    ·rename_i st2 fs2 hr2
     obtain⟨n2,hn2⟩:=Gs _ _ _ _ hr2
     refine⟨max n n2,?_⟩
     rw[B9 (A7 X (Nat.le_max_left n n2)) _ _ _ _ hn]
     simp only
     rw[if_neg hc,B9 (A7 X (Nat.le_max_right n n2)) _ _ _ _ hn2]
     exact h
    ·cases h
  ·cases h
 |false=>
  simp only[Bool.false_eq_true,if_false] at h⊢
  exact Ls _ _ _ h
theorem Kz : ∀(g:Nat) (c:Code) (st:AS) (r:Ex×AS),evC P E' k (lim P E X) g c st=some r-> ∃n,evC P E' k (evCall P E X n) g c st=some r
 |0,c,st,r,h=>by simp[evC] at h
 |g+1,c,st,r,h=>by
  have ih:=Kz g
  have up: ∀{n m:Nat} {c:Code} {st:AS} {r:Ex×AS},n<=m->evC P E' k (evCall P E X n) g c st=some r->evC P E' k (evCall P E X m) g c st=some r:=fun hnm h=>Cg (A7 X hnm) g g (Nat.le_refl _) _ _ _ h
  cases c with
  |skip=>exact⟨0,h⟩
  |label l=>exact⟨0,h⟩
  |region id ops d=>
   simp only[evC] at h⊢
   cases hr:evRegion P E' k (lim P E X) ops d st with
   |none=>rw[hr] at h;cases h
   |some s=>
    obtain⟨n,hn⟩:=Sp hr
    rw[hr] at h
    exact⟨n,by rw[hn];exact h⟩
  |seq x y=>
   simp only[evC] at h⊢
   split at h
   ·rename_i s h1
    obtain⟨n,hn⟩:=ih x st _ h1
    obtain⟨m,hm⟩:=ih y s r h
    exact⟨max n m,by rw[up (Nat.le_max_left n m) hn];exact up (Nat.le_max_right n m) hm⟩
   ·rename_i hne
    obtain⟨n,hn⟩:=ih x st _ h
    refine⟨n,?_⟩
    rw[hn]
    split
    ·rename_i s hs
     simp only[Option.some.injEq] at hs
     subst hs
     exact(hne s h).elim
    ·rfl
  |cond c x y=>
   simp only[evC] at h⊢
   split at h
   ·rename_i t hc
    cases t with
    |true=>simp only[if_true] at h⊢;exact ih x st r h
    |false=>simp only[Bool.false_eq_true,if_false] at h⊢;exact ih y st r h
   ·cases h
  |block id x=>
   simp only[evC] at h⊢
   split at h
   ·rename_i i s h1
    obtain⟨n,hn⟩:=ih x st _ h1
    exact⟨n,by rw[hn];exact h⟩
   ·rename_i hne
    obtain⟨n,hn⟩:=ih x st _ h
    refine⟨n,?_⟩
    rw[hn]
    split
    ·rename_i i s hs
     simp only[Option.some.injEq] at hs
     subst hs
     exact(hne i s h).elim
    ·rfl
  |scope x=>
   simp only[evC] at h⊢
   exact ih x st _ h
  |loop x=>
   simp only[evC] at h⊢
   split at h
   ·rename_i s h1
    obtain⟨n,hn⟩:=ih x st _ h1
    obtain⟨m,hm⟩:=ih (.loop x) s r h
    exact⟨max n m,by rw[up (Nat.le_max_left n m) hn];exact up (Nat.le_max_right n m) hm⟩
   ·rename_i hne
    obtain⟨n,hn⟩:=ih x st _ h
    refine⟨n,?_⟩
    rw[hn]
    split
    ·rename_i s hs
     simp only[Option.some.injEq] at hs
     subst hs
     exact(hne s h).elim
    ·rfl
  |exit id=>exact⟨0,h⟩
  |ret=>exact⟨0,h⟩
  |_=>simp[evC] at h
theorem lim_fn {f n:Nat}{fn:Func}{args rs:List AV}(hf:P.funcs[f]?=some fn)(hx:X.dat f args=none)(h:evFn P E (lim P E X) n fn args=some rs):(lim P E X).dat f args=some rs:=by
 have h0: ∃m,evFn P E (evCall P E X m) n fn args=some rs:=by
  unfold evFn at h⊢
  cases hb:fn.body with
  |none=>rw[hb] at h;cases h
  |some c=>
   rw[hb] at h
   simp only at h⊢
   split at h
   ·rename_i hc
    simp only[hc,if_true]
    split at h
    ·cases h
    ·rename_i e st hne hev
     obtain⟨m,hm⟩:=Kz _ _ _ _ hev
     refine⟨m,?_⟩
     rw[hm]
     cases e with
     |exit i=>exact(hne i rfl).elim
     |normal=>exact h
     |ret=>exact h
     |panic v=>exact h
    ·cases h
   ·cases h
 obtain⟨m,hm⟩:=h0
 refine lim_dat.2 ⟨max n m+1,?_⟩
 rw[evCall]
 simp only
 rw[hx,hf]
 exact Qp (A7 X (Nat.le_max_right n m)) (Nat.le_max_left n m) hm
theorem lim_fnH {f n d:Nat}{fn:Func}{args:List AV}{hp:Hp}{r:AV×Hp}(hf:P.funcs[f]?=some fn)(hx:X.hpc k d f args hp=none)(h:evFnH P E (lim P E X) n fn k d args hp=some r)(hi:E.inl f=false)(hz:E.frz f=false):(lim P E X).hpc k d f args hp=some r:=by
 have h0: ∃m,evFnH P E (evCall P E X m) n fn k d args hp=some r:=by
  unfold evFnH at h⊢
  cases hb:fn.body with
  |none=>rw[hb] at h;cases h
  |some c=>
   rw[hb] at h
   simp only at h⊢
   split at h
   ·rename_i hc
    simp only[hc,if_true]
    split at h
    ·cases h
    ·rename_i e st hne hev
     obtain⟨m,hm⟩:=Kz _ _ _ _ hev
     refine⟨m,?_⟩
     rw[hm]
     cases e with
     |exit i=>exact(hne i rfl).elim
     |normal=>exact h
     |ret=>exact h
     |panic v=>exact h
    ·cases h
   ·cases h
 obtain⟨m,hm⟩:=h0
 refine lim_hpc.2 ⟨max n m+1,?_⟩
 rw[evCall]
 simp only
 rw[hx,hf]
 simp only
 rw[hi,hz,if_neg Zi,if_neg Zi]
 exact Ou (A7 X (Nat.le_max_right n m)) (Nat.le_max_left n m) hm
theorem lim_fnZ {f n d:Nat}{fn:Func}{args:List AV}{hp:Hp}{r:AV×Hp}(hf:P.funcs[f]?=some fn)(hx:X.hpc k d f args hp=none)(h:evFnZ P E (lim P E X) n fn k args hp=some r)(hi:E.inl f=false)(hz:E.frz f=true):(lim P E X).hpc k d f args hp=some r:=by
 have h0: ∃m,evFnZ P E (evCall P E X m) n fn k args hp=some r:=by
  unfold evFnZ at h⊢
  cases hb:fn.body with
  |none=>rw[hb] at h;cases h
  |some c=>
   rw[hb] at h
   simp only at h⊢
   split at h
   ·rename_i hc
    simp only[hc,if_true]
    split at h
    ·cases h
    ·rename_i e st hne hev
     obtain⟨m,hm⟩:=Kz _ _ _ _ hev
     refine⟨m,?_⟩
     rw[hm]
     cases e with
     |exit i=>exact(hne i rfl).elim
     |normal=>exact h
     |ret=>exact h
     |panic v=>exact h
    ·cases h
   ·cases h
 obtain⟨m,hm⟩:=h0
 refine lim_hpc.2 ⟨max n m+1,?_⟩
 rw[evCall]
 simp only
 rw[hx,hf]
 simp only
 rw[hi,hz,if_neg Zi,if_pos rfl]
 exact Oq (A7 X (Nat.le_max_right n m)) (Nat.le_max_left n m) hm
theorem lim_fnI {f n d:Nat}{fn:Func}{args:List AV}{hp:Hp}{r:AV×Hp}(hf:P.funcs[f]?=some fn)(hx:X.hpc k d f args hp=none)(h:evFnI P E (lim P E X) n fn k d args hp=some r)(hi:E.inl f=true):(lim P E X).hpc k d f args hp=some r:=by
 have h0: ∃m,evFnI P E (evCall P E X m) n fn k d args hp=some r:=by
  unfold evFnI at h⊢
  cases hb:fn.body with
  |none=>rw[hb] at h;cases h
  |some c=>
   rw[hb] at h
   simp only at h⊢
   split at h
   ·rename_i hc
    simp only[hc,if_true]
    split at h
    ·cases h
    ·rename_i e st hne hev
     obtain⟨m,hm⟩:=Kz _ _ _ _ hev
     refine⟨m,?_⟩
     rw[hm]
     cases e with
     |exit i=>exact(hne i rfl).elim
     |normal=>exact h
     |ret=>exact h
     |panic v=>exact h
    ·cases h
   ·cases h
 obtain⟨m,hm⟩:=h0
 refine lim_hpc.2 ⟨max n m+1,?_⟩
 rw[evCall]
 simp only
 rw[hx,hf]
 simp only
 rw[hi,if_pos rfl]
 exact Ot (A7 X (Nat.le_max_right n m)) (Nat.le_max_left n m) hm
end
end
section
open Go
inductive PTask where
 |fn (k f:Nat) (args:List AV) (hp:Hp)
 |ops (k:Nat) (all:Array Oper) (os:List Oper) (st:AS)
 |code (k:Nat) (c:Code) (st:AS)
def Dh (all:Array Oper)(c j:Nat):Bool:= !(j==c)&& !((waits all.toList []).getD j 0).testBit c
def Gd (all:Array Oper)(c:Nat):Bool:=
 ((List.range all.size).all fun j=>(all.getD j default).after.toList.all fun e=> !(Region.binds .any e)||decide (e.on<j))&&
 ((List.range all.size).all fun j=>(List.range j).all fun i=>(all.getD i default).dst.isNone||(all.getD i default).dst !=(all.getD j default).dst)&&
 ((List.range all.size).all fun j=> !(j==c||Dh all c j)||(List.range all.size).all fun i=>match (all.getD i default).dst with
  |some d=> !(slotsOf all (all.getD j default)).contains d||(all.getD j default).after.toList.any fun e=>e.on==i&&Region.binds .any e
  |none=>true)
inductive Free (P:Program)(E:Cfg)(k:Nat)(call:Orc)(hp:Hp):List Oper->(Nat->AV)->(Nat->AV)->Prop where
 |nil {fr:Nat->AV}:Free P E k call hp [] fr fr
 |cons {o:Oper} {os:List Oper} {fr fr':Nat->AV} {v:AV} (hg:o.guard=none) (h:(evOp P E k call fr o).run hp=some (v,hp)) (r:Free P E k call hp os (setd fr o.dst v) fr'):Free P E k call hp (o::os) fr fr'
def frees (all:Array Oper)(c:Nat):List Oper:=((List.range all.size).filter fun j=>Dh all c j).map fun j=>all.getD j default
inductive Pan (P:Program)(E:Cfg)(call:Orc):PTask->Nat->Value->Hp->Prop where
 |fn {k f:Nat} {fn:Func} {c:Code} {n:Nat} {args:List AV} {hp:Hp} {v:Value} {hp':Hp} (hf:P.funcs[f]?=some fn) (hb:fn.body=some c) (hok:Ac fn=true) (hl:args.length=fn.params.size+fn.nfree)
   (h:Pan P E call (.code (k+1) c ⟨frame0 args,hp⟩) n v hp'):Pan P E call (.fn k f args hp) (n+1) v hp'
 |skip {k:Nat} {all:Array Oper} {o:Oper} {os:List Oper} {st:AS} {n:Nat} {v:Value} {hp':Hp} (hg:guardA all st.fr o=some false)
   (h:Pan P E call (.ops k all os ⟨setd st.fr o.dst (.sc undef),st.hp⟩) n v hp'):Pan P E call (.ops k all (o::os) st) (n+1) v hp'
 |step {k:Nat} {all:Array Oper} {o:Oper} {os:List Oper} {st:AS} {n:Nat} {v:Value} {hp':Hp} {u:AV} {hp1:Hp} (hg:guardA all st.fr o=some true) (hr:(evOp P E k call st.fr o).run st.hp=some (u,hp1))
   (h:Pan P E call (.ops k all os ⟨setd st.fr o.dst u,hp1⟩) n v hp'):Pan P E call (.ops k all (o::os) st) (n+1) v hp'
 |call {k:Nat} {all:Array Oper} {o:Oper} {os:List Oper} {st:AS} {n:Nat} {v:Value} {hp':Hp} {x:Operand} {args:Array Operand} {ats:Array TypeId} {f:Nat} {cs:List AV} (hg:guardA all st.fr o=some true) (ho:o.op= .call ⟨.value x,args,ats⟩) (hx:opA st.fr x= .fn f cs) (hok:okFn P f=true)
   (hlt:f<1000000) (h:Pan P E call (.fn k f (args.toList.map (opA st.fr)++cs) st.hp) n v hp'):Pan P E call (.ops k all (o::os) st) (n+1) v hp'
 |panic {k:Nat} {all:Array Oper} {o:Oper} {os:List Oper} {st:AS} {n:Nat} {x:Operand} {t:TypeId} {u:Value} (hg:guardA all st.fr o=some true) (ho:o.op= .panic x) (hx:opA st.fr x= .sc (.iface t u)):
   Pan P E call (.ops k all (o::os) st) (n+1) (.iface t u) st.hp
 |region {k id:Nat} {ops:Array Oper} {st:AS} {n:Nat} {v:Value} {hp':Hp} (h:Pan P E call (.ops k ops ops.toList st) n v hp'):Pan P E call (.code k (.region id ops false) st) (n+1) v hp'
 |draw {k id c:Nat} {ops:Array Oper} {st:AS} {n:Nat} {v:Value} {hp':Hp} {o:Oper} {x:Operand} {args:Array Operand} {ats:Array TypeId} {f:Nat} {cs:List AV} {frF:Nat->AV} (hp:Gd ops c=true) (hf:Free P E k call st.hp (frees ops c) st.fr frF) (hc:ops[c]?=some o)
   (hg:o.guard=none) (ho:o.op= .call ⟨.value x,args,ats⟩) (hx:opA frF x= .fn f cs) (hok:okFn P f=true) (hlt:f<1000000) (h:Pan P E call (.fn k f (args.toList.map (opA frF)++cs) st.hp) n v hp'):Pan P E call (.code k (.region id ops true) st) (n+1) v hp'
 |drawP {k id c:Nat} {ops:Array Oper} {st:AS} {n:Nat} {o:Oper} {x:Operand} {t:TypeId} {u:Value} {frF:Nat->AV} (hp:Gd ops c=true) (hf:Free P E k call st.hp (frees ops c) st.fr frF) (hc:ops[c]?=some o)
   (hg:o.guard=none) (ho:o.op= .panic x) (hx:opA frF x= .sc (.iface t u)):Pan P E call (.code k (.region id ops true) st) (n+1) (.iface t u) st.hp
 |seqL {k:Nat} {a b:Code} {st:AS} {n:Nat} {v:Value} {hp':Hp} (h:Pan P E call (.code k a st) n v hp'):Pan P E call (.code k (.seq a b) st) (n+1) v hp'
 |seqR {k m:Nat} {a b:Code} {st s:AS} {n:Nat} {v:Value} {hp':Hp} (h1:evC P E k call m a st=some (.normal,s)) (h:Pan P E call (.code k b s) n v hp'):Pan P E call (.code k (.seq a b) st) (n+1) v hp'
 |cond {k:Nat} {c:Operand} {a b:Code} {st:AS} {t:Bool} {n:Nat} {v:Value} {hp':Hp} (hc:opA st.fr c= .sc (.bool t)) (h:Pan P E call (.code k (if t then a else b) st) n v hp'):Pan P E call (.code k (.cond c a b) st) (n+1) v hp'
 |block {k id:Nat} {c:Code} {st:AS} {n:Nat} {v:Value} {hp':Hp} (h:Pan P E call (.code k c st) n v hp'):Pan P E call (.code k (.block id c) st) (n+1) v hp'
 |scope {k:Nat} {c:Code} {st:AS} {n:Nat} {v:Value} {hp':Hp} (h:Pan P E call (.code k c st) n v hp'):Pan P E call (.code k (.scope c) st) (n+1) v hp'
 |loopN {k m:Nat} {c:Code} {st s:AS} {n:Nat} {v:Value} {hp':Hp} (h1:evC P E k call m c st=some (.normal,s)) (h:Pan P E call (.code k (.loop c) s) n v hp'):Pan P E call (.code k (.loop c) st) (n+1) v hp'
 |loopP {k:Nat} {c:Code} {st:AS} {n:Nat} {v:Value} {hp':Hp} (h:Pan P E call (.code k c st) n v hp'):Pan P E call (.code k (.loop c) st) (n+1) v hp'
def PanR (K:Nat->Prop)(B:Base)(hp':Hp)(a:Act)(w:World):Prop:= ∃I m,Gam I K m hp' w/\Ext B.I K B.m B.hp B.w I m hp' w/\a.defers=B.df
def panE (v:Value):List PanicEntry:=[{v:=v,recovered:=false}]
section
variable {P:Program}{E:Cfg}{call:Orc}{K:Nat->Prop}
def Do (P:Program)(k f:Nat)(args:List AV)(hp:Hp)(v:Value)(hp':Hp):Prop:= ∀(I K:Nat->Prop) (m:Mp) (w:World) (us:List Value),okFn P f=true->Gam I K m hp w->AllR (Rep k I m hp w) args us->
 Calls P f ⟨us⟩ w fun e w'=>e= .panicked (panE v)/\ ∃I' m',Gam I' K m' hp' w'/\Ext I K m hp w I' m' hp' w'
def Tc (P:Program)(k:Nat)(all:Array Oper)(os:List Oper)(st:AS)(v:Value)(hp':Hp):Prop:= ∀(N:Nat) (K:Nat->Prop) (B:Base) (n:Nat) (Q:Exit->Act->World->Prop) (a:Act) (w:World),(∀j,os[j]?=all[n+j]?)->(∀o∈os,∀x,o.dst=some x->x<N)->
 StR k N K B st a w->(∀a' w',PanR K B hp' a' w'->Q (.panic (panE v)) a' w')->wpOps P all Q (List.range' n os.length) a w
def E9 (P:Program)(k:Nat)(c:Code)(st:AS)(v:Value)(hp':Hp):Prop:= ∀(N:Nat) (K:Nat->Prop) (B:Base) (Q:Exit->Act->World->Prop) (a:Act) (w:World),slotsIn N c=true->
 StR k N K B st a w->(∀a' w',PanR K B hp' a' w'->Q (.panic (panE v)) a' w')->c.wp P Q a w
def PanT (P:Program)(v:Value)(hp':Hp):PTask->Prop
 | .fn k f args hp=>Do P k f args hp v hp'
 | .ops k all os st=>Tc P k all os st v hp'
 | .code k c st=>E9 P k c st v hp'
theorem StR.panR {k N:Nat}{K:Nat->Prop}{B:Base}{st:AS}{a:Act}{w:World}(S:StR k N K B st a w):PanR K B st.hp a w:=by
 obtain⟨I,m,G,E0,_,_,hd⟩:=S
 exact⟨I,m,G,E0,hd⟩
theorem pan_op {k N f:Nat}{B:Base}{st:AS}{a:Act}{w:World}{o:Oper}{x:Operand}{args:Array Operand}{ats:Array TypeId}{cs:List AV}{v:Value}{hp':Hp}{next:Act→World→Prop}{Q:Exit→Act→World→Prop}(hc:Do P k f (args.toList.map (opA st.fr)++cs) st.hp v hp')
  (ho:o.op= .call ⟨.value x,args,ats⟩) (hx:opA st.fr x= .fn f cs) (hok:okFn P f=true) (hlt:f<1000000) (S:StR k N K B st a w) (hQ: ∀a' w',PanR K B hp' a' w'→Q (.panic (panE v)) a' w'):o.wp P a w next Q:=by
 obtain⟨I,m,G,E0,hf,hs,hdf⟩:=S
 have hop:=Eh G hf
 have hxr:=hop x
 rw[hx] at hxr
 simp only[Rep] at hxr
 obtain⟨us,hu,hcs⟩:=hxr
 simp only[mkFn,if_pos hlt] at hu
 have hall0:AllR (Rep k I m st.hp w) (args.toList.map (opA st.fr)) (args.toList.map a.eval):=by
  refine⟨Zi,fun j x u h1 h2=>?_⟩
  rw[List.getElem?_map] at h1 h2
  cases hj:args.toList[j]? with
  |none=>rw[hj] at h1;cases h1
  |some z=>rw[hj] at h1 h2;cases h1;cases h2;exact hop z
 have hall:=hall0.append ((Ah _ _).1 hcs)
 have hcalls:=hc I K m w _ hok G hall
 have harr:(⟨args.toList.map a.eval++us⟩:Array Value)=args.map a.eval++⟨us⟩:=by apply Array.ext';simp
 rw[harr] at hcalls
 unfold okFn at hok
 split at hok
 ·rename_i fn hfn
  simp only[Bool.and_eq_true,Bool.not_eq_true'] at hok
  have hrun:(execOp a.eval o).run P w= .ok (.enter f (args.map a.eval++⟨us⟩)) w:=by
   have hb:fn.body≠none:=fun hq=>by simp[hq] at hok
   have hnm:fn.name≠ "runtime.NumGoroutine" :=by simpa using hok.2
   obtain⟨dst,op,type,pos,after,guard⟩:=o
   simp only at ho
   subst ho
   simp[execOp,resolve,hu,Deferred.ofValue,invoke,callFunc,hfn,hnm,hb]
  unfold Oper.wp
  rw[hrun]
  refine hcalls.mono fun e w' he=>?_
  obtain⟨rfl,I',m',G',E'⟩:=he
  exact hQ a w' ⟨I',m',G',E0.trans E',hdf⟩
 ·cases hok
theorem P9 {k N:Nat}{B:Base}{st:AS}{a:Act}{w:World}{o:Oper}{x:Operand}{t:TypeId}{u:Value}{next:Act->World->Prop}{Q:Exit->Act->World->Prop}(ho:o.op= .panic x)(hx:opA st.fr x= .sc (.iface t u))(S:StR k N K B st a w)
  (hQ: ∀a' w',PanR K B st.hp a' w'->Q (.panic (panE (.iface t u))) a' w'):o.wp P a w next Q:=by
 have hR:=S.panR
 obtain⟨I,m,G,E0,hf,hs,hdf⟩:=S
 have hxr:=Eh G hf x
 rw[hx] at hxr
 simp only[Rep] at hxr
 have hrun:(execOp a.eval o).run P w= .halt (.panic (.iface t u)) w:=by
  obtain⟨dst,op,type,pos,after,guard⟩:=o
  simp only at ho
  subst ho
  simp[execOp,hxr,Instr.panic,goPanic,Sem.run]
 unfold Oper.wp
 rw[hrun]
 exact hQ a w hR
theorem Gq {N id:Nat}{ops:Array Oper}{b:Bool}(hs:slotsIn N (.region id ops b)=true): ∀o∈ops.toList,∀x,o.dst=some x->x<N:=fun o ho x hx=>by
 simp only[slotsIn,List.all_eq_true,Bool.and_eq_true] at hs
 have:=(hs o ho).1
 rw[hx] at this
 simpa using this
theorem Va {all:Array Oper}{c:Nat}(h:Gd all c=true):(∀j o e,all[j]?=some o->e∈o.after->Region.binds .any e=true->e.on<j)/\(∀(i j:Nat) (oi oj:Oper) (d:Nat),all[i]?=some oi->all[j]?=some oj->oi.dst=some d->oj.dst=some d->i=j)/\
  (∀j oj,all[j]?=some oj->(j=c\/Dh all c j=true)-> ∀(i:Nat) (oi:Oper) (d:Nat),all[i]?=some oi->oi.dst=some d->d∈slotsOf all oj-> ∃e∈oj.after,e.on=i/\Region.binds .any e=true):=by
 have hget: ∀{j o},all[j]?=some o->all.getD j default=o:=fun h=>by simp[h]
 simp only[Gd,Bool.and_eq_true,List.all_eq_true,List.mem_range,Bool.or_eq_true,Bool.not_eq_true',decide_eq_true_eq] at h
 obtain⟨⟨h1,h2⟩,h3⟩:=h
 have uniq: ∀(i j:Nat) (oi oj:Oper) (d:Nat),i<j->all[i]?=some oi->all[j]?=some oj->oi.dst=some d->oj.dst=some d->False:=fun i j oi oj d hij hi hj hdi hdj=>by
  have:=h2 j (Array.getElem?_eq_some_iff.1 hj).1 i hij
  rw[hget hi,hget hj,hdi,hdj] at this
  simp at this
 refine⟨fun j o e hj he hb=>?_,fun i j oi oj d hi hj hdi hdj=>?_,fun j oj hj hc i oi d hi hd hs=>?_⟩
 ·have:=h1 j (Array.getElem?_eq_some_iff.1 hj).1 e (by rw[hget hj];simpa using he)
  rcases this with h|h
  ·rw[hb] at h;cases h
  ·exact h
 ·rcases Nat.lt_trichotomy i j with h|h|h
  ·exact(uniq i j oi oj d h hi hj hdi hdj).elim
  ·exact h
  ·exact(uniq j i oj oi d h hj hi hdj hdi).elim
 ·have:=h3 j (Array.getElem?_eq_some_iff.1 hj).1
  rcases this with h|h
  ·rcases hc with rfl|hc
   ·simp at h
   ·rw[hc] at h;simp at h
  ·have:=h i (Array.getElem?_eq_some_iff.1 hi).1
   rw[hget hi,hget hj,hd] at this
   simp only[Bool.or_eq_true,Bool.not_eq_true',List.any_eq_true,Bool.and_eq_true,beq_iff_eq] at this
   rcases this with h'|⟨e,he,h1,h2⟩
   ·rw[List.contains_iff_mem.2 hs] at h';cases h'
   ·exact⟨e,by simpa using he,h1,h2⟩
theorem C8a {all:Array Oper}{c k:Nat}{hp:Hp}(hpk:Gd all c=true): ∀(js:List Nat) {fr frF:Nat->AV},js.Pairwise (· < ·)->(∀j∈js,j<all.size/\Dh all c j=true)->Free P E k call hp (js.map fun j=>all.getD j default) fr frF->
  (∀t,(∀j∈js,∀o,all[j]?=some o->o.dst≠some t)->frF t=fr t)/\ ∀j∈js,∀o,all[j]?=some o->o.guard=none/\ ∃v,(evOp P E k call frF o).run hp=some (v,hp)/\ ∀d,o.dst=some d->frF d=v
 |[],fr,frF,_,_,h=>by
  cases h
  exact⟨fun _ _=>rfl,fun _ h=>by cases h⟩
 |j::js,fr,frF,hs,hm,h=>by
  obtain⟨hback,huniq,hreads⟩:=Va hpk
  simp only[List.pairwise_cons] at hs
  simp only[List.map_cons] at h
  have hj:=hm j (List.mem_cons_self ..)
  have hoj:all[j]?=some (all.getD j default):=by simp[hj.1]
  generalize hq:all.getD j default=o at h hoj
  cases h with
  | @cons _ _ _ _ v hg hr hrest=>
  obtain⟨ha,hb⟩:=C8a hpk js hs.2 (fun i hi=>hm i (List.mem_cons_of_mem _ hi)) hrest
  have key: ∀t,(∀i∈j::js,∀o,all[i]?=some o->o.dst≠some t)->frF t=fr t:=fun t ht=>by
   rw[ha t fun i hi=>ht i (List.mem_cons_of_mem _ hi)]
   exact Ec fun e=>ht j (List.mem_cons_self ..) o hoj e
  refine⟨key,fun i hi oi hoi=>?_⟩
  rcases List.mem_cons.1 hi with rfl|hi
  ·rw[hoj] at hoi;cases hoi
   refine⟨hg,v,?_,fun d hd=>?_⟩
   ·rw[J3 (fr':=fr)]
    ·exact hr
    ·intro y hy
     cases y with
     |tmp t=>
      refine key t fun i' hi' o' ho' hd'=>?_
      have hs':t∈slotsOf all o:=List.mem_append_left _ (List.mem_filterMap.2 ⟨.tmp t,by simpa using hy,rfl⟩)
      obtain⟨e,he,e1,e2⟩:=hreads i o hoj (.inr hj.2) i' o' t ho' hd' hs'
      have hlt:=hback i o e hoj he e2
      rw[e1] at hlt
      rcases List.mem_cons.1 hi' with rfl|hi'
      ·exact Nat.lt_irrefl _ hlt
      ·exact Nat.lt_irrefl _ (Nat.lt_trans hlt (hs.1 i' hi'))
     |const c=>cases c<;>rfl
     |func f=>rfl
     |global g=>rfl
   ·rw[ha d fun i' hi' o' ho' hd'=>?_]
    ·rw[hd];simp[setd]
    ·have:=huniq _ _ _ _ _ hoj ho' hd hd'
     exact Nat.lt_irrefl _ (this▸hs.1 i' hi')
  ·exact hb i hi oi hoi
theorem Vc (hm:P.follows .mixedOrders=true)(hE:ELaw P E)(hC:A4 P call){all:Array Oper}{c k N id:Nat}{B:Base}{fr frF:Nat->AV}{hp:Hp}{a:Act}{w:World}{oc:Oper}{Q:Exit->Act->World->Prop}
  (hpk:Gd all c=true) (hfree:Free P E k call hp (frees all c) fr frF) (hc:all[c]?=some oc) (hg:oc.guard=none) (hop: ∀(cur:Nat->AV) (a:Act) (w:World) (next:Act->World->Prop),(∀y∈oc.op.operands,opA cur y=opA frF y)->StR k N K B ⟨cur,hp⟩ a w->oc.wp P a w next Q)
  (hd: ∀o∈all.toList,∀x,o.dst=some x->x<N) (S:StR k N K B ⟨fr,hp⟩ a w):(Code.region id all true).wp P Q a w:=by
 refine wp_region_any hm ?_
 obtain⟨hback,huniq,hreads⟩:=Va hpk
 have hclt:=(Array.getElem?_eq_some_iff.1 hc).1
 obtain⟨ha,hb⟩:=C8a hpk _ (List.Pairwise.filter _ List.pairwise_lt_range) (fun j hj=>by
  obtain⟨h1,h2⟩:=List.mem_filter.1 hj
  exact⟨List.mem_range.1 h1,h2⟩) hfree
 have hfm: ∀{j},j<all.size->Dh all c j=true->j∈(List.range all.size).filter fun j=>Dh all c j:=fun h1 h2=>List.mem_filter.2 ⟨List.mem_range.2 h1,h2⟩
 let cntL:Array Bool->Nat:=fun l=>((List.range all.size).filter fun i=>l.getD i false).length
 have main: ∀(n:Nat) (listed:Array Bool) (cur:Nat->AV) (a:Act) (w:World),Down all listed->listed.size=all.size->listed.getD c false=false->cntL listed+n=all.size->
   (∀i oi d,listed.getD i false=true->all[i]?=some oi->oi.dst=some d->cur d=frF d)->(∀t,(∀i oi,listed.getD i false=true->all[i]?=some oi->oi.dst≠some t)->cur t=fr t)->
   StR k N K B ⟨cur,hp⟩ a w->wpAny P .any all Q n listed a w:=by
  intro n
  induction n with
  |zero=>
   intro listed cur a w hD hsz hcl hcn h1 h2 S
   exfalso
   have:((List.range all.size).filter fun i=>listed.getD i false).length<(List.range all.size).length:=by
    refine List.length_filter_lt_length_iff_exists.2 ⟨c,List.mem_range.2 hclt,by rw[hcl];simp⟩
   rw[List.length_range] at this
   have:cntL listed<all.size:=this
   omega
  |succ n ih=>
   intro listed cur a w hD hsz hcl hcn h1 h2 S
   have hunl: ∀{j},j<all.size->(listed.getD j true=listed.getD j false):=fun hj=>by simp[hsz,hj]
   refine⟨fun hr=>?_,fun j hj=>?_⟩
   ·exfalso
    have hex: ∃j,j<all.size/\listed.getD j false=false:=⟨c,hclt,hcl⟩
    have hmin: ∃j,(j<all.size/\listed.getD j false=false)/\ ∀i,i<j-> ¬(i<all.size/\listed.getD i false=false):=by
     have hl:=Cm (p:=fun j=>j<all.size/\listed.getD j false=false) hex
     exact⟨_,hl.1,fun i hi hp=>Nat.lt_irrefl _ (Nat.lt_of_lt_of_le hi (hl.2 i hp))⟩
    obtain⟨j,⟨hj,hjl⟩,hjm⟩:=hmin
    have hoj:all[j]?=some all[j]:=Array.getElem?_eq_getElem hj
    have:j∈Region.ready .any all listed:=mem_ready.2 ⟨by rw[hunl hj];exact hjl,_,hoj,fun e he hbi=>by
     have hlt:=hback j _ e hoj he hbi
     cases hle:listed.getD e.on false with
     |true=>rfl
     |false=>exact(hjm e.on hlt ⟨Nat.lt_trans hlt hj,hle⟩).elim⟩
    rw[hr] at this
    cases this
   ·obtain⟨hju,oj,hoj,hje⟩:=mem_ready.1 hj
    have hjlt:=(Array.getElem?_eq_some_iff.1 hoj).1
    have hlf: ∀i,listed.getD i false=true->i<all.size->Dh all c i=true:=fun i hi hilt=>by
     unfold Dh
     simp only[Bool.and_eq_true,Bool.not_eq_true',beq_eq_false_iff_ne]
     refine⟨fun e=>(by rw[e,hcl] at hi;cases hi),?_⟩
     cases htb:((waits all.toList []).getD i 0).testBit c with
     |false=>rfl
     |true=>
      have hw:=Kd (all:=all) all.toList [] 0 rfl Zi Zi i c htb
      have:=hD.waits hw hi
      rw[hcl] at this
      cases this
    have hag:(j=c\/Dh all c j=true)-> ∀y∈oj.op.operands,opA cur y=opA frF y:=fun hjc y hy=>by
     cases y with
     |tmp t=>
      have hs':t∈slotsOf all oj:=List.mem_append_left _ (List.mem_filterMap.2 ⟨.tmp t,by simpa using hy,rfl⟩)
      show cur t=frF t
      by_cases hw: ∃(i:Nat) (oi:Oper),all[i]?=some oi/\oi.dst=some t
      ·obtain⟨i,oi,hi,hdi⟩:=hw
       obtain⟨e,he,e1,e2⟩:=hreads j oj hoj hjc i oi t hi hdi hs'
       exact h1 i oi t (e1▸hje e he e2) hi hdi
      ·have hno: ∀(i:Nat) (oi:Oper),all[i]?=some oi->oi.dst≠some t:=fun i oi hi hdi=>hw ⟨i,oi,hi,hdi⟩
       rw[h2 t fun i oi _ hi=>hno i oi hi,ha t fun i _ o ho'=>hno i o ho']
     |const c=>cases c<;>rfl
     |func f=>rfl
     |global g=>rfl
    unfold wpOp
    simp only[hoj]
    by_cases hjc:j=c
    ·subst hjc
     rw[hc] at hoj;cases hoj
     rw[S.guard (b:=true) (by simp[guardA,hg]),if_pos rfl]
     exact .inl (hop cur a w _ (hag (.inl rfl)) S)
    ·cases hfj:Dh all c j with
     |false=>
      exfalso
      unfold Dh at hfj
      rw[Bool.and_eq_false_iff] at hfj
      rcases hfj with h|h
      ·simp at h;exact hjc h
      ·have htb:((waits all.toList []).getD j 0).testBit c=true:=by simpa using h
       have hw:=Kd (all:=all) all.toList [] 0 rfl Zi Zi j c htb
       have:=Mc hD hj hw
       rw[hcl] at this
       cases this
     |true=>
      obtain⟨hgj,vj,hrun,hdst⟩:=hb j (hfm hjlt hfj) oj hoj
      rw[S.guard (b:=true) (by simp[guardA,hgj]),if_pos rfl]
      have hev:(evOp P E k call cur oj).run hp=some (vj,hp):=by rw[J3 (hag (.inr hfj))];exact hrun
      refine .inl ((S.op hE hC (hd oj (by have:=Array.mem_of_getElem? hoj;simpa using this)) hev).wp fun u w' S'=>?_)
      have hset: ∀i,(listed.setIfInBounds j true).getD i false=true->i=j\/listed.getD i false=true:=fun i hi=>by
       by_cases e:j=i
       ·exact .inl e.symm
       ·rw[getD_set_ne false e] at hi;exact .inr hi
      refine ih (listed.setIfInBounds j true) _ _ _ (hD.set hj) (by simpa using hsz) (by rw[getD_set_ne false hjc];exact hcl) ?_ (fun i oi d hi hoi hdi=>?_) (fun t ht=>?_) S'
      ·have hjf:listed.getD j false=false:=by rw[<-hunl hjlt];exact hju
       have hone: ∀(l:List Nat),l.Nodup->j∈l->(l.filter fun i=>(listed.setIfInBounds j true).getD i false).length=(l.filter fun i=>listed.getD i false).length+1:=by
        intro l
        induction l with
        |nil=>intro _ h;cases h
        |cons y l ihl=>
         intro hnd hjm
         rw[List.nodup_cons] at hnd
         by_cases hyj:j=y
         ·subst hyj
          have e1:(listed.setIfInBounds j true).getD j false=true:=(by have hjs:j<listed.size:=Zo;simp[hjs])
          have e2:l.filter (fun i=>(listed.setIfInBounds j true).getD i false)=l.filter fun i=>listed.getD i false:=List.filter_congr fun i hi=>getD_set_ne false (fun e=>hnd.1 (e▸hi))
          simp only[List.filter_cons,e1,hjf,e2,if_true,Bool.false_eq_true,if_false,List.length_cons]
         ·have:=ihl hnd.2 ((List.mem_cons.1 hjm).resolve_left hyj)
          have e1:(listed.setIfInBounds j true).getD y false=listed.getD y false:=getD_set_ne false hyj
          cases hy:listed.getD y false with
          |true=>simp only[List.filter_cons,e1,hy,if_true,List.length_cons,this]
          |false=>simp only[List.filter_cons,e1,hy,Bool.false_eq_true,if_false,this]
       have:=hone (List.range all.size) List.nodup_range (List.mem_range.2 hjlt)
       have:cntL (listed.setIfInBounds j true)=cntL listed+1:=this
       omega
      ·rcases hset i hi with rfl|hi'
       ·rw[hoj] at hoi;cases hoi
        simp only[hdi,setd,if_true]
        exact(hdst d hdi).symm
       ·have hne:oj.dst≠some d:=fun e=>by
         have:=huniq _ _ _ _ _ hoi hoj hdi e
         subst this
         have hjf:listed.getD i false=false:=by rw[<-hunl hjlt];exact hju
         rw[hjf] at hi';cases hi'
        simp only
        rw[Ec hne]
        exact h1 i oi d hi' hoi hdi
      ·have hjt:oj.dst≠some t:=ht j oj (by have hjs:j<listed.size:=Zo;simp[hjs]) hoj
       simp only
       rw[Ec hjt]
       refine h2 t fun i oi hi hoi=>ht i oi ?_ hoi
       by_cases e:j=i
       ·subst e
        have hjs:j<listed.size:=Zo
        simp[hjs]
       ·rw[getD_set_ne false e];exact hi
 refine main all.size (Array.replicate all.size false) fr a {w with drawn:=w.drawn+1} (fun j o e hj _ _ _=>?_) Zi (by simp[hclt]) ?_ (fun i oi d hi _ _=>?_) (fun t _=>rfl) (S.drawn _)
 ·exfalso
  by_cases h:j<all.size<;>simp[h] at hj
 ·have:cntL (Array.replicate all.size false)=0:=by
   refine List.length_eq_zero_iff.2 (List.filter_eq_nil_iff.2 fun i hi=>?_)
   have:=List.mem_range.1 hi
   simp[this]
  omega
 ·exfalso
  by_cases h:i<all.size<;>simp[h] at hi
theorem Vb (hm:P.follows .mixedOrders=true)(hE:ELaw P E)(hC:A4 P call){k n:Nat}{c:Code}{v:Value}{hp':Hp}(ih: ∀j,j<n-> ∀s,Pan P E call (.code k c s) j v hp'->E9 P k c s v hp')
  (N:Nat) (K:Nat->Prop) (B:Base) (Q:Exit->Act->World->Prop) (a:Act) (w:World) (hs:slotsIn N c=true) {st:AS} (S:StR k N K B st a w) (h:Pan P E call (.code k (.loop c) st) n v hp') (hQ: ∀a' w',PanR K B hp' a' w'->Q (.panic (panE v)) a' w'):(Code.loop c).wp P Q a w:=by
 refine wp_loop (I:=fun a w=> ∃g s,g<=n/\StR k N K B s a w/\Pan P E call (.code k (.loop c) s) g v hp')
  (μ:=fun a w=>least fun g=> ∃s,g<=n/\StR k N K B s a w/\Pan P E call (.code k (.loop c) s) g v hp') ⟨n,st,Nat.le_refl _,S,h⟩ ?_
 intro a w hI
 obtain⟨⟨s,hg,S,h⟩,_⟩:=Cm (p:=fun g=> ∃s,g<=n/\StR k N K B s a w/\Pan P E call (.code k (.loop c) s) g v hp') hI
 generalize hgl:least (fun g=> ∃s,g<=n/\StR k N K B s a w/\Pan P E call (.code k (.loop c) s) g v hp')=g at hg h
 cases h with
 | @loopN _ m _ _ s1 g' _ _ h1 h2=>
  refine B7 hm hE hC m c hs S h1 fun a' w' S'=>⟨⟨g',s1,Zo,S',h2⟩,?_⟩
  have:=(Cm (p:=fun g=> ∃s,g<=n/\StR k N K B s a' w'/\Pan P E call (.code k (.loop c) s) g v hp') ⟨g',s1,Zo,S',h2⟩).2 g' ⟨s1,Zo,S',h2⟩
  exact Nat.lt_succ_of_le this
 | @loopP _ _ _ g' _ _ h2=>
  exact ih g' Zo s h2 N K B _ a w hs S fun a' w' hR=>hQ a' w' hR
theorem Sa (hm:P.follows .mixedOrders=true)(hE:ELaw P E)(hC:A4 P call): ∀(n:Nat) (t:PTask) (v:Value) (hp':Hp),Pan P E call t n v hp'->PanT P v hp' t:=by
 intro n
 induction n using Nat.strongRecOn with
 |_ n ih0=>
  intro t v hp' h
  have h00:=h
  cases h with
  | @fn k f fn c _ args hp _ _ hf hb hok hl h=>
   have hc:E9 P (k+1) c ⟨frame0 args,hp⟩ v hp':=ih0 _ (Nat.lt_succ_self _) _ _ _ h
   intro I K m w us _ G ha
   have hbo:=hok
   unfold Ac at hbo
   rw[hb] at hbo
   simp only[Bool.and_eq_true,decide_eq_true_eq] at hbo
   obtain⟨⟨hs1,hs2⟩,hs3⟩:=hbo
   have hus:us.length=fn.params.size+fn.nfree:=by rw[<-ha.1];exact hl
   refine calls_of_wp hf hb ?_
   have S0:StR (k+1) fn.ntmps K ⟨I,m,hp,w,[]⟩ ⟨frame0 args,hp⟩ {tmps:=(⟨us⟩:Array Value)++Array.replicate (fn.ntmps - (⟨us⟩:Array Value).size) undef,defers:=[]} w:=by
    refine⟨I,m,G,.refl _ _ _ _ _,fun t=>Ek (ha.imp fun a u h=>Rep.depth (Nat.le_succ k) a u h) t,?_,rfl⟩
    simp only[Array.size_append,List.size_toArray,Array.size_replicate]
    omega
   refine hc _ K _ _ _ _ hs1 S0 fun a' w' hR=>?_
   obtain⟨I',m',G',E',hd⟩:=hR
   exact⟨hd,rfl,I',m',G',E'⟩
  | @skip k all o os st _ _ _ hg h=>
   have hc:Tc P k all os _ v hp':=ih0 _ (Nat.lt_succ_self _) _ _ _ h
   intro N K B i Q a w hl hd S hQ
   have h0:all[i]?=some o:=by simpa using(hl 0).symm
   have hl': ∀j,os[j]?=all[i+1+j]?:=fun j=>by have:=hl (j+1);simpa[Nat.add_assoc,Nat.add_comm 1 j] using this
   simp only[List.length_cons,List.range'_succ,wpOps,h0]
   rw[S.guard hg]
   simp only[Bool.false_eq_true,if_false]
   exact hc N K B _ Q _ _ hl' (fun p hp=>hd p (List.mem_cons_of_mem _ hp)) (S.skip (hd o (List.mem_cons_self ..))) hQ
  | @step k all o os st _ _ _ u hp1 hg hr h=>
   have hc:Tc P k all os _ v hp':=ih0 _ (Nat.lt_succ_self _) _ _ _ h
   intro N K B i Q a w hl hd S hQ
   have h0:all[i]?=some o:=by simpa using(hl 0).symm
   have hl': ∀j,os[j]?=all[i+1+j]?:=fun j=>by have:=hl (j+1);simpa[Nat.add_assoc,Nat.add_comm 1 j] using this
   simp only[List.length_cons,List.range'_succ,wpOps,h0]
   rw[S.guard hg,if_pos rfl]
   exact .inl ((S.op hE hC (hd o (List.mem_cons_self ..)) hr).wp fun u w' S'=>hc N K B _ Q _ _ hl' (fun p hp=>hd p (List.mem_cons_of_mem _ hp)) S' hQ)
  | @call k all o os st _ _ _ x args ats f cs hg ho hx hok hlt h=>
   have hc:Do P k f _ st.hp v hp':=ih0 _ (Nat.lt_succ_self _) _ _ _ h
   intro N K B i Q a w hl hd S hQ
   have h0:all[i]?=some o:=by simpa using(hl 0).symm
   simp only[List.length_cons,List.range'_succ,wpOps,h0]
   rw[S.guard hg,if_pos rfl]
   exact .inl (pan_op hc ho hx hok hlt S hQ)
  | @panic k all o os st _ x t u hg ho hx=>
   intro N K B i Q a w hl hd S hQ
   have h0:all[i]?=some o:=by simpa using(hl 0).symm
   simp only[List.length_cons,List.range'_succ,wpOps,h0]
   rw[S.guard hg,if_pos rfl]
   exact .inl (P9 ho hx S hQ)
  | @region k id ops st _ _ _ h=>
   have hc:Tc P k ops ops.toList st v hp':=ih0 _ (Nat.lt_succ_self _) _ _ _ h
   intro N K B Q a w hs S hQ
   refine wp_region ?_
   have h1:=hc N K B 0 Q a w (fun j=>by rw[Array.getElem?_toList,Nat.zero_add]) (fun o ho x hx=>by
    simp only[slotsIn,List.all_eq_true,Bool.and_eq_true] at hs
    have:=(hs o ho).1
    rw[hx] at this
    simpa using this) S hQ
   rw[List.range_eq_range']
   simpa using h1
  | @draw k id c ops st _ _ _ o x args ats f cs frF hpk hf hc hg ho hx hok hlt h=>
   have hcl:Do P k f _ st.hp v hp':=ih0 _ (Nat.lt_succ_self _) _ _ _ h
   intro N K B Q a w hs S hQ
   refine Vc hm hE hC hpk hf hc hg (fun cur a w next hag S=>?_) (Gq hs) S
   rw[ho] at hag
   have e1:opA cur x=opA frF x:=hag x (by simp[Op.operands,Call.operands])
   have e2:args.toList.map (opA cur)=args.toList.map (opA frF):=List.map_congr_left fun y hy=>hag y (by simp[Op.operands,Call.operands];exact .inr (by simpa using hy))
   exact pan_op (st:=⟨cur,st.hp⟩) (by simp only;rw[e2];exact hcl) ho (by simp only;rw[e1];exact hx) hok hlt S hQ
  | @drawP k id c ops st _ o x t u frF hpk hf hc hg ho hx=>
   intro N K B Q a w hs S hQ
   refine Vc hm hE hC hpk hf hc hg (fun cur a w next hag S=>?_) (Gq hs) S
   rw[ho] at hag
   have e1:opA cur x=opA frF x:=hag x (by simp[Op.operands])
   exact P9 (st:=⟨cur,st.hp⟩) ho (by simp only;rw[e1];exact hx) S hQ
  | @seqL k x y st _ _ _ h=>
   have hc:E9 P k x st v hp':=ih0 _ (Nat.lt_succ_self _) _ _ _ h
   intro N K B Q a w hs S hQ
   simp only[slotsIn,Bool.and_eq_true] at hs
   exact wp_seq (hc N K B _ a w hs.1 S fun a' w' hR=>hQ a' w' hR)
  | @seqR k m x y st s _ _ _ h1 h=>
   have hc:E9 P k y s v hp':=ih0 _ (Nat.lt_succ_self _) _ _ _ h
   intro N K B Q a w hs S hQ
   simp only[slotsIn,Bool.and_eq_true] at hs
   exact wp_seq (B7 hm hE hC m x hs.1 S h1 fun a' w' S'=>hc N K B Q a' w' hs.2 S' hQ)
  | @cond k c x y st t _ _ _ hc h=>
   have hi:E9 P k (if t then x else y) st v hp':=ih0 _ (Nat.lt_succ_self _) _ _ _ h
   intro N K B Q a w hs S hQ
   simp only[slotsIn,Bool.and_eq_true] at hs
   have hb:a.eval c= .bool t:=by
    obtain⟨I,m,G,E0,hf,hsz,hdf⟩:=S
    have:=Eh G hf c
    rw[hc] at this
    simpa only[Rep] using this
   refine wp_cond hb ?_
   cases t with
   |true=>exact hi N K B Q a w hs.1.2 S hQ
   |false=>exact hi N K B Q a w hs.2 S hQ
  | @block k id c st _ _ _ h=>
   have hc:E9 P k c st v hp':=ih0 _ (Nat.lt_succ_self _) _ _ _ h
   intro N K B Q a w hs S hQ
   simp only[slotsIn] at hs
   exact wp_block (hc N K B _ a w hs S fun a' w' hR=>hQ a' w' hR)
  | @scope k c st _ _ _ h=>
   have hc:E9 P k c st v hp':=ih0 _ (Nat.lt_succ_self _) _ _ _ h
   intro N K B Q a w hs S hQ
   simp only[slotsIn] at hs
   exact wp_scope_straight (hc N K B _ a w hs S fun a' w' hR=>hQ a' w' hR)
  | @loopN k m c st s n _ _ h1 h=>
   intro N K B Q a w hs S hQ
   simp only[slotsIn] at hs
   exact Vb hm hE hC (n:=n+1) (fun j hj s h=>ih0 j hj _ _ _ h) N K B Q a w hs S h00 hQ
  | @loopP k c st n _ _ h=>
   intro N K B Q a w hs S hQ
   simp only[slotsIn] at hs
   exact Vb hm hE hC (n:=n+1) (fun j hj s h=>ih0 j hj _ _ _ h) N K B Q a w hs S h00 hQ
end
end
section
open Go
def Ends (P:Program)(E:Cfg)(k:Nat)(call:Orc)(c:Code)(st:AS):Ex->AS->Prop
 | .panic v,s=> ∃n hp',Pan P E call (.code k c st) n v hp'/\s=⟨fun _=> .any,hp'⟩
 | .normal,s=> ∃n,evC P E k call n c st=some (.normal,s)
 | .exit i,s=> ∃n,evC P E k call n c st=some (.exit i,s)
 | .ret,s=> ∃n,evC P E k call n c st=some (.ret,s)
def W (P:Program)(E:Cfg)(k:Nat)(call:Orc)(c:Code)(st:AS)(Q:Ex->AS->Prop):Prop:= ∃e st',Ends P E k call c st e st'/\Q e st'
def Wo (P:Program)(E:Cfg)(k:Nat)(call:Orc)(all:Array Oper)(os:List Oper)(st:AS)(Q:AS->Prop)(PQ:Value->Hp->Prop):Prop:=
 (∃st',evOps P E k call all os st=some st'/\Q st')\/ ∃n v hp',Pan P E call (.ops k all os st) n v hp'/\PQ v hp'
def Wp {α:Type}(p:Prog α)(hp:Hp)(Q:α->Hp->Prop):Prop:= ∃v hp',p.run hp=some (v,hp')/\Q v hp'
abbrev panQ (Q:Ex->AS->Prop):Value->Hp->Prop:=fun v hp=>Q (.panic v) ⟨fun _=> .any,hp⟩
section
variable {P:Program}{E:Cfg}{k:Nat}{call:Orc}
theorem C9 : ∀(n:Nat) (c:Code) (st s:AS) (v:Value),evC P E k call n c st=some (.panic v,s)->False
 |0,c,st,s,v,h=>by simp[evC] at h
 |n+1,c,st,s,v,h=>by
  cases c with
  |region id ops d=>
   simp only[evC] at h
   cases hr:evRegion P E k call ops d st with
   |none=>rw[hr] at h;cases h
   |some r=>rw[hr] at h;simp at h
  |seq x y=>
   simp only[evC] at h
   split at h
   ·exact C9 n _ _ _ _ h
   ·exact C9 n _ _ _ _ h
  |cond c x y=>
   simp only[evC] at h
   split at h
   ·split at h
    ·exact C9 n _ _ _ _ h
    ·exact C9 n _ _ _ _ h
   ·cases h
  |block id x=>
   simp only[evC] at h
   split at h
   ·split at h<;>cases h
   ·exact C9 n _ _ _ _ h
  |scope x=>
   simp only[evC] at h
   exact C9 n _ _ _ _ h
  |loop x=>
   simp only[evC] at h
   split at h
   ·exact C9 n _ _ _ _ h
   ·exact C9 n _ _ _ _ h
  |_=>simp[evC] at h
theorem W_of {n:Nat}{c:Code}{st s:AS}{e:Ex}{Q:Ex->AS->Prop}(h:evC P E k call n c st=some (e,s))(q:Q e s):W P E k call c st Q:=by
 cases e with
 |normal=>exact⟨.normal,s,⟨n,h⟩,q⟩
 |exit i=>exact⟨.exit i,s,⟨n,h⟩,q⟩
 |ret=>exact⟨.ret,s,⟨n,h⟩,q⟩
 |panic v=>exact(C9 _ _ _ _ _ h).elim
theorem Gm {n:Nat}{c:Code}{st:AS}{v:Value}{hp':Hp}{Q:Ex->AS->Prop}(h:Pan P E call (.code k c st) n v hp')(q:panQ Q v hp'):W P E k call c st Q:=⟨.panic v,_,⟨n,hp',h,rfl⟩,q⟩
theorem Bq {c:Code}{st:AS}{Q:Ex->AS->Prop}(h:W P E k call c st Q):(∃n e s,evC P E k call n c st=some (e,s)/\(∀v,e≠ .panic v)/\Q e s)\/ ∃n v hp',Pan P E call (.code k c st) n v hp'/\panQ Q v hp':=by
 obtain⟨e,s,h1,h2⟩:=h
 cases e with
 |normal=>obtain⟨n,h1⟩:=h1;exact .inl ⟨n,_,s,h1,nofun,h2⟩
 |exit i=>obtain⟨n,h1⟩:=h1;exact .inl ⟨n,_,s,h1,nofun,h2⟩
 |ret=>obtain⟨n,h1⟩:=h1;exact .inl ⟨n,_,s,h1,nofun,h2⟩
 |panic v=>obtain⟨n,hp',h1,rfl⟩:=h1;exact .inr ⟨n,v,hp',h1,h2⟩
theorem W.mono {c:Code}{st:AS}{Q Q':Ex->AS->Prop}(h:W P E k call c st Q)(hq: ∀e s,Q e s->Q' e s):W P E k call c st Q':=by
 obtain⟨e,s,h1,h2⟩:=h
 exact⟨e,s,h1,hq _ _ h2⟩
theorem Ga {st:AS}{Q:Ex->AS->Prop}(h:Q .normal st):W P E k call .skip st Q:=W_of (n:=1) rfl h
theorem Ng {l:Nat}{st:AS}{Q:Ex->AS->Prop}(h:Q .normal st):W P E k call (.label l) st Q:=W_of (n:=1) rfl h
theorem Gb {id:Nat}{st:AS}{Q:Ex->AS->Prop}(h:Q (.exit id) st):W P E k call (.exit id) st Q:=W_of (n:=1) rfl h
theorem K9 {st:AS}{Q:Ex->AS->Prop}(h:Q .ret st):W P E k call .ret st Q:=W_of (n:=1) rfl h
theorem Wj {id:Nat}{ops:Array Oper}{st:AS}{Q:Ex->AS->Prop}(h:Wo P E k call ops ops.toList st (Q .normal) (panQ Q)):W P E k call (.region id ops false) st Q:=by
 rcases h with⟨st',h1,h2⟩|⟨n,v,hp',h1,h2⟩
 ·exact W_of (n:=1) (by simp[evC,evRegion,h1]) h2
 ·exact Gm (.region h1) h2
def thenW (N:AS->Prop)(Q:Ex->AS->Prop):Ex->AS->Prop
 | .normal,s=>N s
 |e,s=>Q e s
theorem Fj {a b:Code}{st:AS}{Q:Ex->AS->Prop}(h:W P E k call a st (thenW (fun s=>W P E k call b s Q) Q)):W P E k call (.seq a b) st Q:=by
 rcases Bq h with⟨n,e,s,h1,_,h2⟩|⟨n,v,hp',h1,h2⟩
 ·cases e with
  |normal=>
   rcases Bq h2 with⟨m,e',s',h3,_,h4⟩|⟨m,v,hp',h3,h4⟩
   ·refine W_of (n:=max n m+1) ?_ h4
    simp only[evC]
    rw[Cg (.refl call) n (max n m) (Nat.le_max_left ..) _ _ _ h1]
    exact Cg (.refl call) m (max n m) (Nat.le_max_right ..) _ _ _ h3
   ·exact Gm (.seqR h1 h3) h4
  |exit i=>exact W_of (n:=n+1) (by simp only[evC];rw[h1]) h2
  |ret=>exact W_of (n:=n+1) (by simp only[evC];rw[h1]) h2
  |panic v=>exact(C9 _ _ _ _ _ h1).elim
 ·exact Gm (.seqL h1) h2
theorem W_cond {c:Operand}{a b:Code}{st:AS}{Q:Ex->AS->Prop}{t:Bool}(hc:opA st.fr c= .sc (.bool t))(h:W P E k call (if t then a else b) st Q):W P E k call (.cond c a b) st Q:=by
 rcases Bq h with⟨n,e,s,h1,_,h2⟩|⟨n,v,hp',h1,h2⟩
 ·refine W_of (n:=n+1) ?_ h2
  simp only[evC,hc]
  cases t<;>simpa using h1
 ·exact Gm (.cond hc h1) h2
def inBlockW (id:Nat)(Q:Ex->AS->Prop):Ex->AS->Prop
 | .exit i,s=>if i=id then Q .normal s else Q (.exit i) s
 |e,s=>Q e s
theorem D3 {id:Nat}{c:Code}{st:AS}{Q:Ex->AS->Prop}(h:W P E k call c st (inBlockW id Q)):W P E k call (.block id c) st Q:=by
 rcases Bq h with⟨n,e,s,h1,_,h2⟩|⟨n,v,hp',h1,h2⟩
 ·cases e with
  |normal=>exact W_of (n:=n+1) (by simp only[evC];rw[h1]) h2
  |ret=>exact W_of (n:=n+1) (by simp only[evC];rw[h1]) h2
  |panic v=>exact(C9 _ _ _ _ _ h1).elim
  |exit i=>
   by_cases hi:i=id
   ·simp only[inBlockW,hi,if_true] at h2
    exact W_of (n:=n+1) (e:= .normal) (by simp only[evC];rw[h1];simp[hi]) h2
   ·simp only[inBlockW,hi,if_false] at h2
    exact W_of (n:=n+1) (e:= .exit i) (by simp only[evC];rw[h1];simp[hi]) h2
 ·exact Gm (.block h1) h2
theorem S9 {c:Code}{st:AS}{Q:Ex->AS->Prop}(h:W P E k call c st Q):W P E k call (.scope c) st Q:=by
 rcases Bq h with⟨n,e,s,h1,_,h2⟩|⟨n,v,hp',h1,h2⟩
 ·exact W_of (n:=n+1) (by simp only[evC];exact h1) h2
 ·exact Gm (.scope h1) h2
theorem Fi {c:Code}{st:AS}{Q:Ex->AS->Prop}(h:W P E k call c st (thenW (fun s=>W P E k call (.loop c) s Q) Q)):W P E k call (.loop c) st Q:=by
 rcases Bq h with⟨n,e,s,h1,_,h2⟩|⟨n,v,hp',h1,h2⟩
 ·cases e with
  |normal=>
   rcases Bq h2 with⟨m,e',s',h3,_,h4⟩|⟨m,v,hp',h3,h4⟩
   ·refine W_of (n:=max n m+1) ?_ h4
    simp only[evC]
    rw[Cg (.refl call) n (max n m) (Nat.le_max_left ..) _ _ _ h1]
    exact Cg (.refl call) m (max n m) (Nat.le_max_right ..) _ _ _ h3
   ·exact Gm (.loopN h1 h3) h4
  |exit i=>exact W_of (n:=n+1) (by simp only[evC];rw[h1]) h2
  |ret=>exact W_of (n:=n+1) (by simp only[evC];rw[h1]) h2
  |panic v=>exact(C9 _ _ _ _ _ h1).elim
 ·exact Gm (.loopP h1) h2
theorem W_loop {c:Code}{st:AS}{Q:Ex->AS->Prop}(I:Nat->AS->Prop){n:Nat}(h0:I n st)(round: ∀n s,I n s->W P E k call c s (thenW (fun s'=> ∃m,m<n/\I m s') Q)):W P E k call (.loop c) st Q:=by
 induction n using Nat.strongRecOn generalizing st with
 |_ n ih=>
  refine Fi ((round n st h0).mono fun e s h=>?_)
  cases e with
  |normal=>obtain⟨m,hm,hI⟩:=h;exact ih m hm hI
  |exit i=>exact h
  |ret=>exact h
  |panic v=>exact h
theorem H7 {all:Array Oper}{st:AS}{Q:AS->Prop}{PQ:Value->Hp->Prop}(h:Q st):Wo P E k call all [] st Q PQ:= .inl ⟨st,rfl,h⟩
theorem Jn {all:Array Oper}{o:Oper}{os:List Oper}{st:AS}{Q:AS->Prop}{PQ:Value->Hp->Prop}(hg:guardA all st.fr o=some true)(h:Wp (evOp P E k call st.fr o) st.hp fun v hp=>Wo P E k call all os ⟨setd st.fr o.dst v,hp⟩ Q PQ):Wo P E k call all (o::os) st Q PQ:=by
 obtain⟨v,hp,h1,h⟩:=h
 rcases h with⟨st',h2,h3⟩|⟨n,v',hp',h2,h3⟩
 ·exact .inl ⟨st',by simp only[evOps,hg,h1,h2],h3⟩
 ·exact .inr ⟨n+1,v',hp',.step hg h1 h2,h3⟩
theorem Nf {all:Array Oper}{o:Oper}{os:List Oper}{st:AS}{Q:AS->Prop}{PQ:Value->Hp->Prop}(hg:guardA all st.fr o=some false)(h:Wo P E k call all os ⟨setd st.fr o.dst (.sc undef),st.hp⟩ Q PQ):Wo P E k call all (o::os) st Q PQ:=by
 rcases h with⟨st',h2,h3⟩|⟨n,v',hp',h2,h3⟩
 ·exact .inl ⟨st',by simp only[evOps,hg,h2],h3⟩
 ·exact .inr ⟨n+1,v',hp',.skip hg h2,h3⟩
section
variable {α β:Type}{hp:Hp}
end
def Ex.fine :Ex->Bool
 | .normal=>true
 | .ret=>true
 |_=>false
@[simp] theorem fine_normal :Ex.normal.fine=true:=rfl
@[simp] theorem fine_ret :Ex.ret.fine=true:=rfl
theorem fn_of {X:Orc}{f:Nat}{fn:Func}{c:Code}{args rs:List AV}(hf:P.funcs[f]?=some fn)(hx:X.dat f args=none)(hb:fn.body=some c)(hok:Ac fn=true)(hl:args.length=fn.params.size+fn.nfree)
  (h:W P E 0 (lim P E X) c ⟨frame0 args,hp0⟩ fun e st=>e.fine=true/\Wp (resultsP P st.fr fn.resultTypes.toList fn.results.toList) st.hp fun v _=>v=rs):(lim P E X).dat f args=some rs:=by
 rcases Bq h with⟨n,e,st,h1,_,hne,v,hp',h2,rfl⟩|⟨n,v,hp',h1,h2,_⟩
 ·refine lim_fn (n:=n) hf hx ?_
  unfold evFn
  rw[hb]
  simp only[hok,hl,beq_self_eq_true,Bool.and_self,if_true]
  rw[h1]
  cases e with
  |exit i=>simp[Ex.fine] at hne
  |panic v=>simp[Ex.fine] at hne
  |normal=>simp[h2]
  |ret=>simp[h2]
 ·simp[Ex.fine] at h2
def EndQ (P:Program)(ts:List TypeId)(rvs:List ResultVar)(R:List AV->Prop):Ex->AS->Prop
 | .exit _,_=>False
 | .panic _,_=>False
 |_,st=> ∃rs hp',(resultsP P st.fr ts rvs).run st.hp=some (rs,hp')/\R rs
theorem Dp {ts:List TypeId}{rvs:List ResultVar}{R:List AV->Prop}{st:AS}{rs:List AV}{hp':Hp}(h:(resultsP P st.fr ts rvs).run st.hp=some (rs,hp'))(hr:R rs):EndQ P ts rvs R .ret st:=⟨rs,hp',h,hr⟩
theorem fnW {X:Orc}{f:Nat}{fn:Func}{c:Code}{args rs:List AV}{ts:List TypeId}{rvs:List ResultVar}(hf:P.funcs[f]?=some fn)(hx:X.dat f args=none)(hb:fn.body=some c)(hok:Ac fn=true)(hl:args.length=fn.params.size+fn.nfree)
  (ht:rtys P f=ts) (hrv:fn.results.toList=rvs) (h:W P E 0 (lim P E X) c ⟨frame0 args,hp0⟩ (EndQ P ts rvs (· =rs))):(lim P E X).dat f args=some rs:=by
 refine fn_of hf hx hb hok hl (h.mono fun e st hq=>?_)
 have ht:fn.resultTypes.toList=ts:=by rw[<-ht];simp[rtys,hf]
 subst ht hrv
 cases e with
 |exit i=>exact hq.elim
 |panic v=>exact hq.elim
 |normal=>obtain⟨rs',hp',h1,h2⟩:=hq;exact⟨rfl,rs',hp',h1,h2⟩
 |ret=>obtain⟨rs',hp',h1,h2⟩:=hq;exact⟨rfl,rs',hp',h1,h2⟩
theorem fnR {X:Orc}{f:Nat}{fn:Func}{c:Code}{args:List AV}{R:List AV->Prop}{ts:List TypeId}{rvs:List ResultVar}(hf:P.funcs[f]?=some fn)(hx:X.dat f args=none)(hb:fn.body=some c)(hok:Ac fn=true)(hl:args.length=fn.params.size+fn.nfree)
  (ht:rtys P f=ts) (hrv:fn.results.toList=rvs) (h:W P E 0 (lim P E X) c ⟨frame0 args,hp0⟩ (EndQ P ts rvs R)): ∃rs,(lim P E X).dat f args=some rs/\R rs:=by
 obtain⟨e,st,h1,h2⟩:=h
 cases e with
 |exit i=>exact h2.elim
 |panic v=>exact h2.elim
 |normal=>obtain⟨rs,hp',h3,h4⟩:=h2;exact⟨rs,fnW hf hx hb hok hl ht hrv ⟨.normal,st,h1,rs,hp',h3,rfl⟩,h4⟩
 |ret=>obtain⟨rs,hp',h3,h4⟩:=h2;exact⟨rs,fnW hf hx hb hok hl ht hrv ⟨.ret,st,h1,rs,hp',h3,rfl⟩,h4⟩
end
/-! ### rules for code in sequence -/
section
variable {P:Program}{E:Cfg}{k:Nat}{call:Orc}{a b c d:Code}{st st':AS}{Q:Ex->AS->Prop}{id:Nat}{ops:Array Oper}{fs:List Foot}
theorem W_rd (h:runDraw P E.dry k call ops ops.toList st []=some (st',fs))(hs:Mt ops=true)(hf:Ge ops fs=true)(hq:Q .normal st'):W P E k call (.region id ops true) st Q:=
 W_of (n:=1) (by simp[evC,evRegion,h,hs,hf]) hq
theorem W_srd (h:runDraw P E.dry k call ops ops.toList st []=some (st',fs))(hs:Mt ops=true)(hf:Ge ops fs=true)(hb:W P E k call b st' Q):W P E k call (.seq (.region id ops true) b) st Q:=Fj (W_rd h hs hf hb)
theorem D8 (h:W P E k call (.seq a b) st Q):W P E k call a st (thenW (fun s=>W P E k call b s Q) Q):=by
 rcases Bq h with⟨n,e,s,h1,_,h2⟩|⟨n,v,hp',h1,h2⟩
 ·cases n with
  |zero=>simp[evC] at h1
  |succ n=>
   simp only[evC] at h1
   cases ha:evC P E k call n a st with
   |none=>rw[ha] at h1;cases h1
   |some r=>
    obtain⟨ea,sa⟩:=r
    rw[ha] at h1
    cases ea with
    |normal=>exact W_of ha (show W P E k call b sa Q from W_of h1 h2)
    |exit i=>cases h1;exact W_of ha h2
    |ret=>cases h1;exact W_of ha h2
    |panic v=>exact(C9 _ _ _ _ _ ha).elim
 ·cases h1 with
  |seqL h3=>exact Gm h3 h2
  |seqR h3 h4=>exact W_of h3 (show W P E k call b _ Q from Gm h4 h2)
theorem W_ss (h:W P E k call (.seq a (.seq b c)) st Q):W P E k call (.seq (.seq a b) c) st Q:=by
 refine Fj (Fj ((D8 h).mono fun e s hs=>?_))
 cases e with
 |normal=>exact(D8 hs).mono fun e s hs=>by cases e<;>exact hs
 |exit i=>exact hs
 |ret=>exact hs
 |panic v=>exact hs
theorem W_sc {x:Operand}{t:Bool}(hc:opA st.fr x= .sc (.bool t))(h1:t=true->t=true->W P E k call (.seq a d) st Q)(h2:t=false->t=false->W P E k call (.seq b d) st Q):W P E k call (.seq (.cond x a b) d) st Q:=by
 refine Fj (W_cond hc ?_)
 cases t with
 |true=>exact D8 (h1 rfl rfl)
 |false=>exact D8 (h2 rfl rfl)
theorem W_c {x:Operand}{t:Bool}(hc:opA st.fr x= .sc (.bool t))(h1:t=true->t=true->W P E k call a st Q)(h2:t=false->t=false->W P E k call b st Q):W P E k call (.cond x a b) st Q:=by
 refine W_cond hc ?_
 cases t with
 |true=>exact h1 rfl rfl
 |false=>exact h2 rfl rfl
theorem E7 (h:W P E k call b st Q):W P E k call (.seq .skip b) st Q:=Fj (Ga h)
theorem Pl {l:Nat}(h:W P E k call b st Q):W P E k call (.seq (.label l) b) st Q:=Fj (Ng h)
theorem H8 (h:Q .ret st):W P E k call (.seq .ret b) st Q:=Fj (K9 h)
theorem E8 (h:Q (.exit id) st):W P E k call (.seq (.exit id) b) st Q:=Fj (Gb h)
theorem Dn (h:W P E k call a st (inBlockW id (thenW (fun s=>W P E k call b s Q) Q))):W P E k call (.seq (.block id a) b) st Q:=Fj (D3 h)
end
theorem Ag {P:Program}{E:Cfg}{k:Nat}{call:Orc}{c:Code}{st:AS}{Q:Ex->AS->Prop}(I:AS->Nat->AS->Prop){n:Nat}(h0:I st n st)(round: ∀n s,I st n s->W P E k call c s (thenW (fun s'=> ∃m,m<n/\I st m s') Q)):W P E k call (.loop c) st Q:=
 W_loop (I st) h0 round
theorem Gx {P:Program}{E:Cfg}{X:Orc}{f k d:Nat}{fn:Func}{c:Code}{args:List AV}{hp:Hp}{rvs:List ResultVar}{R:AV->Hp->Prop}(hf:P.funcs[f]?=some fn)(hx:X.hpc k d f args hp=none)(hb:fn.body=some c)(hok:Ac fn=true)(hl:args.length=fn.params.size+fn.nfree)
  (hrv:fn.results.toList=rvs) (h:W P E (k+1) (lim P E X) c ⟨frame0 args,hp⟩ fun e st=>e.fine=true/\ ∃v hp',(lowerRes P st.fr k d rvs).run st.hp=some (v,hp')/\R v hp') (hi:E.inl f=false:=by first|rfl|simp) (hz:E.frz f=false:=by first|rfl|simp): ∃v hp',(lim P E X).hpc k d f args hp=some (v,hp')/\R v hp':=by
 rcases Bq h with⟨n,e,st,h1,_,hne,v,hp',h2,h3⟩|⟨n,v,hp',h1,h2,_⟩
 ·refine⟨v,hp',lim_fnH (n:=n) hf hx ?_ hi hz,h3⟩
  unfold evFnH
  rw[hb,hrv]
  simp only[hok,hl,beq_self_eq_true,Bool.and_self,if_true]
  rw[h1]
  cases e with
  |exit i=>simp[Ex.fine] at hne
  |panic v=>simp[Ex.fine] at hne
  |normal=>exact h2
  |ret=>exact h2
 ·simp[Ex.fine] at h2
theorem K6a {P:Program}{E:Cfg}{X:Orc}{f k d:Nat}{fn:Func}{c:Code}{args:List AV}{hp:Hp}{rvs:List ResultVar}{ts:List TypeId}{R:AV->Hp->Prop}(hf:P.funcs[f]?=some fn)(hx:X.hpc k d f args hp=none)(hb:fn.body=some c)(hok:Ac fn=true)(hl:args.length=fn.params.size+fn.nfree)
  (hrv:fn.results.toList=rvs) (ht:rtys P f=ts) (h:W P E (k+1) (lim P E X) c ⟨frame0 args,hp⟩ fun e st=>e.fine=true/\ ∃v hp',(frzRes P st.fr ts rvs).run st.hp=some (v,hp')/\R v hp') (hi:E.inl f=false:=by first|rfl|simp) (hz:E.frz f=true:=by first|rfl|simp): ∃v hp',(lim P E X).hpc k d f args hp=some (v,hp')/\R v hp':=by
 have hts:fn.resultTypes.toList=ts:=by rw[<-ht];simp[rtys,hf]
 rcases Bq h with⟨n,e,st,h1,_,hne,v,hp',h2,h3⟩|⟨n,v,hp',h1,h2,_⟩
 ·refine⟨v,hp',lim_fnZ (n:=n) hf hx ?_ hi hz,h3⟩
  unfold evFnZ
  rw[hb,hrv,hts]
  simp only[hok,hl,beq_self_eq_true,Bool.and_self,if_true]
  rw[h1]
  cases e with
  |exit i=>simp[Ex.fine] at hne
  |panic v=>simp[Ex.fine] at hne
  |normal=>exact h2
  |ret=>exact h2
 ·simp[Ex.fine] at h2
theorem K7a {P:Program}{E:Cfg}{X:Orc}{f k d:Nat}{fn:Func}{c:Code}{args:List AV}{hp:Hp}{rvs:List ResultVar}{R:AV->Hp->Prop}(hf:P.funcs[f]?=some fn)(hx:X.hpc k d f args hp=none)(hb:fn.body=some c)(hok:Ac fn=true)(hl:args.length=fn.params.size+fn.nfree)
  (hrv:fn.results.toList=rvs) (h:W P (E.at ((d+1)*1000)) k (lim P E X) c ⟨frame0 args,hp⟩ fun e st=>e.fine=true/\ ∃v hp',(inlRes P st.fr rvs).run st.hp=some (v,hp')/\R v hp') (hi:E.inl f=true:=by first|rfl|simp): ∃v hp',(lim P E X).hpc k d f args hp=some (v,hp')/\R v hp':=by
 rcases Bq h with⟨n,e,st,h1,_,hne,v,hp',h2,h3⟩|⟨n,v,hp',h1,h2,_⟩
 ·refine⟨v,hp',lim_fnI (n:=n) hf hx ?_ hi,h3⟩
  unfold evFnI
  rw[hb,hrv]
  simp only[hok,hl,beq_self_eq_true,Bool.and_self,if_true]
  rw[h1]
  cases e with
  |exit i=>simp[Ex.fine] at hne
  |panic v=>simp[Ex.fine] at hne
  |normal=>exact h2
  |ret=>exact h2
 ·simp[Ex.fine] at h2
def EndB (P:Program)(k d:Nat)(rvs:List ResultVar)(R:AV->Hp->Prop)(PR:Value->Hp->Prop):Ex->AS->Prop
 | .exit _,_=>False
 | .panic v,st=>PR v st.hp
 |_,st=> ∃v hp',(lowerRes P st.fr k d rvs).run st.hp=some (v,hp')/\R v hp'
theorem K8a {P:Program}{E:Cfg}{X:Orc}{f k d:Nat}{fn:Func}{c:Code}{args:List AV}{hp:Hp}{rvs:List ResultVar}{R:AV->Hp->Prop}{PR:Value->Hp->Prop}(hf:P.funcs[f]?=some fn)(hx:X.hpc k d f args hp=none)(hb:fn.body=some c)(hok:Ac fn=true)(hl:args.length=fn.params.size+fn.nfree)
  (hrv:fn.results.toList=rvs) (h:W P E (k+1) (lim P E X) c ⟨frame0 args,hp⟩ (EndB P k d rvs R PR)) (hi:E.inl f=false:=by first|rfl|simp) (hz:E.frz f=false:=by first|rfl|simp):
  (∃v hp',(lim P E X).hpc k d f args hp=some (v,hp')/\R v hp')\/ ∃n v hp',Pan P E (lim P E X) (.fn k f args hp) n v hp'/\PR v hp':=by
 rcases Bq h with⟨n,e,st,h1,hnp,h2⟩|⟨n,v,hp',h1,h2⟩
 ·left
  have key:e.fine=true/\ ∃v hp',(lowerRes P st.fr k d rvs).run st.hp=some (v,hp')/\R v hp':=by
   cases e with
   |exit i=>exact h2.elim
   |panic v=>exact(hnp v rfl).elim
   |normal=>exact⟨rfl,h2⟩
   |ret=>exact⟨rfl,h2⟩
  exact Gx hf hx hb hok hl hrv (W_of h1 key) hi hz
 ·exact .inr ⟨n+1,v,hp',.fn hf hb hok hl h1,h2⟩
def C9a (P:Program)(ts:List TypeId)(rvs:List ResultVar)(R:AV->Hp->Prop)(PR:Value->Hp->Prop):Ex->AS->Prop
 | .exit _,_=>False
 | .panic v,st=>PR v st.hp
 |_,st=> ∃v hp',(frzRes P st.fr ts rvs).run st.hp=some (v,hp')/\R v hp'
theorem Ema {P:Program}{E:Cfg}{X:Orc}{f k d:Nat}{fn:Func}{c:Code}{args:List AV}{hp:Hp}{rvs:List ResultVar}{ts:List TypeId}{R:AV->Hp->Prop}{PR:Value->Hp->Prop}(hf:P.funcs[f]?=some fn)(hx:X.hpc k d f args hp=none)(hb:fn.body=some c)(hok:Ac fn=true)(hl:args.length=fn.params.size+fn.nfree)
  (hrv:fn.results.toList=rvs) (ht:rtys P f=ts) (h:W P E (k+1) (lim P E X) c ⟨frame0 args,hp⟩ (C9a P ts rvs R PR)) (hi:E.inl f=false:=by first|rfl|simp) (hz:E.frz f=true:=by first|rfl|simp):
  (∃v hp',(lim P E X).hpc k d f args hp=some (v,hp')/\R v hp')\/ ∃n v hp',Pan P E (lim P E X) (.fn k f args hp) n v hp'/\PR v hp':=by
 rcases Bq h with⟨n,e,st,h1,hnp,h2⟩|⟨n,v,hp',h1,h2⟩
 ·left
  have key:e.fine=true/\ ∃v hp',(frzRes P st.fr ts rvs).run st.hp=some (v,hp')/\R v hp':=by
   cases e with
   |exit i=>exact h2.elim
   |panic v=>exact(hnp v rfl).elim
   |normal=>exact⟨rfl,h2⟩
   |ret=>exact⟨rfl,h2⟩
  exact K6a hf hx hb hok hl hrv ht (W_of h1 key) hi hz
 ·exact .inr ⟨n+1,v,hp',.fn hf hb hok hl h1,h2⟩
theorem Ad {n:Int}(h1: -9223372036854775808<=n)(h2:n<=9223372036854775807):IntKind.i64.wrap n=n:=IntWalk.i64_in n ⟨h1,h2⟩
/-! ### one operation at a time -/
section
variable {P:Program}{E:Cfg}{k:Nat}{call:Orc}{all:Array Oper}{os l:List Oper}{fr:Nat->AV}{hp hp':Hp}{Q:AS->Prop}{d d' j id:Nat}{op:Op}{ty:TypeId}{pos:String}{aft:Array Edge}{v:AV}{b c:Bool}{fs:List Foot}{R W':List Facet}{st:AS}{B:Code}{QQ:Ex->AS->Prop}{PQ:Value->Hp->Prop}
theorem My (h:Wo P E k call l.toArray l st (fun s=>W P E k call B s QQ) (panQ QQ)):W P E k call (.seq (.region id l.toArray false) B) st QQ:=by
 refine Fj (Wj ?_)
 rcases h with⟨st',h1,h2⟩|⟨n,v,hp',h1,h2⟩
 ·exact .inl ⟨st',by simpa using h1,h2⟩
 ·exact .inr ⟨n,v,hp',by simpa using h1,h2⟩
theorem W_rl (h:Wo P E k call l.toArray l st (QQ .normal) (panQ QQ)):W P E k call (.region id l.toArray false) st QQ:=by
 refine Wj ?_
 rcases h with⟨st',h1,h2⟩|⟨n,v,hp',h1,h2⟩
 ·exact .inl ⟨st',by simpa using h1,h2⟩
 ·exact .inr ⟨n,v,hp',by simpa using h1,h2⟩
theorem Wo_u (h:(evOp P E k call fr ⟨some d,op,ty,pos,aft,none⟩).run hp=some (v,hp'))(r:Wo P E k call all os ⟨setd fr (some d) v,hp'⟩ Q PQ):Wo P E k call all (⟨some d,op,ty,pos,aft,none⟩::os) ⟨fr,hp⟩ Q PQ:=Jn rfl ⟨v,hp',h,r⟩
theorem Wo_n (h:(evOp P E k call fr ⟨none,op,ty,pos,aft,none⟩).run hp=some (v,hp'))(r:Wo P E k call all os ⟨fr,hp'⟩ Q PQ):Wo P E k call all (⟨none,op,ty,pos,aft,none⟩::os) ⟨fr,hp⟩ Q PQ:=Jn rfl ⟨v,hp',h,r⟩
theorem Sx (hd:(all[j]?).bind (·.dst)=some d')(hc:fr d'= .sc (.bool c))(ht:c=true->c=true-> ∃v hp',(evOp P E k call fr ⟨some d,op,ty,pos,aft,some (j,true)⟩).run hp=some (v,hp')/\Wo P E k call all os ⟨setd fr (some d) v,hp'⟩ Q PQ)
  (hf:c=false->c=false->Wo P E k call all os ⟨setd fr (some d) (.sc undef),hp⟩ Q PQ):Wo P E k call all (⟨some d,op,ty,pos,aft,some (j,true)⟩::os) ⟨fr,hp⟩ Q PQ:=by
 cases c with
 |true=>
  obtain⟨v,hp',h,r⟩:=ht rfl rfl
  exact Jn (by simp only[guardA,hd,hc,beq_self_eq_true]) ⟨v,hp',h,r⟩
 |false=>exact Nf (by simp only[guardA,hd,hc];rfl) (hf rfl rfl)
theorem Sz (hd:(all[j]?).bind (·.dst)=some d')(hc:fr d'= .sc (.bool c))(ht:c=false->c=false-> ∃v hp',(evOp P E k call fr ⟨some d,op,ty,pos,aft,some (j,false)⟩).run hp=some (v,hp')/\Wo P E k call all os ⟨setd fr (some d) v,hp'⟩ Q PQ)
  (hf:c=true->c=true->Wo P E k call all os ⟨setd fr (some d) (.sc undef),hp⟩ Q PQ):Wo P E k call all (⟨some d,op,ty,pos,aft,some (j,false)⟩::os) ⟨fr,hp⟩ Q PQ:=by
 cases c with
 |false=>
  obtain⟨v,hp',h,r⟩:=ht rfl rfl
  exact Jn (by simp only[guardA,hd,hc,beq_self_eq_true]) ⟨v,hp',h,r⟩
 |true=>exact Nf (by simp only[guardA,hd,hc];rfl) (hf rfl rfl)
theorem Mw (hd:(all[j]?).bind (·.dst)=some d')(hc:fr d'= .sc (.bool b))(h:(evOp P E k call fr ⟨some d,op,ty,pos,aft,some (j,b)⟩).run hp=some (v,hp'))(r:Wo P E k call all os ⟨setd fr (some d) v,hp'⟩ Q PQ):Wo P E k call all (⟨some d,op,ty,pos,aft,some (j,b)⟩::os) ⟨fr,hp⟩ Q PQ:=
 Jn (by simp only[guardA,hd,hc,beq_self_eq_true]) ⟨v,hp',h,r⟩
theorem Mx (hd:(all[j]?).bind (·.dst)=some d')(hc:fr d'= .sc (.bool c))(hcb:(c==b)=false)(r:Wo P E k call all os ⟨setd fr (some d) (.sc undef),hp⟩ Q PQ):Wo P E k call all (⟨some d,op,ty,pos,aft,some (j,b)⟩::os) ⟨fr,hp⟩ Q PQ:=
 Nf (by simp only[guardA,hd,hc,hcb]) r
theorem Mv {us:List Value}(hd:(all[j]?).bind (·.dst)=some d')(hc:fr d'= .sc (.tuple ⟨us⟩))(r:Wo P E k call all os ⟨setd fr (some d) (.sc undef),hp⟩ Q PQ):Wo P E k call all (⟨some d,op,ty,pos,aft,some (j,b)⟩::os) ⟨fr,hp⟩ Q PQ:=
 Nf (by simp only[guardA,hd,hc]) r
theorem Wo_pc {dd:Option Nat}{x:Operand}{args:Array Operand}{ats:Array TypeId}{f:Nat}{cs:List AV}(hx:opA fr x= .fn f cs)(hok:okFn P f=true)(hlt:f<1000000)
  (h:(∃v hp',(evOp P E k call fr ⟨dd,.call ⟨.value x,args,ats⟩,ty,pos,aft,none⟩).run hp=some (v,hp')/\Wo P E k call all os ⟨setd fr dd v,hp'⟩ Q PQ)\/ ∃n v hp',Pan P E call (.fn k f (args.toList.map (opA fr)++cs) hp) n v hp'/\PQ v hp'):
  Wo P E k call all (⟨dd,.call ⟨.value x,args,ats⟩,ty,pos,aft,none⟩::os) ⟨fr,hp⟩ Q PQ:=by
 rcases h with⟨v,hp',h1,h2⟩|⟨n,v,hp',h1,h2⟩
 ·exact Jn rfl ⟨v,hp',h1,h2⟩
 ·exact .inr ⟨n+1,v,hp',.call rfl rfl hx hok hlt h1,h2⟩
theorem Dm {dd:Option Nat}{x:Operand}{t:TypeId}{u:Value}(hx:opA fr x= .sc (.iface t u))(h:PQ (.iface t u) hp):Wo P E k call all (⟨dd,.panic x,ty,pos,aft,none⟩::os) ⟨fr,hp⟩ Q PQ:=
 .inr ⟨1,_,_,.panic (n:=0) rfl rfl hx,h⟩
def Wd (P:Program)(E:Cfg)(k:Nat)(call:Orc)(all:Array Oper)(os:List Oper)(st:AS)(fs:List Foot)(Q:AS->Prop):Prop:= ∃st' fs',runDraw P E k call all os st fs=some (st',fs')/\Ge all fs'=true/\Q st'
theorem C5 (hs:Mt l.toArray=true)(h:Wd P E.dry k call l.toArray l st [] (fun s=>W P E k call B s QQ)):W P E k call (.seq (.region id l.toArray true) B) st QQ:=by
 obtain⟨st',fs',h1,h2,h3⟩:=h
 exact W_srd (by simpa using h1) hs h2 h3
theorem Jv (hs:Mt l.toArray=true)(h:Wd P E.dry k call l.toArray l st [] (QQ .normal)):W P E k call (.region id l.toArray true) st QQ:=by
 obtain⟨st',fs',h1,h2,h3⟩:=h
 exact W_rd (by simpa using h1) hs h2 h3
theorem A6 (hf:Ge all fs.reverse=true)(q:Q st):Wd P E k call all [] st fs Q:=⟨st,fs.reverse,rfl,hf,q⟩
theorem Wd_u (h:(evOp P E k call fr ⟨some d,op,ty,pos,aft,none⟩).runF hp [] []=some (v,hp',R,W'))(r:Wd P E k call all os ⟨setd fr (some d) v,hp'⟩ (⟨R,refW E k hp hp' W'⟩::fs) Q):Wd P E k call all (⟨some d,op,ty,pos,aft,none⟩::os) ⟨fr,hp⟩ fs Q:=by
 obtain⟨st',fs',h1,h2⟩:=r
 exact⟨st',fs',by simp only[runDraw,stepF,guardA,h];exact h1,h2⟩
theorem Wd_n (h:(evOp P E k call fr ⟨none,op,ty,pos,aft,none⟩).runF hp [] []=some (v,hp',R,W'))(r:Wd P E k call all os ⟨fr,hp'⟩ (⟨R,refW E k hp hp' W'⟩::fs) Q):Wd P E k call all (⟨none,op,ty,pos,aft,none⟩::os) ⟨fr,hp⟩ fs Q:=by
 obtain⟨st',fs',h1,h2⟩:=r
 exact⟨st',fs',by simp only[runDraw,stepF,guardA,h];exact h1,h2⟩
theorem S6 (hd:(all[j]?).bind (·.dst)=some d')(hc:fr d'= .sc (.bool c))(ht:c=true->c=true-> ∃v hp' R W',(evOp P E k call fr ⟨some d,op,ty,pos,aft,some (j,true)⟩).runF hp [] []=some (v,hp',R,W')/\Wd P E k call all os ⟨setd fr (some d) v,hp'⟩ (⟨R,refW E k hp hp' W'⟩::fs) Q)
  (hf:c=false->c=false->Wd P E k call all os ⟨setd fr (some d) (.sc undef),hp⟩ (⟨[],[]⟩::fs) Q):Wd P E k call all (⟨some d,op,ty,pos,aft,some (j,true)⟩::os) ⟨fr,hp⟩ fs Q:=by
 cases c with
 |true=>
  obtain⟨v,hp',R,W',h,st',fs',h1,h2⟩:=ht rfl rfl
  exact⟨st',fs',by simp only[runDraw,stepF,guardA,hd,hc,h,beq_self_eq_true];exact h1,h2⟩
 |false=>
  obtain⟨st',fs',h1,h2⟩:=hf rfl rfl
  exact⟨st',fs',by simp only[runDraw,stepF,guardA,hd,hc];exact h1,h2⟩
theorem S7 (hd:(all[j]?).bind (·.dst)=some d')(hc:fr d'= .sc (.bool c))(ht:c=false->c=false-> ∃v hp' R W',(evOp P E k call fr ⟨some d,op,ty,pos,aft,some (j,false)⟩).runF hp [] []=some (v,hp',R,W')/\Wd P E k call all os ⟨setd fr (some d) v,hp'⟩ (⟨R,refW E k hp hp' W'⟩::fs) Q)
  (hf:c=true->c=true->Wd P E k call all os ⟨setd fr (some d) (.sc undef),hp⟩ (⟨[],[]⟩::fs) Q):Wd P E k call all (⟨some d,op,ty,pos,aft,some (j,false)⟩::os) ⟨fr,hp⟩ fs Q:=by
 cases c with
 |false=>
  obtain⟨v,hp',R,W',h,st',fs',h1,h2⟩:=ht rfl rfl
  exact⟨st',fs',by simp only[runDraw,stepF,guardA,hd,hc,h,beq_self_eq_true];exact h1,h2⟩
 |true=>
  obtain⟨st',fs',h1,h2⟩:=hf rfl rfl
  exact⟨st',fs',by simp only[runDraw,stepF,guardA,hd,hc];exact h1,h2⟩
theorem ex2 {α β:Type}{p:Option (α×β)}{G:α->β->Prop}{v:α}{h:β}(e:p=some (v,h))(g:G v h): ∃v h,p=some (v,h)/\G v h:=⟨v,h,e,g⟩
theorem ex4 {α β γ δ:Type}{p:Option (α×β×γ×δ)}{G:α->β->γ->δ->Prop}{v:α}{h:β}{r:γ}{w:δ}(e:p=some (v,h,r,w))(g:G v h r w): ∃v h r w,p=some (v,h,r,w)/\G v h r w:=⟨v,h,r,w,e,g⟩
end
/-! ### rules for the symbolic end -/
theorem Dt {N:AS->Prop}{Q:Ex->AS->Prop}{s:AS}(h:N s):thenW N Q .normal s:=h
theorem Er {N:AS->Prop}{Q:Ex->AS->Prop}{s:AS}(h:Q .ret s):thenW N Q .ret s:=h
theorem Es {N:AS->Prop}{Q:Ex->AS->Prop}{s:AS}{v:Value}(h:Q (.panic v) s):thenW N Q (.panic v) s:=h
theorem Et {N:AS->Prop}{Q:Ex->AS->Prop}{s:AS}{i:Nat}(h:Q (.exit i) s):thenW N Q (.exit i) s:=h
theorem Mj {Q:Ex->AS->Prop}{s:AS}{i:Nat}(h:Q .normal s):inBlockW i Q .normal s:=h
theorem Mg {Q:Ex->AS->Prop}{s:AS}{i:Nat}(h:Q .ret s):inBlockW i Q .ret s:=h
theorem Mh {Q:Ex->AS->Prop}{s:AS}{i:Nat}{v:Value}(h:Q (.panic v) s):inBlockW i Q (.panic v) s:=h
theorem Mk {Q:Ex->AS->Prop}{s:AS}{i:Nat}(h:Q .normal s):inBlockW i Q (.exit i) s:=by simp[inBlockW,h]
theorem Mi {Q:Ex->AS->Prop}{s:AS}{i j:Nat}(h:Q (.exit i) s)(hne:(i==j)=false):inBlockW j Q (.exit i) s:=by
 have:i≠j:=by simpa using hne
 simp[inBlockW,this,h]
@[simp] theorem setd_app (fr:Nat->AV)(d i:Nat)(v:AV):setd fr (some d) v i=if i=d then v else fr i:=rfl
@[simp] theorem setd_none (fr:Nat->AV)(v:AV):setd fr none v=fr:=rfl
@[simp] theorem run_ret {α:Type}(a:α)(hp:Hp):(Prog.ret a).run hp=some (a,hp):=rfl
attribute [simp] run_bind
@[simp] theorem run_get {α:Type}(x:Nm)(f:AObj->Prog α)(hp:Hp):(Prog.get x f).run hp=(f (hp x)).run hp:=rfl
@[simp] theorem run_put {α:Type}(x:Nm)(o:AObj)(p:Prog α)(hp:Hp):(Prog.put x o p).run hp=p.run (upd hp x o):=rfl
@[simp] theorem run_hdr {α:Type}(x:Nm)(f:Head->Prog α)(hp:Hp):(Prog.hdr x f).run hp=(f (hp x).head).run hp:=rfl
@[simp] theorem upd_app {α:Type}(hp:Nm->α)(x y:Nm)(o:α):upd hp x o y=if y=x then o else hp y:=rfl
@[simp] theorem upd_upd {α:Type}(hp:Nm->α)(x:Nm)(o o':α):upd (upd hp x o) x o'=upd hp x o':=by
 funext y
 simp only[upd]
 split<;>rfl
@[simp] theorem Cfg.dry_off (E:Cfg):E.dry.off=E.off:=rfl
@[simp] theorem Cfg.dry_frz (E:Cfg)(f:Nat):E.dry.frz f=E.frz f:=rfl
@[simp] theorem Cfg.at_frz (E:Cfg)(o f:Nat):(E.at o).frz f=E.frz f:=rfl
@[simp] theorem Cfg.dry_inl (E:Cfg)(f:Nat):E.dry.inl f=E.inl f:=rfl
@[simp] theorem Cfg.at_off (E:Cfg)(o:Nat):(E.at o).off=o:=rfl
@[simp] theorem Cfg.at_hp (E:Cfg)(o f:Nat):(E.at o).hp f=E.hp f:=rfl
@[simp] theorem Cfg.at_eq (E:Cfg)(o:Nat)(t:TypeId):(E.at o).eq t=E.eq t:=rfl
@[simp] theorem Cfg.at_yl (E:Cfg)(o l:Nat):(E.at o).yl l=E.yl l:=rfl
@[simp] theorem Cfg.at_inl (E:Cfg)(o f:Nat):(E.at o).inl f=E.inl f:=rfl
@[simp] theorem Cfg.dry_hp (E:Cfg)(f:Nat):E.dry.hp f=E.hp f:=rfl
@[simp] theorem Cfg.dry_eq (E:Cfg)(t:TypeId):E.dry.eq t=E.eq t:=rfl
@[simp] theorem Cfg.dry_yl (E:Cfg)(l:Nat):E.dry.yl l=false:=rfl
end
section
open Go
attribute [simp] Prog.run Prog.bind evOps guardA evOp opA assignP Cva evInt evStr evUn newBox settleL settle newArr loadP cellsFrom getCs putCs storeP shiftA fieldP indexP lenP chk chkL cellsA aggA C4a toDat toDatL callP argsP oneV takeRes takeAll takeOne takeL takeCell resultsP resultP hand handL handCell sliceP bound rowsP fnN fnA appendP appR appR1 copyP makeP makeBP fillA buildP rowsOfParts buildSliceP partA fieldVP indexVP convertP bytesOfRows eqV eqL El fitsL splice chunks G7 G0 capD capDL ownD ownDL escC escL moveB lowerC inlRes inlAll frzRes packV mapT Fg keyEq mapRows zeroV lookupP insertP boxSliceP Vk scalars Oe chkC chkCs cellOf setCellOf runDraw stepF Prog.runF frame0 Value.oneCell'
@[simp] theorem gen_no (g:Nat):(AObj.no g).gen=g:=(rfl)
@[simp] theorem gen_box (g:Nat)(c:List AV)(f:Bool):(AObj.box g c f).gen=g:=(rfl)
@[simp] theorem gen_arr (g sz:Nat)(e:TypeId)(r:List (List AV))(f:Bool):(AObj.arr g sz e r f).gen=g:=(rfl)
@[simp] theorem gen_map (g:Nat)(a:Bool)(ks:List Value)(r:List (List AV))(f:Bool):(AObj.map g a ks r f).gen=g:=(rfl)
@[simp] theorem head_map (g:Nat)(a:Bool)(ks:List Value)(r:List (List AV))(f:Bool):(AObj.map g a ks r f).head= .map g f:=(rfl)
@[simp] theorem head_no (g:Nat):(AObj.no g).head= .no:=(rfl)
@[simp] theorem head_box (g:Nat)(c:List AV)(f:Bool):(AObj.box g c f).head= .box g c.length f:=(rfl)
@[simp] theorem head_arr (g sz:Nat)(e:TypeId)(r:List (List AV))(f:Bool):(AObj.arr g sz e r f).head= .arr g sz e r.length f:=(rfl)
@[simp] theorem hp0_app (x:Nm):hp0 x= .no 0:=rfl
@[simp] theorem maxLen_eq :maxLen=9223372036854775807:=rfl
end
end Go.Ab
