/- A part of the proof: Ab19, Ab20, Ab21, Ab30, Ab22, Ab23. -/
import Derived.Test.YtggghdmdjpianaaGreatDoorC01
import Derived.IntWalk
set_option linter.unusedSimpArgs false
set_option linter.unusedVariables false
namespace Go.Ab
section
open Go
variable {a v v':AV}{fn:Func}{args:List AV}{rvs:List ResultVar}{us:List Value}{n f d:Nat}{fr:Nat->AV}{call:aS}{ct t:TypeId}{u:Value}
section
variable {P:Program}{I K:Nat->Prop}{m:Mp}{hp hp':Hp}{w:World}{k:Nat}
theorem gH.bs{bs:List Nat}(h:gH P I K w ct a u bs): ∀b∈bs,¬I b/\ ¬K b:=by
 cases a with
 |vec sz rows=>
  rcases h with⟨_,_,rfl⟩|⟨b,cap,us,mk,e,rfl,h2,h3,h4,h5,h6,h7,h8,h9,lC,yR⟩
  ·simp
  ·intro c hc
   rw[FH] at hc;subst hc;exact⟨lC,yR⟩
 |_=>
  have:bs=[]:=h.1;subst this;simp
theorem bA.bs : ∀{cts:List TypeId} {as:List AV} {us:List Value} {bs:List Nat},bA P I K w cts as us bs-> ∀b∈bs,¬I b/\ ¬K b
 |cts,[],_,bs,h=>by
  have:bs=[]:=by cases cts<;>simp only[bA] at h<;>exact h.2
  subst this;simp
 |[],_::_,_,_,h=>by simp[bA] at h
 |t::ts,a::as,us,bs,h=>by
  simp only[bA] at h;obtain⟨u,us',b1,b2,rfl,rfl,h1,h2⟩:=h;intro b hb;rcases nA.1 hb with hb|hb
  ·exact gH.bs h1 b hb
  ·exact bA.bs h2 b hb
theorem gH.noK{bs:List Nat}(h:gH P I K w ct a u bs):gH P I (fun _=>False) w ct a u bs:=by
 cases a with
 |vec sz rows=>
  rcases h with h|⟨b,cap,us,mk,e,h1,h2,h3,h4,h5,h6,h7,h8,h9,lC,yR⟩
  ·exact .inl h
  ·exact .inr ⟨b,cap,us,mk,e,h1,h2,h3,h4,h5,h6,h7,h8,h9,lC,fun h=>h⟩
 |_=>exact h
theorem bA.noK : ∀{cts:List TypeId} {as:List AV} {us:List Value} {bs:List Nat},bA P I K w cts as us bs->bA P I (fun _=>False) w cts as us bs
 |cts,[],_,_,h=>by cases cts<;>exact h
 |[],_::_,_,_,h=>by simp[bA] at h
 |t::ts,a::as,us,bs,h=>by
  simp only[bA] at h⊢;obtain⟨u,us',b1,b2,e1,e2,h1,h2⟩:=h;exact⟨u,us',b1,b2,e1,e2,gH.noK h1,bA.noK h2⟩
theorem bA.mono {I':Nat->Prop}(hi: ∀b,I b->I' b): ∀{cts:List TypeId} {as:List AV} {us:List Value} {bs:List Nat},(∀b∈bs,¬I b-> ¬I' b)->bA P I K w cts as us bs->bA P I' K w cts as us bs
 |cts,[],_,_,_,h=>by cases cts<;>exact h
 |[],_::_,_,_,_,h=>by simp[bA] at h
 |t::ts,a::as,us,bs,hn,h=>by
  simp only[bA] at h⊢;obtain⟨u,us',b1,b2,rfl,rfl,h1,h2⟩:=h;exact⟨u,us',b1,b2,rfl,rfl,gH.mono hi (fun b hb=>hn b (nA.2 (.inl hb))) h1,bA.mono hi (fun b hb=>hn b (nA.2 (.inr hb))) h2⟩
theorem gB.mono {I':Nat->Prop}(hi: ∀b,I b->I' b){bs:List Nat}(hn: ∀b∈bs,¬I b-> ¬I' b)(h:gB P I w t a u bs):gB P I' w t a u bs:=by
 unfold gB at h⊢
 split
 ·rename_i iH
  rw[Ka iH] at h;obtain⟨cs,us,e1,e2,h3⟩:=h;exact⟨cs,us,e1,e2,bA.mono hi hn h3⟩
 ·rename_i iH
  rw[Jx iH] at h;exact gH.mono hi hn h
theorem IF(h:Iu P t=false):dO P t=[t]:=by
 unfold dO IG;unfold Iu at h
 split
 ·rename_i hu;rw[hu] at h;cases h
 ·rename_i hu;rw[hu] at h;cases h
 ·rfl
theorem MC (G:Uj I K m hp w)(hr:Ie k I m hp w v u)(h:(zT P t v).run hp=some (v',hp')):
  ∃I' bs,Uj I' K m hp' w/\aL I K m hp w I' m hp' w/\gB P I' w t v' u bs/\(∀b∈bs,¬I' b/\ ¬K b)/\(∀b,I' b->I b\/Ao m hp b)/\(∀b∈bs,Ao m hp b/\ ¬Ao m hp' b)/\(∀b,Ao m hp' b->Ao m hp b)/\bs.Nodup:=by
 unfold zT at h
 split at h
 case isFalse=>simp[Ia.run] at h
 rename_i hc;obtain⟨hl,ha⟩:=hc;obtain⟨x,U9,r0,h2⟩:=Aa h;clear h;obtain⟨e0,lY,us1,uQ,uP⟩:=Dy r0 hr;rw[e0] at h2;obtain⟨cs,hp1,r1,h3⟩:=Aa h2;clear h2;obtain⟨I1,bs,G1,E1,d1,i1,l1,m1,n1⟩:=Xa G lY r1;have uV:=bA.bs d1;have d1:=bA.noK d1;rw[<-ha] at h3;unfold uC at h3
 cases hb:mD v with
 |true=>
  rw[hb] at h3 uQ;simp only[iW,Ia.run,Bc,Br] at h3 uQ;obtain⟨rfl,rfl⟩:=h3;refine⟨I1,bs,G1,E1,?_,uV,i1,l1,m1,n1⟩;unfold gB;rw[Ka (by rw[<-ha,hb])];rw[uQ] at d1;exact⟨cs,us1,rfl,uQ,d1⟩
 |false=>
  rw[hb] at h3;rw[uP hb,IF (by rw[<-ha,hb])] at d1;simp only[pW,lJ] at h3
  split at h3
  ·rename_i c
   simp only[Ia.run,Bc,Br] at h3;obtain⟨rfl,rfl⟩:=h3;refine⟨I1,bs,G1,E1,?_,uV,i1,l1,m1,n1⟩;unfold gB;rw[Jx (by rw[<-ha,hb];simp)];simp only[bA] at d1;obtain⟨u',us',b1,b2,e1,e2,h1,e3,e4⟩:=d1;simp only[AC] at e1;obtain⟨rfl,_⟩:=e1;subst e2 e4;simpa using h1
  ·simp[Ia.run] at h3
theorem Ww (P:Program)(G:Uj I K m hp w)(hr:Ie k I m hp w a u)(h:(pM P t a).run hp=some (v,hp')): ∃ad,u= .pointer (some ad):=by
 unfold pM at h
 split at h
 ·split at h
  ·rename_i gX
   obtain⟨cs,hp1,r1,_⟩:=Aa h;obtain⟨_,_,b,o,us,rfl,_⟩:=Ec G gX hr r1;exact⟨_,rfl⟩
  ·simp[Ia.run] at h
 ·split at h
  ·obtain⟨cs,hp1,r1,_⟩:=Aa h
   obtain⟨_,_,b,o,us,rfl,_⟩:=Ec G Zo hr r1;exact⟨_,rfl⟩
  ·simp[Ia.run] at h
def fD (tmps:Array Value):ResultVar->Sem Value
 | .tmp t=>pure (tmps.getD t undef)
 | .cell a t=>do loadVar t (<-asAddr (tmps.getD a undef))
theorem Et {fr:Nat->AV}{a:Act}: ∀{ts:List TypeId} {rvs:List ResultVar} {rs:List AV} {I:Nat->Prop} {hp hp':Hp},Uj I K m hp w->(∀t,Ie k I m hp w (fr t) (a.eval (.tmp t)))->(aN P fr ts rvs).run hp=some (rs,hp')->
  ∃I' bs us,(rvs.mapM (fD a.tmps)).run P w= .ok us w/\Uj I' K m hp' w/\aL I K m hp w I' m hp' w/\aY P I' w ts rs us bs/\(∀b∈bs,¬I' b/\ ¬K b)/\(∀b,I' b->I b\/Ao m hp b)/\(∀b∈bs,Ao m hp b/\ ¬Ao m hp' b)/\
   (∀b,Ao m hp' b->Ao m hp b)/\bs.Nodup
 |[],[],rs,I,hp,hp',G,hf,h=>by
  simp only[aN,Ia.run,Bc,Br] at h;obtain⟨rfl,rfl⟩:=h;exact⟨I,[],[],rfl,G,.refl _ _ _ _ _,⟨rfl,rfl⟩,Zi,fun _ h=> .inl h,Zi,fun _ h=>h,Zi⟩
 |[],_::_,_,_,_,_,_,_,h=>by simp[aN,Ia.run] at h
 |_::_,[],_,_,_,_,_,_,h=>by simp[aN,Ia.run] at h
 |t::ts,rv::rvs,rs,I,hp,hp',G,hf,h=>by
  simp only[aN] at h;obtain⟨v,hp1,r1,h2⟩:=Aa h;clear h;obtain⟨vs,If,r2,h3⟩:=Aa h2;clear h2;simp only[Ia.run,Bc,Br] at h3;obtain⟨rfl,rfl⟩:=h3;have one: ∃u,(fD a.tmps rv).run P w= .ok u w/\ ∃v0,Ie k I m hp w v0 u/\(zT P t v0).run hp=some (v,hp1):=by
   cases rv with
   |tmp s=>
    simp only[kR] at r1;exact⟨_,rfl,_,hf s,r1⟩
   |cell c t'=>
    simp only[kR] at r1
    split at r1
    ·rename_i ht
     subst ht;obtain⟨v0,U9,r0,h4⟩:=Aa r1;obtain⟨e0,u',Uk,cJ⟩:=To P G (hf c) r0;obtain⟨ad,had⟩:=Ww P G (hf c) r0;rw[e0] at h4;refine⟨u',?_,v0,cJ,h4⟩;have gE:a.tmps.getD c undef= .pointer (some ad):=had;rw[had] at Uk;simp only[fD,gE,asAddr];simpa[Instr.loadAt,Instr.sureAddr] using Uk
    ·simp[Ia.run] at r1
  obtain⟨u,hu,v0,hv0,r1'⟩:=one;obtain⟨I1,b1,G1,E1,d1,nb1,i1,l1,m1,n1⟩:=MC G hv0 r1';obtain⟨I2,b2,us,jS,G2,E2,d2,nb2,i2,l2,m2,n2⟩:=Et G1 (fun s=>Ie.mono E1 _ _ _ (hf s)) r2;have wG: ∀b∈b1,¬I1 b-> ¬I2 b:=fun b hb hn hi=>by
   rcases i2 b hi with h|h
   ·exact hn h
   ·exact(l1 b hb).2 h
  refine⟨I2,b1++b2,u::us,?_,G2,E1.trans E2,⟨u,us,b1,b2,rfl,rfl,d1.mono E2.isub wG,d2⟩,fun b hb=>?_,fun b hb=>?_,fun b hb=>?_,fun b hb=>m1 b (m2 b hb),?_⟩
  ·rw[Adg,mG,hu,tH,mG,jS]
   rfl
  ·rcases nA.1 hb with hb|hb
   ·exact⟨wG b hb (nb1 b hb).1,(nb1 b hb).2⟩
   ·exact nb2 b hb
  ·rcases i2 b hb with hb|hb
   ·exact i1 b hb
   ·exact .inr (m1 b hb)
  ·rcases nA.1 hb with hb|hb
   ·exact⟨(l1 b hb).1,fun hl=>(l1 b hb).2 (m2 b hl)⟩
   ·exact⟨m1 b (l2 b hb).1,(l2 b hb).2⟩
  ·rw[Ack]
   exact⟨n1,n2,fun b qN c hc hbc=>(l1 b qN).2 (by rw[hbc];exact(l2 c hc).1)⟩
theorem Bl (fn:Func)(tmps:Array Value)(us:List Value)(h:(fn.results.toList.mapM (fD tmps)).run P w= .ok us w):(results fn tmps).run P w= .ok (gF us) w:=by
 have:results fn tmps=(do let vs<-fn.results.mapM (fD tmps);pure (if h:vs.size=1 then vs[0] else .tuple vs)):=by
  unfold results;congr 1
 rw[this,Array.mapM_eq_mapM_toList,mG,Sem.run_map,h];simp only[tH]
 match us with
 |[]=>rfl
 |[x]=>rfl
 |_::_::_=>rfl
end
theorem Gz {k:Nat}{I:Nat->Prop}{m:Mp}{hp:Hp}{w:World}(h:mE I w a u):Ie k I m hp w a u:=by
 unfold mE at h
 split at h
 ·obtain⟨us,rfl,h⟩:=h
  simp only[Ie];exact⟨us,rfl,(Ae _ _).2 (((Ax _ _).1 h).imp fun a u h=>Iq.rep h)⟩
 ·exact Iq.rep h
section
variable {P:Program}{E:cD}
theorem MV (hm:P.follows .mixedOrders=true)(hE:dS P E)(hC:Av P call)(kI:P.funcs[f]?=some fn){rs:List AV}(h:tF P E call n fn args=some rs)
  {I:Nat->Prop} {w:World} (hI: ∀b,I b->b<w.heap.size) (oJ:tG I w) (ha:Ue (mE I w) args us):Calls P f ⟨us⟩ w (fun e w'=> ∃u,e= .returned u/\aW P I w (Iv P f) rs u w'):=by
 unfold tF at h
 split at h
 case h_2=>cases h
 rename_i c hb
 split at h
 case isFalse=>cases h
 rename_i hc;simp only[Ed,beq_iff_eq] at hc;obtain⟨lI,Ij⟩:=hc;unfold Bb at lI;rw[hb] at lI;simp only[Ed,oW] at lI;obtain⟨⟨pN,kM⟩,hs3⟩:=lI;have jS:us.length=fn.params.size+fn.nfree:=by rw[<-ha.1];exact Ij
 have hrt:Iv P f=fn.resultTypes.toList:=by simp[Iv,kI]
 refine Ad1 kI hb ?_;have S0:aX 0 fn.ntmps (fun b=>b<w.heap.size/\ ¬I b) ⟨I,fun _=>none,U9,w,[]⟩ ⟨Uh args,U9⟩ {tmps:=(⟨us⟩:Array Value)++Array.replicate (fn.ntmps - (⟨us⟩:Array Value).size) undef,defers:=[]} w:=by
  refine⟨I,fun _=>none,⟨fun x=>trivial,fun x y p q hl=>by simp[U9,It.live] at hl,hI,fun b hb=>hb.1,fun b hb hk=>hk.2 hb,oJ⟩,.refl _ _ _ _ _,fun t=>?_,?_,rfl⟩
  ·by_cases ht:t<us.length
   ·have CK:t<args.length:=by rw[ha.1];exact ht
    have e1:Uh args t=args[t]:=by simp[Uh,CK]
    have e2:Act.eval {tmps:=(⟨us⟩:Array Value)++Array.replicate (fn.ntmps - (⟨us⟩:Array Value).size) undef,defers:=[]} (.tmp t)=us[t]:=by
     simp[Act.eval,Adf,ht]
    rw[e2];show Ie 0 I (fun _=>none) U9 w (Uh args t) _;rw[e1];exact Gz (ha.2 t _ _ (Bs CK) (Bs ht))
   ·have CK: ¬t<args.length:=by rw[ha.1];exact ht
    have e1:Uh args t= .sc undef:=by simp only[Uh,FL];rw[Ace Zo];rfl
    have e2:Act.eval {tmps:=(⟨us⟩:Array Value)++Array.replicate (fn.ntmps - (⟨us⟩:Array Value).size) undef,defers:=[]} (.tmp t)=undef:=by
     simp only[Act.eval,Nh,Adf];rw[Jx (by simpa using ht),Array.getElem?_replicate]
     split<;>rfl
    rw[e2];show Ie 0 I (fun _=>none) U9 w (Uh args t) _;rw[e1];simp only[Ie]
  ·simp only[AX,AW,BA]
   omega
 have fin: ∀(st:AS) (U7:Hp),(aN P st.fr fn.resultTypes.toList fn.results.toList).run st.hp=some (rs,U7)-> ∀a' w',aX 0 fn.ntmps (fun b=>b<w.heap.size/\ ¬I b) ⟨I,fun _=>none,U9,w,[]⟩ st a' w'->
   a'.defers=[]/\ ∃v,(results fn a'.tmps).run P w'= .ok v w'/\ ∃u,Ending.returned v= .returned u/\aW P I w (Iv P f) rs u w':=by
  intro st U7 hr a' w' S;obtain⟨I1,m1,G1,E1,mY,_,nX⟩:=S;obtain⟨I2,bs,us',Uk,G2,E2,d2,nb,i2,l2,m2,n2⟩:=Et G1 mY hr;refine⟨nX,gF us',Bl fn _ us' Uk,gF us',rfl,?_⟩;have E12:=E1.trans E2;exact {
   old:=fun b hb=>E12.keep b (by
    by_cases hi:I b
    ·exact .inl hi
    ·exact .inr ⟨hb,hi⟩)
   size:=E12.size
   os:=E12.os
   tape:=E12.tape
   output:=E12.output
   res:=⟨I2,us',bs,rfl,E12.isub,fun b hb=>by
     by_cases hi:I b
     ·exact .inl hi
     ·exact .inr (GN fun Ii=>G2.ik b hb ⟨Ii,hi⟩),G2.ilt,fun b hb=>by
     refine⟨GN fun Ii=>?_,(nb b hb).1⟩;by_cases hi:I b
     ·exact(nb b hb).1 (E12.isub b hi)
     ·exact(nb b hb).2 ⟨Ii,hi⟩,n2,by rw[hrt];exact d2⟩}
 split at h
 ·cases h
 ·rename_i e st Ir gE
  cases hr:(aN P st.fr fn.resultTypes.toList fn.results.toList).run st.hp with
  |none=>rw[hr] at h;cases h
  |some p=>
   obtain⟨rs',U7⟩:=p;rw[hr] at h;simp only[wD,Bc] at h;subst h;refine Cn hm hE hC n c pN S0 gE fun a' w' S=>?_
   have lH:=fin st U7 hr a' w' S
   cases e with
   |normal=>exact lH
   |exit i=>exact(Ir i rfl).elim
   |ret=>exact lH
   |panic v=>exact(C2 n _ _ gE v rfl).elim
 ·cases h
/-! ### calls on the caller's heap -/
theorem Tz {K:Nat->Prop}{w:World}{k:Nat}{f:Nat->AV->Ia AV}
  (hf: ∀{I:Nat->Prop} {m:Mp} {hp hp':Hp} {c:Nat} {v v':AV} {u:Value},Uj I K m hp w->Ie (k+1) I m hp w v u->(f c v).run hp=some (v',hp')-> ∃I' m',sF I' K m' hp' w v' k I m hp w u):
  ∀{as as':List AV} {us:List Value} {c:Nat} {I:Nat->Prop} {m:Mp} {hp hp':Hp},Uj I K m hp w->Ue (Ie (k+1) I m hp w) as us->(xQ f c as).run hp=some (as',hp')->
  ∃I' m',Uj I' K m' hp' w/\aL I K m hp w I' m' hp' w/\Ue (Ie k I' m' hp' w) as' us
 |[],as',us,c,I,m,hp,hp',G,hr,h=>by
  simp only[xQ,Ia.run,Bc,Br] at h;obtain⟨rfl,rfl⟩:=h;have:us=[]:=Kw (by rw[<-hr.1];rfl);subst this;exact⟨I,m,G,.refl _ _ _ _ _,.nil⟩
 |a::as,as',us,c,I,m,hp,hp',G,hr,h=>by
  obtain⟨u,us',rfl,h1,h2⟩:=hr.cons_inv;simp only[xQ] at h;obtain⟨v1,hp1,r1,h3⟩:=Aa h;clear h;obtain⟨vs,If,r2,h4⟩:=Aa h3;clear h3;simp only[Ia.run,Bc,Br] at h4;obtain⟨rfl,rfl⟩:=h4;obtain⟨I1,m1,G1,E1,R1⟩:=hf G h1 r1;obtain⟨I2,m2,G2,E2,R2⟩:=Tz hf G1 (h2.imp fun a u h=>Ie.mono E1 _ a u h) r2;exact⟨I2,m2,G2,E1.trans E2,.cons (Ie.mono E2 _ _ _ R1) R2⟩
theorem MW {K:Nat->Prop}{w:World}{k:Nat}: ∀(n:Nat) {cap:Bool} {I:Nat->Prop} {m:Mp} {hp hp':Hp} {c:Nat} {v v':AV} {u:Value},Uj I K m hp w->Ie (k+1) I m hp w v u->(iS P k d n cap c v).run hp=some (v',hp')->
  ∃I' m',sF I' K m' hp' w v' k I m hp w u:=by
 intro n
 induction n with
 |zero=>
  intro cap I m hp hp' c v v' u G hr h
  cases v with
  |sc x=>
   simp only[iS,Ia.run,Bc,Br] at h;obtain⟨rfl,rfl⟩:=h;exact⟨I,m,G,.refl _ _ _ _ _,by simpa only[Ie] using hr⟩
  |sl f sz rows=>
   simp only[iS,Ia.run,Bc,Br] at h;obtain⟨rfl,rfl⟩:=h;exact⟨I,m,G,.refl _ _ _ _ _,by simpa only[Ie] using hr⟩
  |dp c o=>
   simp only[iS,Ia.run,Bc,Br] at h;obtain⟨rfl,rfl⟩:=h;exact⟨I,m,G,.refl _ _ _ _ _,by simpa only[Ie] using hr⟩
  |own x g n=>
   simp only[iS] at h
   split at h
   ·rename_i hd
    simp only[Ia.run,Bc,Br] at h;obtain⟨rfl,rfl⟩:=h;refine⟨I,m,G,.refl _ _ _ _ _,?_⟩;simp only[Ie] at hr⊢;exact⟨hd,hr.2⟩
   ·obtain⟨I',m',G',E',R',_⟩:=Le G hr h
    exact⟨I',m',G',E',R'⟩
  |ptr x g o=>
   simp only[iS] at h
   split at h
   ·rename_i hd
    simp only[Ia.run,Bc,Br] at h;obtain⟨rfl,rfl⟩:=h;refine⟨I,m,G,.refl _ _ _ _ _,?_⟩;simp only[Ie] at hr⊢;exact⟨hd,hr.2⟩
   ·simp[Ia.run] at h
  |eptr x g i o=>
   simp only[iS] at h
   split at h
   ·rename_i hd
    simp only[Ia.run,Bc,Br] at h;obtain⟨rfl,rfl⟩:=h;refine⟨I,m,G,.refl _ _ _ _ _,?_⟩;simp only[Ie] at hr⊢;exact⟨hd,hr.2⟩
   ·simp[Ia.run] at h
  |dmp ag ks rows=>
   simp only[iS,Ia.run,Bc,Br] at h;obtain⟨rfl,rfl⟩:=h;exact⟨I,m,G,.refl _ _ _ _ _,by simpa only[Ie] using hr⟩
  |mp x g=>
   simp only[iS] at h
   split at h
   ·rename_i hd
    simp only[Ia.run,Bc,Br] at h;obtain⟨rfl,rfl⟩:=h;refine⟨I,m,G,.refl _ _ _ _ _,?_⟩;simp only[Ie] at hr⊢;exact⟨hd,hr.2⟩
   ·simp only[Ia.run] at h
    cases hx:hp x with
    |no g'=>rw[hx] at h;simp[Ia.run] at h
    |box g' cells f=>rw[hx] at h;simp[Ia.run] at h
    |arr g' sz e' rows f=>rw[hx] at h;simp[Ia.run] at h
    |map g' ag ks rows f=>
     rw[hx] at h;simp only at h
     split at h
     case isFalse=>simp[Ia.run] at h
     rename_i hg;subst hg;simp only[Ia.run,Bc,Br] at h;obtain⟨rfl,rfl⟩:=h;obtain⟨I',G',E',hb,_⟩:=G.freezeMap' hx;exact⟨I',m,G',E',(G.mapD hx hr E'.isub hb).rep⟩
  |any|agg|tup|vec|bsl|fn=>simp[iS,Ia.run] at h
 |succ n ih=>
  intro cap I m hp hp' c v v' u G hr h
  cases v with
  |sc x=>
   simp only[iS,Ia.run,Bc,Br] at h;obtain⟨rfl,rfl⟩:=h;exact⟨I,m,G,.refl _ _ _ _ _,by simpa only[Ie] using hr⟩
  |sl f sz rows=>
   simp only[iS,Ia.run,Bc,Br] at h;obtain⟨rfl,rfl⟩:=h;exact⟨I,m,G,.refl _ _ _ _ _,by simpa only[Ie] using hr⟩
  |dp c o=>
   simp only[iS,Ia.run,Bc,Br] at h;obtain⟨rfl,rfl⟩:=h;exact⟨I,m,G,.refl _ _ _ _ _,by simpa only[Ie] using hr⟩
  |own x g n=>
   simp only[iS] at h
   split at h
   ·rename_i hd
    simp only[Ia.run,Bc,Br] at h;obtain⟨rfl,rfl⟩:=h;refine⟨I,m,G,.refl _ _ _ _ _,?_⟩;simp only[Ie] at hr⊢;exact⟨hd,hr.2⟩
   ·obtain⟨I',m',G',E',R',_⟩:=Le G hr h
    exact⟨I',m',G',E',R'⟩
  |eptr x g i o=>
   simp only[iS] at h
   split at h
   ·rename_i hd
    simp only[Ia.run,Bc,Br] at h;obtain⟨rfl,rfl⟩:=h;refine⟨I,m,G,.refl _ _ _ _ _,?_⟩;simp only[Ie] at hr⊢;exact⟨hd,hr.2⟩
   ·simp[Ia.run] at h
  |fn f caps=>
   simp only[iS] at h;simp only[Ie] at hr;obtain⟨us,rfl,hr⟩:=hr;obtain⟨cs,hp1,r1,h2⟩:=Aa h;simp only[Ia.run,Bc,Br] at h2;obtain⟨rfl,rfl⟩:=h2;obtain⟨I',m',G',E',R'⟩:=Tz (fun G hr h=>ih G hr h) G ((Ae _ _).1 hr) r1;refine⟨I',m',G',E',?_⟩;simp only[Ie];exact⟨us,rfl,(Ae _ _).2 R'⟩
  |ptr x g o=>
   simp only[iS] at h
   split at h
   ·rename_i hd
    simp only[Ia.run,Bc,Br] at h;obtain⟨rfl,rfl⟩:=h;refine⟨I,m,G,.refl _ _ _ _ _,?_⟩;simp only[Ie] at hr⊢;exact⟨hd,hr.2⟩
   ·simp only[Ia.run] at h
    cases hx:hp x with
    |no g'=>rw[hx] at h;simp[Ia.run] at h
    |map _ _ _ _ _=>rw[hx] at h;simp[Ia.run] at h
    |arr g' sz e' rows f=>rw[hx] at h;simp[Ia.run] at h
    |box g' cells f=>
     rw[hx] at h;simp only at h
     split at h
     case isFalse=>simp[Ia.run] at h
     rename_i hg;subst hg
     split at h
     ·rename_i hc
      simp only[Ed] at hc;have fN:=hc.2;simp only[Ia.run,Bc,Br] at h;obtain⟨rfl,rfl⟩:=h;obtain⟨I',G',E',zS⟩:=G.freezeBox hx (fun us jS=>Ez fN jS);have ho:=G'.obj x;rw[Ad] at ho;obtain⟨b,c,us,T,mk,o1,o2,o3,o4,o5,o6⟩:=ho;have hda:=(o5 rfl).2;simp only[Ie] at hr;obtain⟨_,_,hr⟩:=hr;obtain⟨b',c',hm,rfl⟩:=hr cells f hx;rw[o1] at hm;cases hm;refine⟨I',m,G',E',?_⟩;simp only[Ie,Iq];refine⟨b,0,us.toList.take cells.length,Zi,(o5 rfl).1,fun j v hv=>?_,hda⟩;rw[AQ w b (0+j) us T mk o2];simpa using At hv
     ·split at h
      case isFalse=>simp[Ia.run] at h
      rename_i hfz;subst hfz;obtain⟨cs,hp1,r1,h2⟩:=Aa h;clear h;have ho:=G.obj x;rw[hx] at ho;obtain⟨b,c0,us,T,mk,o1,o2,o3,o4,o5,o6⟩:=ho;simp only[Ie] at hr;obtain⟨nX,_,hr⟩:=hr;obtain⟨b',c',hm,rfl⟩:=hr cells false hx;rw[o1] at hm;cases hm;obtain⟨I1,m1,G1,E1,R1⟩:=Tz (fun G hr h=>ih G hr h) G (((Ae _ _).1 o4).imp fun a u h=>Ie.depth nX a u h) r1;simp only[BW,Ia.run] at h2
      cases yF:hp1 x with
      |no g1=>rw[yF] at h2;simp[Ia.run] at h2
      |map _ _ _ _ _=>rw[yF] at h2;simp[Ia.run] at h2
      |arr g1 sz e' rows f=>rw[yF] at h2;simp[Ia.run] at h2
      |box g1 cells1 f1=>
       rw[yF] at h2;simp only at h2
       split at h2
       case isFalse=>simp[Ia.run] at h2
       rename_i hc;obtain⟨rfl,rfl,sX⟩:=hc;simp only[Ia.run,Bc,Br,Aj _ _ (Ne.symm sX)] at h2;obtain⟨rfl,rfl⟩:=h2;have dN:=E1.stable x (by rw[yF,hx];rfl);rw[hx] at dN;have qM:m1 x=some (b,c0):=by rw[dN.1,o1]
       have ho1:=G1.obj x;rw[yF] at ho1;obtain⟨b1,c1,us1,T1,mk1,q1,q2,q3,q4,q5,q6⟩:=ho1;rw[qM] at q1;cases q1;rw[o2] at q2;cases q2;obtain⟨G2,E2⟩:=G1.moveBox (cs:=cs) sX yF qM o2 o3 (by rw[show cs.length=cells.length from R1.1.trans ((Ae _ _).1 o4).1.symm];exact(Ae _ _).2 R1) (q6 rfl);refine⟨I1,_,G2,E1.trans E2,?_⟩;simp only[Ie];refine⟨D5 _,by rw[Ad];exact D5 _,fun cells' fz' rO=>⟨b,c0,by rw[Ad];exact qM,rfl⟩⟩
  |dmp ag ks rows=>
   simp only[iS,Ia.run,Bc,Br] at h;obtain⟨rfl,rfl⟩:=h;exact⟨I,m,G,.refl _ _ _ _ _,by simpa only[Ie] using hr⟩
  |mp x g=>
   simp only[iS] at h
   split at h
   ·rename_i hd
    simp only[Ia.run,Bc,Br] at h;obtain⟨rfl,rfl⟩:=h;refine⟨I,m,G,.refl _ _ _ _ _,?_⟩;simp only[Ie] at hr⊢;exact⟨hd,hr.2⟩
   ·simp only[Ia.run] at h
    cases hx:hp x with
    |no g'=>rw[hx] at h;simp[Ia.run] at h
    |box g' cells f=>rw[hx] at h;simp[Ia.run] at h
    |arr g' sz e' rows f=>rw[hx] at h;simp[Ia.run] at h
    |map g' ag ks rows f=>
     rw[hx] at h;simp only at h
     split at h
     case isFalse=>simp[Ia.run] at h
     rename_i hg;subst hg;simp only[Ia.run,Bc,Br] at h;obtain⟨rfl,rfl⟩:=h;obtain⟨I',G',E',hb,_⟩:=G.freezeMap' hx;exact⟨I',m,G',E',(G.mapD hx hr E'.isub hb).rep⟩
  |any|agg|tup|vec|bsl=>simp[iS,Ia.run] at h
theorem Rb {I K:Nat->Prop}{m:Mp}{hp hp':Hp}{w:World}{k:Nat}(G:Uj I K m hp w){y:Nm}(hy:y.d=k)(hr:Ie (k+1) I m hp w v u)(h:(uE P k y v).run hp=some (v',hp')):
  ∃I' m',sF I' K m' hp' w v' k I m hp w u:=MW 6 G hr h
theorem Ra {K:Nat->Prop}{w:World}{k d:Nat}: ∀{c:Nat} {as as':List AV} {us:List Value} {I:Nat->Prop} {m:Mp} {hp hp':Hp},Uj I K m hp w->Ue (Ie (k+1) I m hp w) as us->(rM P k d c as).run hp=some (as',hp')->
  ∃I' m',Uj I' K m' hp' w/\aL I K m hp w I' m' hp' w/\Ue (Ie k I' m' hp' w) as' us
 |c,[],as',us,I,m,hp,hp',G,hr,h=>by
  simp only[rM,Ia.run,Bc,Br] at h;obtain⟨rfl,rfl⟩:=h;have:us=[]:=Kw (by rw[<-hr.1];rfl);subst this;exact⟨I,m,G,.refl _ _ _ _ _,.nil⟩
 |c,a::as,as',us,I,m,hp,hp',G,hr,h=>by
  obtain⟨u,us',rfl,h1,h2⟩:=hr.cons_inv;simp only[rM] at h;obtain⟨v1,hp1,r1,h3⟩:=Aa h;clear h;obtain⟨vs,If,r2,h4⟩:=Aa h3;clear h3;simp only[Ia.run,Bc,Br] at h4;obtain⟨rfl,rfl⟩:=h4;obtain⟨I1,m1,G1,E1,R1⟩:=Rb G (y:=⟨k,d,c⟩) rfl h1 r1;obtain⟨I2,m2,G2,E2,R2⟩:=Ra G1 (h2.imp fun a u h=>Ie.mono E1 _ a u h) r2;exact⟨I2,m2,G2,E1.trans E2,.cons (Ie.mono E2 _ _ _ R1) R2⟩
theorem Q9 {I K:Nat->Prop}{m:Mp}{hp hp':Hp}{w:World}{k c:Nat}(G:Uj I K m hp w)(hr:Ie (k+1) I m hp w v u)(h:(rK P k d c v).run hp=some (v',hp')):
  ∃I' m',sF I' K m' hp' w v' k I m hp w u:=by
 unfold rK at h
 split at h
 ·rename_i cs
  simp only[Ie] at hr;obtain⟨us,rfl,hr⟩:=hr;obtain⟨vs,hp1,r1,h2⟩:=Aa h;simp only[Ia.run,Bc,Br] at h2;obtain⟨rfl,rfl⟩:=h2;obtain⟨I',m',G',E',R'⟩:=Ra G ((Ae _ _).1 hr) r1;refine⟨I',m',G',E',?_⟩;simp only[Ie];exact⟨us,rfl,(Ae _ _).2 R'⟩
 ·exact Rb G (y:=⟨k,d,c⟩) rfl hr h
theorem Gd {I K:Nat->Prop}{m:Mp}{hp hp':Hp}{w:World}{k:Nat}(G:Uj I K m hp w){a:Act}(hf: ∀t,Ie k I m hp w (fr t) (a.eval (.tmp t))){r:ResultVar}(h:(jO P fr r).run hp=some (v,hp')):
  hp'=hp/\ ∃u,(fD a.tmps r).run P w= .ok u w/\Ie k I m hp w v u:=by
 cases r with
 |tmp s=>
  simp only[jO,Ia.run,Bc,Br] at h;obtain⟨rfl,rfl⟩:=h;exact⟨rfl,_,rfl,hf s⟩
 |cell c t=>
  simp only[jO] at h;obtain⟨e0,u',Uk,cJ⟩:=To P G (hf c) h;obtain⟨ad,had⟩:=Ww P G (hf c) h;refine⟨e0,u',?_,cJ⟩;have gE:a.tmps.getD c undef= .pointer (some ad):=had;rw[had] at Uk;simp only[fD,gE,asAddr];simpa[Instr.loadAt,Instr.sureAddr] using Uk
theorem Mk {K:Nat->Prop}{w:World}{k d:Nat}{fr:Nat->AV}{a:Act}: ∀{c:Nat} {rvs:List ResultVar} {as':List AV} {I:Nat->Prop} {m:Mp} {hp hp':Hp},Uj I K m hp w->(∀t,Ie (k+1) I m hp w (fr t) (a.eval (.tmp t)))->(kG P fr k d c rvs).run hp=some (as',hp')->
  ∃I' m' us,(rvs.mapM (fD a.tmps)).run P w= .ok us w/\Uj I' K m' hp' w/\aL I K m hp w I' m' hp' w/\Ue (Ie k I' m' hp' w) as' us/\us.length=rvs.length
 |c,[],as',I,m,hp,hp',G,hf,h=>by
  simp only[kG,Ia.run,Bc,Br] at h;obtain⟨rfl,rfl⟩:=h;exact⟨I,m,[],rfl,G,.refl _ _ _ _ _,.nil,rfl⟩
 |c,r::rvs,as',I,m,hp,hp',G,hf,h=>by
  simp only[kG] at h;obtain⟨v0,U9,r0,h1⟩:=Aa h;clear h;obtain⟨v1,hp1,r1,h2⟩:=Aa h1;clear h1;obtain⟨vs,If,r2,h3⟩:=Aa h2;clear h2;simp only[Ia.run,Bc,Br] at h3;obtain⟨rfl,rfl⟩:=h3;obtain⟨e0,u,hu,hru⟩:=Gd G hf r0;rw[e0] at r1;obtain⟨I1,m1,G1,E1,R1⟩:=Q9 G hru r1;obtain⟨I2,m2,us,jS,G2,E2,R2,hl⟩:=Mk G1 (fun s=>Ie.mono E1 _ _ _ (hf s)) r2;refine⟨I2,m2,u::us,?_,G2,E1.trans E2,.cons (Ie.mono E2 _ _ _ R1) R2,by simp[hl]⟩;rw[Adg,mG,hu,tH,mG,jS];rfl
theorem Fa {I K:Nat->Prop}{m:Mp}{hp hp':Hp}{w:World}{k:Nat}(G:Uj I K m hp w){a:Act}(hf: ∀t,Ie (k+1) I m hp w (fr t) (a.eval (.tmp t)))(h:(dU P fr k d rvs).run hp=some (v,hp')):
  ∃us,(rvs.mapM (fD a.tmps)).run P w= .ok us w/\ ∃I' m',sF I' K m' hp' w v k I m hp w (gF us):=by
 unfold dU at h
 split at h
 ·rename_i r
  obtain⟨v0,U9,r0,h1⟩:=Aa h;obtain⟨e0,u,hu,hru⟩:=Gd G hf r0;rw[e0] at h1;obtain⟨I1,m1,S⟩:=Q9 G hru h1;refine⟨[u],?_,I1,m1,S⟩;rw[Adg,mG,hu];rfl
 ·rename_i Ir
  obtain⟨vs,hp1,r1,h2⟩:=Aa h;simp only[Ia.run,Bc,Br] at h2;obtain⟨rfl,rfl⟩:=h2;obtain⟨I1,m1,us,jS,G1,E1,R1,hl⟩:=Mk G hf r1;refine⟨us,jS,I1,m1,G1,E1,?_⟩;have hret:gF us= .tuple ⟨us⟩:=by
   match us,hl with
   |[],_=>rfl
   |[x],hl=>
    exfalso
    match rvs,hl with
    |[r],_=>exact Ir r rfl
   |_::_::_,_=>rfl
  rw[hret];simp only[Ie];exact⟨us,rfl,(Ae _ _).2 R1⟩
theorem Cl {I:Nat->Prop}{m:Mp}{hp:Hp}{w:World}{k:Nat}(ha:Ue (Ie k I m hp w) args us)(t:Nat):
  Ie k I m hp w (Uh args t) (Act.eval {tmps:=(⟨us⟩:Array Value)++Array.replicate n undef,defers:=[]} (.tmp t)):=by
 by_cases ht:t<us.length
 ·have CK:t<args.length:=by rw[ha.1];exact ht
  have e1:Uh args t=args[t]:=by simp[Uh,CK]
  have e2:Act.eval {tmps:=(⟨us⟩:Array Value)++Array.replicate n undef,defers:=[]} (.tmp t)=us[t]:=by
   simp[Act.eval,Adf,ht]
  rw[e1,e2];exact ha.2 t _ _ (Bs CK) (Bs ht)
 ·have CK: ¬t<args.length:=by rw[ha.1];exact ht
  have e1:Uh args t= .sc undef:=by simp only[Uh,FL];rw[Ace Zo];rfl
  have e2:Act.eval {tmps:=(⟨us⟩:Array Value)++Array.replicate n undef,defers:=[]} (.tmp t)=undef:=by
   simp only[Act.eval,Nh,Adf];rw[Jx (by simpa using ht),Array.getElem?_replicate]
   split<;>rfl
  rw[e1,e2];simp only[Ie]
theorem Kba (hm:P.follows .mixedOrders=true)(hE:dS P E)(hC:Av P call){k:Nat}(kI:P.funcs[f]?=some fn){hp hp':Hp}(h:nJ P E call n fn k d args hp=some (v,hp'))
  {I K:Nat->Prop} {m:Mp} {w:World} (G:Uj I K m hp w) (ha:Ue (Ie k I m hp w) args us):Calls P f ⟨us⟩ w (fun e w'=> ∃u,e= .returned u/\ ∃I' m',sF I' K m' hp' w' v k I m hp w u):=by
 unfold nJ at h
 split at h
 case h_2=>cases h
 rename_i c hb
 split at h
 case isFalse=>cases h
 rename_i hc;simp only[Ed,beq_iff_eq] at hc;obtain⟨lI,Ij⟩:=hc;unfold Bb at lI;rw[hb] at lI;simp only[Ed,oW] at lI;obtain⟨⟨pN,kM⟩,hs3⟩:=lI;have jS:us.length=fn.params.size+fn.nfree:=by rw[<-ha.1];exact Ij
 refine Ad1 kI hb ?_;have S0:aX (k+1) fn.ntmps K ⟨I,m,hp,w,[]⟩ ⟨Uh args,hp⟩ {tmps:=(⟨us⟩:Array Value)++Array.replicate (fn.ntmps - (⟨us⟩:Array Value).size) undef,defers:=[]} w:=by
  refine⟨I,m,G,.refl _ _ _ _ _,fun t=>Cl (ha.imp fun a u h=>Ie.depth (uY k) a u h) t,?_,rfl⟩;simp only[AX,AW,BA];omega
 split at h
 ·cases h
 ·rename_i e st Ir gE
  refine Cn hm hE hC n c pN S0 gE fun a' w' S=>?_
  obtain⟨I1,m1,G1,E1,mY,_,nX⟩:=S;obtain⟨us',Uk,I2,m2,G2,E2,R2⟩:=Fa G1 mY h;have lH:a'.defers=[]/\ ∃v',(results fn a'.tmps).run P w'= .ok v' w'/\ ∃u,Ending.returned v'= .returned u/\ ∃I' m',sF I' K m' hp' w' v k I m hp w u:=
   ⟨nX,gF us',Bl fn _ us' Uk,gF us',rfl,I2,m2,G2,E1.trans E2,R2⟩
  cases e with
  |normal=>exact lH
  |exit i=>exact(Ir i rfl).elim
  |ret=>exact lH
  |panic v=>exact(C2 n _ _ gE v rfl).elim
 ·cases h
theorem Ls {I K:Nat->Prop}{m:Mp}{hp:Hp}{w:World}{k:Nat}(G:Uj I K m hp w){fr:Nat->AV}{a:Act}(hf: ∀t,Ie k I m hp w (fr t) (a.eval (.tmp t))): ∀{rvs:List ResultVar} {vs:List AV} {hp':Hp},(lU P fr rvs).run hp=some (vs,hp')->
  hp'=hp/\ ∃us,(rvs.mapM (fD a.tmps)).run P w= .ok us w/\Ue (Ie k I m hp w) vs us/\us.length=rvs.length
 |[],vs,hp',h=>by
  simp only[lU,Ia.run,Bc,Br] at h;obtain⟨rfl,rfl⟩:=h;exact⟨rfl,[],rfl,.nil,rfl⟩
 |r::rvs,vs,hp',h=>by
  simp only[lU] at h;obtain⟨v0,U9,r0,h1⟩:=Aa h;obtain⟨vs',hp1,r1,h2⟩:=Aa h1;simp only[Ia.run,Bc,Br] at h2;obtain⟨rfl,rfl⟩:=h2;obtain⟨e0,u,hu,hru⟩:=Gd G hf r0;rw[e0] at r1;obtain⟨e1,us,jS,R,hl⟩:=Ls G hf r1;refine⟨e1,u::us,?_,.cons hru R,by simp[hl]⟩;rw[Adg,mG,hu,tH,mG,jS];rfl
theorem Eha {I K:Nat->Prop}{m:Mp}{hp hp':Hp}{w:World}{k:Nat}(G:Uj I K m hp w){a:Act}(hf: ∀t,Ie k I m hp w (fr t) (a.eval (.tmp t)))(h:(lT P fr rvs).run hp=some (v,hp')):
  hp'=hp/\ ∃us,(rvs.mapM (fD a.tmps)).run P w= .ok us w/\Ie k I m hp w v (gF us):=by
 unfold lT at h
 split at h
 ·rename_i r
  obtain⟨e0,u,hu,hru⟩:=Gd G hf h;refine⟨e0,[u],?_,hru⟩;rw[Adg,mG,hu];rfl
 ·rename_i Ir
  obtain⟨vs,hp1,r1,h2⟩:=Aa h;simp only[Ia.run,Bc,Br] at h2;obtain⟨rfl,rfl⟩:=h2;obtain⟨e1,us,jS,R,hl⟩:=Ls G hf r1;refine⟨e1,us,jS,?_⟩;have hret:gF us= .tuple ⟨us⟩:=by
   match us,hl with
   |[],_=>rfl
   |[x],hl=>
    exfalso
    match rvs,hl with
    |[r],_=>exact Ir r rfl
   |_::_::_,_=>rfl
  rw[hret];simp only[Ie];exact⟨us,rfl,(Ae _ _).2 R⟩
theorem Kaa (hm:P.follows .mixedOrders=true)(hE:dS P E)(hC:Av P call){k:Nat}(kI:P.funcs[f]?=some fn){hp hp':Hp}(h:nI P E call n fn k d args hp=some (v,hp'))
  {I K:Nat->Prop} {m:Mp} {w:World} (G:Uj I K m hp w) (ha:Ue (Ie k I m hp w) args us):Calls P f ⟨us⟩ w (fun e w'=> ∃u,e= .returned u/\ ∃I' m',sF I' K m' hp' w' v k I m hp w u):=by
 unfold nI at h
 split at h
 case h_2=>cases h
 rename_i c hb
 split at h
 case isFalse=>cases h
 rename_i hc;simp only[Ed,beq_iff_eq] at hc;obtain⟨lI,Ij⟩:=hc;unfold Bb at lI;rw[hb] at lI;simp only[Ed,oW] at lI;obtain⟨⟨pN,kM⟩,hs3⟩:=lI;have jS:us.length=fn.params.size+fn.nfree:=by rw[<-ha.1];exact Ij
 refine Ad1 kI hb ?_;have S0:aX k fn.ntmps K ⟨I,m,hp,w,[]⟩ ⟨Uh args,hp⟩ {tmps:=(⟨us⟩:Array Value)++Array.replicate (fn.ntmps - (⟨us⟩:Array Value).size) undef,defers:=[]} w:=by
  refine⟨I,m,G,.refl _ _ _ _ _,fun t=>Cl ha t,?_,rfl⟩;simp only[AX,AW,BA];omega
 have hE':dS P (E.at ((d+1)*1000)):=hE
 split at h
 ·cases h
 ·rename_i e st Ir gE
  refine Cn hm hE' hC n c pN S0 gE fun a' w' S=>?_
  obtain⟨I1,m1,G1,E1,mY,_,nX⟩:=S;obtain⟨e1,us',Uk,R2⟩:=Eha G1 mY h;subst e1;have lH:a'.defers=[]/\ ∃v',(results fn a'.tmps).run P w'= .ok v' w'/\ ∃u,Ending.returned v'= .returned u/\ ∃I' m',sF I' K m' st.hp w' v k I m hp w u:=
   ⟨nX,gF us',Bl fn _ us' Uk,gF us',rfl,I1,m1,G1,E1,R2⟩
  cases e with
  |normal=>exact lH
  |exit i=>exact(Ir i rfl).elim
  |ret=>exact lH
  |panic v=>exact(C2 n _ _ gE v rfl).elim
 ·cases h
theorem mE.rep {I:Nat->Prop}{m:Mp}{hp:Hp}{w:World}{k:Nat}(h:mE I w a u):Ie k I m hp w a u:=by
 cases a with
 |agg cs=>
  obtain⟨us,rfl,h⟩:=h;simp only[Ie];exact⟨us,rfl,(Ae _ _).2 (((Ax _ _).1 h).imp fun a u h=>Iq.rep h)⟩
 |_=>exact Iq.rep h
theorem Epa {I K:Nat->Prop}{m:Mp}{hp hp':Hp}{w:World}{k k':Nat}(G:Uj I K m hp w){a:Act}(hf: ∀t,Ie k' I m hp w (fr t) (a.eval (.tmp t))){ts:List TypeId}(h:(mB P fr ts rvs).run hp=some (v,hp')):
  ∃us,(rvs.mapM (fD a.tmps)).run P w= .ok us w/\ ∃I' m',sF I' K m' hp' w v k I m hp w (gF us):=by
 unfold mB at h;obtain⟨vs,hp1,r1,h1⟩:=Aa h;obtain⟨as,If,r2,h2⟩:=Aa h1;simp only[Ia.run,Bc,Br] at h2;obtain⟨rfl,rfl⟩:=h2;obtain⟨e1,us,jS,R,hl⟩:=Ls G hf r1;subst e1;obtain⟨I1,G1,E1,d1⟩:=K6 G R r2;refine⟨us,jS,I1,m,G1,E1,?_⟩;have zN:=d1.1
 match as,us,zN with
 |[],[],_=>simp only[BO,gF,Ie];exact⟨[],rfl,by simp only[bM]⟩
 |[v],[u],_=>exact mE.rep (d1.2 0 _ _ rfl rfl)
 |v1::v2::vs,u1::u2::us,_=>
  have:Ie k I1 m If w (.tup (v1::v2::vs)) (.tuple ⟨u1::u2::us⟩):=by
   simp only[Ie];exact⟨_,rfl,(Ae _ _).2 (d1.imp fun a u h=>mE.rep h)⟩
  exact this
theorem J9a (hm:P.follows .mixedOrders=true)(hE:dS P E)(hC:Av P call){k:Nat}(kI:P.funcs[f]?=some fn){hp hp':Hp}(h:nH P E call n fn k args hp=some (v,hp'))
  {I K:Nat->Prop} {m:Mp} {w:World} (G:Uj I K m hp w) (ha:Ue (Ie k I m hp w) args us):Calls P f ⟨us⟩ w (fun e w'=> ∃u,e= .returned u/\ ∃I' m',sF I' K m' hp' w' v k I m hp w u):=by
 unfold nH at h
 split at h
 case h_2=>cases h
 rename_i c hb
 split at h
 case isFalse=>cases h
 rename_i hc;simp only[Ed,beq_iff_eq] at hc;obtain⟨lI,Ij⟩:=hc;unfold Bb at lI;rw[hb] at lI;simp only[Ed,oW] at lI;obtain⟨⟨pN,kM⟩,hs3⟩:=lI;have jS:us.length=fn.params.size+fn.nfree:=by rw[<-ha.1];exact Ij
 refine Ad1 kI hb ?_;have S0:aX (k+1) fn.ntmps K ⟨I,m,hp,w,[]⟩ ⟨Uh args,hp⟩ {tmps:=(⟨us⟩:Array Value)++Array.replicate (fn.ntmps - (⟨us⟩:Array Value).size) undef,defers:=[]} w:=by
  refine⟨I,m,G,.refl _ _ _ _ _,fun t=>Cl (ha.imp fun a u h=>Ie.depth (uY k) a u h) t,?_,rfl⟩;simp only[AX,AW,BA];omega
 split at h
 ·cases h
 ·rename_i e st Ir gE
  refine Cn hm hE hC n c pN S0 gE fun a' w' S=>?_
  obtain⟨I1,m1,G1,E1,mY,_,nX⟩:=S;obtain⟨us',Uk,I2,m2,G2,E2,R2⟩:=Epa (k:=k) G1 mY h;have lH:a'.defers=[]/\ ∃v',(results fn a'.tmps).run P w'= .ok v' w'/\ ∃u,Ending.returned v'= .returned u/\ ∃I' m',sF I' K m' hp' w' v k I m hp w u:=
   ⟨nX,gF us',Bl fn _ us' Uk,gF us',rfl,I2,m2,G2,E1.trans E2,R2⟩
  cases e with
  |normal=>exact lH
  |exit i=>exact(Ir i rfl).elim
  |ret=>exact lH
  |panic v=>exact(C2 n _ _ gE v rfl).elim
 ·cases h
theorem Dp (hm:P.follows .mixedOrders=true)(hE:dS P E){X:aS}(hX:Av P X): ∀n,Av P (U4 P E X n)
 |0=>hX
 |n+1=>by
  refine⟨fun f args rs h Uz I w us hI oJ ha=>?_,fun k d f args hp v hp' h Uz I K m w us G ha=>?_⟩
  ·simp only[U4] at h
   split at h
   ·rename_i rs' hx
    cases h
    exact hX.1 f args rs hx Uz I w us hI oJ ha
   ·split at h
    ·rename_i fn kI
     exact MV hm hE (Dp hm hE hX n) kI h hI oJ ha
    ·cases h
  ·simp only[U4] at h
   split at h
   ·rename_i r hx
    cases h
    exact hX.2 k d f args hp v hp' hx Uz I K m w us G ha
   ·split at h
    ·rename_i fn kI
     split at h
     ·exact Kaa hm hE (Dp hm hE hX n) kI h G ha
     ·split at h
      ·exact J9a hm hE (Dp hm hE hX n) kI h G ha
      ·exact Kba hm hE (Dp hm hE hX n) kI h G ha
    ·cases h
end
end
section
open Go
variable {st:AS}{r:AV×Hp}{fn:Func}{hp:Hp}{args:List AV}{d n m:Nat}{o:Oper}
structure aS.le (c c':aS):Prop where
 dat: ∀f a r,c.dat f a=some r->c'.dat f a=some r
 hpc: ∀k d f a hp r,c.hpc k d f a hp=some r->c'.hpc k d f a hp=some r
theorem aS.le.refl (c:aS):c.le c:=⟨fun _ _ _ h=>h,fun _ _ _ _ _ _ h=>h⟩
theorem aS.le.trans {a b c:aS}(h:a.le b)(h':b.le c):a.le c:=⟨fun _ _ _ x=>h'.dat _ _ _ (h.dat _ _ _ x),fun _ _ _ _ _ _ x=>h'.hpc _ _ _ _ _ _ (h.hpc _ _ _ _ _ _ x)⟩
theorem Qq {α β:Type}(p:Ia α)(f:α->Ia β): ∀(hp:Hp) (R W:List I8),(p.bind f).runF hp R W=match p.runF hp R W with|some (a,hp',R',W')=>(f a).runF hp' R' W'|none=>none:=by
 induction p with
 |ret a=>intro hp R W;rfl
 |get x k ih=>intro hp R W;exact ih _ hp _ _
 |put x o k ih=>intro hp R W;exact ih _ _ _
 |hdr x k ih=>intro hp R W;exact ih _ hp _ _
 |getC x off k ih=>
  intro hp R W;simp only[Ia.bind,Ia.runF]
  cases eV (hp x) off with
  |none=>rfl
  |some v=>exact ih v hp _ _
 |putC x off v k ih=>
  intro hp R W;simp only[Ia.bind,Ia.runF]
  cases Uq (hp x) off v with
  |none=>rfl
  |some o=>exact ih _ _ _
 |ext g k ih=>
  intro hp R W;simp only[Ia.bind,Ia.runF]
  cases g hp with
  |none=>rfl
  |some q=>exact ih _ _ _ _
 |fail=>intro hp R W;rfl
section
variable {P:Program}{E:cD}{k:Nat}{call call':aS}{all:Array Oper}
theorem Axa (aI:call.le call'){f:Nat}:(∀r,(jF P E k d call f args).run hp=some r->(jF P E k d call' f args).run hp=some r)/\
  (∀R W r,(jF P E k d call f args).runF hp R W=some r->(jF P E k d call' f args).runF hp R W=some r):=by
 unfold jF;by_cases h1:Il P f=true
 ·rw[Ka h1,Ka h1]
  by_cases h2:E.hp f=true
  ·rw[Ka h2,Ka h2]
   constructor
   ·intro r h
    simp only[Ia.run] at h⊢
    cases hg:call.hpc k d f args hp with
    |none=>rw[hg] at h;cases h
    |some q=>rw[hg] at h;rw[aI.hpc _ _ _ _ _ _ hg];exact h
   ·intro R W r h
    simp only[Ia.runF] at h⊢
    cases hg:call.hpc k d f args hp with
    |none=>rw[hg] at h;cases h
    |some q=>rw[hg] at h;rw[aI.hpc _ _ _ _ _ _ hg];exact h
  ·rw[Jx h2,Jx h2]
   constructor
   ·intro r h
    rw[run_bind] at h⊢
    cases ha:(fX P (!Af P f) (Um P f) args).run hp with
    |none=>rw[ha] at h;cases h
    |some q=>
     rw[ha] at h;simp only at h⊢
     cases hd:call.dat f q.1 with
     |none=>rw[hd] at h;simp[Ia.run] at h
     |some rs=>rw[hd] at h;rw[aI.dat _ _ _ hd];exact h
   ·intro R W r h
    rw[Qq] at h⊢
    cases ha:(fX P (!Af P f) (Um P f) args).runF hp R W with
    |none=>rw[ha] at h;cases h
    |some q=>
     rw[ha] at h;simp only at h⊢
     cases hd:call.dat f q.1 with
     |none=>rw[hd] at h;simp[Ia.runF] at h
     |some rs=>rw[hd] at h;rw[aI.dat _ _ _ hd];exact h
 ·rw[Jx h1,Jx h1]
  exact⟨fun _ h=>h,fun _ _ _ h=>h⟩
theorem Ly (aI:call.le call'){fr:Nat->AV}:(∀r,(bL P E k call fr o).run hp=some r->(bL P E k call' fr o).run hp=some r)/\
  (∀R W r,(bL P E k call fr o).runF hp R W=some r->(bL P E k call' fr o).runF hp R W=some r):=by
 obtain⟨dst,op,type,pos,after,guard⟩:=o
 cases op
 case call c=>
  obtain⟨callee,args,argTypes⟩:=c;simp only[bL]
  split
  ·exact⟨fun _ h=>h,fun _ _ _ h=>h⟩
  ·exact⟨fun _ h=>h,fun _ _ _ h=>h⟩
  ·exact⟨fun _ h=>h,fun _ _ _ h=>h⟩
  ·exact⟨fun _ h=>h,fun _ _ _ h=>h⟩
  ·exact⟨fun _ h=>h,fun _ _ _ h=>h⟩
  ·split
   ·exact Axa aI
   ·exact⟨fun _ h=>h,fun _ _ _ h=>h⟩
   ·exact⟨fun _ h=>h,fun _ _ _ h=>h⟩
  ·exact⟨fun _ h=>h,fun _ _ _ h=>h⟩
 case makeFunc fn first caps=>cases fn<;>exact⟨fun _ h=>h,fun _ _ _ h=>h⟩
 case makeMap t r=>cases r<;>exact⟨fun _ h=>h,fun _ _ _ h=>h⟩
 all_goals exact⟨fun _ h=>h,fun _ _ _ h=>h⟩
theorem Gm (aI:call.le call'): ∀(os:List Oper) (st:AS) (r:AS),cW P E k call all os st=some r->cW P E k call' all os st=some r
 |[],_,_,h=>h
 |o::os,st,r,h=>by
  simp only[cW] at h⊢
  split at h
  ·split at h
   ·rename_i v hp hr
    rw[(Ly aI).1 _ hr];exact Gm aI os _ r h
   ·cases h
  ·exact Gm aI os _ r h
  ·cases h
theorem Nw (aI:call.le call'){r:AS×gZ}(h:eK P E k call all o st=some r):eK P E k call' all o st=some r:=by
 unfold eK at h⊢
 split at h
 ·split at h
  ·rename_i v hp R W hr
   rw[(Ly aI).2 _ _ _ hr];exact h
  ·cases h
 ·exact h
 ·cases h
theorem Ct (aI:call.le call'): ∀(os:List Oper) (st:AS) (acc:List gZ) (r:AS×List gZ),aG P E k call all os st acc=some r->aG P E k call' all os st acc=some r
 |[],_,_,_,h=>h
 |o::os,st,acc,r,h=>by
  simp only[aG] at h⊢
  split at h
  ·rename_i st' f hs
   rw[Nw aI hs];exact Ct aI os _ _ r h
  ·cases h
theorem Qa (aI:call.le call'){draw:Bool}{r:AS}(h:bR P E k call all draw st=some r):bR P E k call' all draw st=some r:=by
 unfold bR at h⊢
 cases draw with
 |true=>
  simp only[iW] at h⊢
  split at h
  ·rename_i st' fs hr
   rw[Ct aI _ _ _ _ hr];simp only
   split at h
   ·rename_i hc;rw[Ka hc];exact h
   ·rename_i hc
    rw[Jx hc]
    split at h
    ·rename_i st2 fs2 tP
     rw[Ct aI _ _ _ _ tP];exact h
    ·cases h
  ·cases h
 |false=>
  simp only[pW,lJ] at h⊢;exact Gm aI _ _ _ h
theorem Cz (aI:call.le call'): ∀(n m:Nat),n<=m-> ∀(c:Code) (st:AS) (r:Ex×AS),bP P E k call n c st=some r->bP P E k call' m c st=some r
 |0,_,_,c,st,r,h=>by simp[bP] at h
 |n+1,0,uG,_,_,_,_=>Zo
 |n+1,m+1,uG,c,st,r,h=>by
  have ih:=Cz aI n m Zo
  cases c with
  |skip=>exact h
  |label l=>exact h
  |region id ops d=>
   simp only[bP] at h⊢
   cases hr:bR P E k call ops d st with
   |none=>rw[hr] at h;cases h
   |some s=>rw[hr] at h;rw[Qa aI hr];exact h
  |seq x y=>
   simp only[bP] at h⊢
   split at h
   ·rename_i s h1
    rw[ih x st _ h1];exact ih y s r h
   ·rename_i Ir
    rw[ih x st _ h]
    split
    ·rename_i s hs
     simp only[Bc] at hs;subst hs;exact(Ir s h).elim
    ·rfl
  |cond c x y=>
   simp only[bP] at h⊢
   split at h
   ·split at h
    ·rename_i ht;rw[Ka ht];exact ih x st r h
    ·rename_i ht;rw[Jx ht];exact ih y st r h
   ·cases h
  |block id x=>
   simp only[bP] at h⊢
   split at h
   ·rename_i i s h1
    rw[ih x st _ h1];exact h
   ·rename_i Ir
    rw[ih x st _ h]
    split
    ·rename_i i s hs
     simp only[Bc] at hs;subst hs;exact(Ir i s h).elim
    ·rfl
  |scope x=>
   simp only[bP] at h⊢;exact ih x st _ h
  |loop x=>
   simp only[bP] at h⊢
   split at h
   ·rename_i s h1
    rw[ih x st _ h1];exact ih (.loop x) s r h
   ·rename_i Ir
    rw[ih x st _ h]
    split
    ·rename_i s hs
     simp only[Bc] at hs;subst hs;exact(Ir s h).elim
    ·rfl
  |exit id=>exact h
  |ret=>exact h
  |_=>simp[bP] at h
theorem R9 (aI:call.le call')(uG:n<=m){rs:List AV}(h:tF P E call n fn args=some rs):tF P E call' m fn args=some rs:=by
 unfold tF at h⊢
 split at h
 ·split at h
  ·rename_i hc
   rw[Ka hc]
   split at h
   ·cases h
   ·rename_i e st Ir gE
    rw[Cz aI n m uG _ _ _ gE]
    cases e with
    |exit i=>exact(Ir i rfl).elim
    |normal=>exact h
    |ret=>exact h
    |panic v=>exact h
   ·cases h
  ·cases h
 ·cases h
theorem Ph (aI:call.le call')(uG:n<=m)(h:nJ P E call n fn k d args hp=some r):nJ P E call' m fn k d args hp=some r:=by
 unfold nJ at h⊢
 split at h
 ·split at h
  ·rename_i hc
   rw[Ka hc]
   split at h
   ·cases h
   ·rename_i e st Ir gE
    rw[Cz aI n m uG _ _ _ gE]
    cases e with
    |exit i=>exact(Ir i rfl).elim
    |normal=>exact h
    |ret=>exact h
    |panic v=>exact h
   ·cases h
  ·cases h
 ·cases h
theorem Pf (aI:call.le call')(uG:n<=m)(h:nH P E call n fn k args hp=some r):nH P E call' m fn k args hp=some r:=by
 unfold nH at h⊢
 split at h
 ·split at h
  ·rename_i hc
   rw[Ka hc]
   split at h
   ·cases h
   ·rename_i e st Ir gE
    rw[Cz aI n m uG _ _ _ gE]
    cases e with
    |exit i=>exact(Ir i rfl).elim
    |normal=>exact h
    |ret=>exact h
    |panic v=>exact h
   ·cases h
  ·cases h
 ·cases h
theorem Pg (aI:call.le call')(uG:n<=m)(h:nI P E call n fn k d args hp=some r):nI P E call' m fn k d args hp=some r:=by
 unfold nI at h⊢
 split at h
 ·split at h
  ·rename_i hc
   rw[Ka hc]
   split at h
   ·cases h
   ·rename_i e st Ir gE
    rw[Cz aI n m uG _ _ _ gE]
    cases e with
    |exit i=>exact(Ir i rfl).elim
    |normal=>exact h
    |ret=>exact h
    |panic v=>exact h
   ·cases h
  ·cases h
 ·cases h
theorem Mq (X:aS): ∀n,(U4 P E X n).le (U4 P E X (n+1))
 |0=>⟨fun f a r h=>by simp only[U4] at h⊢;rw[h],fun k d f a hp r h=>by simp only[U4] at h⊢;rw[h]⟩
 |n+1=>by
  have ih:=Mq X n;constructor
  ·intro f a r h
   rw[U4] at h⊢;simp only at h⊢
   split at h
   ·rename_i rs hx;exact h
   ·rename_i hx
    split at h
    ·exact R9 ih (uY n) h
    ·cases h
  ·intro k d f a hp r h
   rw[U4] at h⊢;simp only at h⊢
   split at h
   ·rename_i rs hx;exact h
   ·rename_i hx
    split at h
    ·split at h
     ·rename_i hi;rw[Ka hi];exact Pg ih (uY n) h
     ·rename_i hi;rw[Jx hi]
      split at h
      ·rename_i hz;rw[Ka hz];exact Pf ih (uY n) h
      ·rename_i hz;rw[Jx hz];exact Ph ih (uY n) h
    ·cases h
theorem Bg (X:aS)(h:n<=m):(U4 P E X n).le (U4 P E X m):=by
 induction m with
 |zero=>
      have:n=0:=Zo;subst this;exact .refl _
 |succ m ih=>
  by_cases e:n=m+1
  ·subst e;exact .refl _
  ·exact(ih Zo).trans (Mq X m)
end
end
section
open Go
variable {st:AS}{r:AV×Hp}{fn:Func}{hp:Hp}{a args:List AV}{f d n:Nat}{o:Oper}
open Classical in
noncomputable def eP (P:Program) (E:cD) (X:aS):aS where
 dat:=fun f a=>if h: ∃r n,(U4 P E X n).dat f a=some r then some (Classical.choose h) else none
 hpc:=fun k d f a hp=>if h: ∃r n,(U4 P E X n).hpc k d f a hp=some r then some (Classical.choose h) else none
section
variable {P:Program}{E:cD}{X:aS}{k:Nat}{all:Array Oper}
theorem jQ{r:List AV}:(eP P E X).dat f a=some r↔ ∃n,(U4 P E X n).dat f a=some r:=by
 simp only[eP];constructor
 ·intro h
  split at h
  ·rename_i pJ
   have:=GL pJ;simp only[Bc] at h;rw[h] at this;exact this
  ·cases h
 ·rintro⟨n,h⟩
  have pJ: ∃r n,(U4 P E X n).dat f a=some r:=⟨r,n,h⟩;rw[dif_pos pJ];obtain⟨m,hm⟩:=GL pJ;have h1:=(Bg X (AB n m)).dat _ _ _ h;have h2:=(Bg X (AE n m)).dat _ _ _ hm;rw[h1] at h2;exact h2.symm
theorem kW :(eP P E X).hpc k d f a hp=some r↔ ∃n,(U4 P E X n).hpc k d f a hp=some r:=by
 simp only[eP];constructor
 ·intro h
  split at h
  ·rename_i pJ
   have:=GL pJ;simp only[Bc] at h;rw[h] at this;exact this
  ·cases h
 ·rintro⟨n,h⟩
  have pJ: ∃r n,(U4 P E X n).hpc k d f a hp=some r:=⟨r,n,h⟩;rw[dif_pos pJ];obtain⟨m,hm⟩:=GL pJ;have h1:=(Bg X (AB n m)).hpc _ _ _ _ _ _ h;have h2:=(Bg X (AE n m)).hpc _ _ _ _ _ _ hm;rw[h1] at h2;exact h2.symm
theorem Fl (hm:P.follows .mixedOrders=true)(hE:dS P E)(hX:Av P X):Av P (eP P E X):=by
 refine⟨fun f args rs h=>?_,fun k d f args hp v hp' h=>?_⟩
 ·obtain⟨n,h⟩:=jQ.1 h
  exact(Dp hm hE hX n).1 f args rs h
 ·obtain⟨n,h⟩:=kW.1 h
  exact(Dp hm hE hX n).2 k d f args hp v hp' h
variable {E':cD}
theorem E5a :(∀r,(jF P E' k d (eP P E X) f args).run hp=some r-> ∃n,(jF P E' k d (U4 P E X n) f args).run hp=some r)/\
  (∀R W r,(jF P E' k d (eP P E X) f args).runF hp R W=some r-> ∃n,(jF P E' k d (U4 P E X n) f args).runF hp R W=some r):=by
 unfold jF;by_cases h1:Il P f=true
 ·simp only[Ka h1]
  by_cases h2:E'.hp f=true
  ·simp only[Ka h2]
   constructor
   ·intro r h
    simp only[Ia.run] at h⊢
    cases hg:(eP P E X).hpc k d f args hp with
    |none=>rw[hg] at h;cases h
    |some q=>
     obtain⟨n,hn⟩:=kW.1 hg;rw[hg] at h;exact⟨n,by rw[hn];exact h⟩
   ·intro R W r h
    simp only[Ia.runF] at h⊢
    cases hg:(eP P E X).hpc k d f args hp with
    |none=>rw[hg] at h;cases h
    |some q=>
     obtain⟨n,hn⟩:=kW.1 hg;rw[hg] at h;exact⟨n,by rw[hn];exact h⟩
  ·simp only[Jx h2]
   constructor
   ·intro r h
    simp only[run_bind] at h⊢
    cases ha:(fX P (!Af P f) (Um P f) args).run hp with
    |none=>rw[ha] at h;cases h
    |some q=>
     rw[ha] at h;simp only at h⊢
     cases hd:(eP P E X).dat f q.1 with
     |none=>rw[hd] at h;simp[Ia.run] at h
     |some rs=>
      obtain⟨n,hn⟩:=jQ.1 hd;rw[hd] at h;exact⟨n,by rw[hn];exact h⟩
   ·intro R W r h
    simp only[Qq] at h⊢
    cases ha:(fX P (!Af P f) (Um P f) args).runF hp R W with
    |none=>rw[ha] at h;cases h
    |some q=>
     rw[ha] at h;simp only at h⊢
     cases hd:(eP P E X).dat f q.1 with
     |none=>rw[hd] at h;simp[Ia.runF] at h
     |some rs=>
      obtain⟨n,hn⟩:=jQ.1 hd;rw[hd] at h;exact⟨n,by rw[hn];exact h⟩
 ·simp only[Jx h1]
  exact⟨fun _ h=>⟨0,h⟩,fun _ _ _ h=>⟨0,h⟩⟩
theorem vV {fr:Nat->AV}:(∀r,(bL P E' k (eP P E X) fr o).run hp=some r-> ∃n,(bL P E' k (U4 P E X n) fr o).run hp=some r)/\
  (∀R W r,(bL P E' k (eP P E X) fr o).runF hp R W=some r-> ∃n,(bL P E' k (U4 P E X n) fr o).runF hp R W=some r):=by
 obtain⟨dst,op,type,pos,after,guard⟩:=o
 cases op
 case call c=>
  obtain⟨callee,args,argTypes⟩:=c;simp only[bL]
  split
  ·exact⟨fun _ h=>⟨0,h⟩,fun _ _ _ h=>⟨0,h⟩⟩
  ·exact⟨fun _ h=>⟨0,h⟩,fun _ _ _ h=>⟨0,h⟩⟩
  ·exact⟨fun _ h=>⟨0,h⟩,fun _ _ _ h=>⟨0,h⟩⟩
  ·exact⟨fun _ h=>⟨0,h⟩,fun _ _ _ h=>⟨0,h⟩⟩
  ·exact⟨fun _ h=>⟨0,h⟩,fun _ _ _ h=>⟨0,h⟩⟩
  ·split
   ·exact E5a
   ·exact⟨fun _ h=>⟨0,h⟩,fun _ _ _ h=>⟨0,h⟩⟩
   ·exact⟨fun _ h=>⟨0,h⟩,fun _ _ _ h=>⟨0,h⟩⟩
  ·exact⟨fun _ h=>⟨0,h⟩,fun _ _ _ h=>⟨0,h⟩⟩
 case makeFunc fn first caps=>cases fn<;>exact⟨fun _ h=>⟨0,h⟩,fun _ _ _ h=>⟨0,h⟩⟩
 case makeMap t r=>cases r<;>exact⟨fun _ h=>⟨0,h⟩,fun _ _ _ h=>⟨0,h⟩⟩
 all_goals exact⟨fun _ h=>⟨0,h⟩,fun _ _ _ h=>⟨0,h⟩⟩
theorem Lx : ∀(os:List Oper) (st:AS) (r:AS),cW P E' k (eP P E X) all os st=some r-> ∃n,cW P E' k (U4 P E X n) all os st=some r
 |[],_,_,h=>⟨0,h⟩
 |o::os,st,r,h=>by
  simp only[cW] at h⊢
  split at h
  ·split at h
   ·rename_i v hp hr
    obtain⟨n,hn⟩:=vV.1 _ hr;obtain⟨m,hm⟩:=Lx os _ r h;refine⟨max n m,?_⟩;rw[(Ly (Bg X (AB n m))).1 _ hn];exact Gm (Bg X (AE n m)) _ _ _ hm
   ·cases h
  ·exact Lx os _ r h
  ·cases h
theorem Dga{r:AS×gZ}(h:eK P E' k (eP P E X) all o st=some r): ∃n,eK P E' k (U4 P E X n) all o st=some r:=by
 unfold eK at h⊢
 split at h
 ·split at h
  ·rename_i v hp R W hr
   obtain⟨n,hn⟩:=vV.2 _ _ _ hr;exact⟨n,by rw[hn];exact h⟩
  ·cases h
 ·exact⟨0,h⟩
 ·cases h
theorem Gx : ∀(os:List Oper) (st:AS) (acc:List gZ) (r:AS×List gZ),aG P E' k (eP P E X) all os st acc=some r-> ∃n,aG P E' k (U4 P E X n) all os st acc=some r
 |[],_,_,_,h=>⟨0,h⟩
 |o::os,st,acc,r,h=>by
  simp only[aG] at h⊢
  split at h
  ·rename_i st' f hs
   obtain⟨n,hn⟩:=Dga hs;obtain⟨m,hm⟩:=Gx os _ _ r h;refine⟨max n m,?_⟩;rw[Nw (Bg X (AB n m)) hn];exact Ct (Bg X (AE n m)) _ _ _ _ hm
  ·cases h
theorem Ty {draw:Bool}{r:AS}(h:bR P E' k (eP P E X) all draw st=some r): ∃n,bR P E' k (U4 P E X n) all draw st=some r:=by
 unfold bR at h⊢
 cases draw with
 |true=>
  simp only[iW] at h⊢
  split at h
  ·rename_i st' fs hr
   obtain⟨n,hn⟩:=Gx _ _ _ _ hr
   split at h
   ·rename_i hc;exact⟨n,by rw[hn];simp only;rw[Ka hc];exact h⟩
   ·rename_i hc
    split at h
    ·rename_i st2 fs2 tP
     obtain⟨n2,aO⟩:=Gx _ _ _ _ tP;refine⟨max n n2,?_⟩;rw[Ct (Bg X (AB n n2)) _ _ _ _ hn];simp only;rw[Jx hc,Ct (Bg X (AE n n2)) _ _ _ _ aO];exact h
    ·cases h
  ·cases h
 |false=>
  simp only[pW,lJ] at h⊢;exact Lx _ _ _ h
theorem K1 : ∀(g:Nat) (c:Code) (st:AS) (r:Ex×AS),bP P E' k (eP P E X) g c st=some r-> ∃n,bP P E' k (U4 P E X n) g c st=some r
 |0,c,st,r,h=>by simp[bP] at h
 |g+1,c,st,r,h=>by
  have ih:=K1 g;have up: ∀{n m:Nat} {c:Code} {st:AS} {r:Ex×AS},n<=m->bP P E' k (U4 P E X n) g c st=some r->bP P E' k (U4 P E X m) g c st=some r:=fun uG h=>Cz (Bg X uG) g g (D5 _) _ _ _ h
  cases c with
  |skip=>exact⟨0,h⟩
  |label l=>exact⟨0,h⟩
  |region id ops d=>
   simp only[bP] at h⊢
   cases hr:bR P E' k (eP P E X) ops d st with
   |none=>rw[hr] at h;cases h
   |some s=>
    obtain⟨n,hn⟩:=Ty hr;rw[hr] at h;exact⟨n,by rw[hn];exact h⟩
  |seq x y=>
   simp only[bP] at h⊢
   split at h
   ·rename_i s h1
    obtain⟨n,hn⟩:=ih x st _ h1;obtain⟨m,hm⟩:=ih y s r h;exact⟨max n m,by rw[up (AB n m) hn];exact up (AE n m) hm⟩
   ·rename_i Ir
    obtain⟨n,hn⟩:=ih x st _ h;refine⟨n,?_⟩;rw[hn]
    split
    ·rename_i s hs
     simp only[Bc] at hs;subst hs;exact(Ir s h).elim
    ·rfl
  |cond c x y=>
   simp only[bP] at h⊢
   split at h
   ·rename_i t hc
    cases t with
    |true=>simp only[iW] at h⊢;exact ih x st r h
    |false=>simp only[pW,lJ] at h⊢;exact ih y st r h
   ·cases h
  |block id x=>
   simp only[bP] at h⊢
   split at h
   ·rename_i i s h1
    obtain⟨n,hn⟩:=ih x st _ h1;exact⟨n,by rw[hn];exact h⟩
   ·rename_i Ir
    obtain⟨n,hn⟩:=ih x st _ h;refine⟨n,?_⟩;rw[hn]
    split
    ·rename_i i s hs
     simp only[Bc] at hs;subst hs;exact(Ir i s h).elim
    ·rfl
  |scope x=>
   simp only[bP] at h⊢;exact ih x st _ h
  |loop x=>
   simp only[bP] at h⊢
   split at h
   ·rename_i s h1
    obtain⟨n,hn⟩:=ih x st _ h1;obtain⟨m,hm⟩:=ih (.loop x) s r h;exact⟨max n m,by rw[up (AB n m) hn];exact up (AE n m) hm⟩
   ·rename_i Ir
    obtain⟨n,hn⟩:=ih x st _ h;refine⟨n,?_⟩;rw[hn]
    split
    ·rename_i s hs
     simp only[Bc] at hs;subst hs;exact(Ir s h).elim
    ·rfl
  |exit id=>exact⟨0,h⟩
  |ret=>exact⟨0,h⟩
  |_=>simp[bP] at h
theorem Al{rs:List AV}(hf:P.funcs[f]?=some fn)(hx:X.dat f args=none)(h:tF P E (eP P E X) n fn args=some rs):(eP P E X).dat f args=some rs:=by
 have h0: ∃m,tF P E (U4 P E X m) n fn args=some rs:=by
  unfold tF at h⊢
  cases hb:fn.body with
  |none=>rw[hb] at h;cases h
  |some c=>
   rw[hb] at h;simp only at h⊢
   split at h
   ·rename_i hc
    simp only[hc,iW]
    split at h
    ·cases h
    ·rename_i e st Ir gE
     obtain⟨m,hm⟩:=K1 _ _ _ _ gE;refine⟨m,?_⟩;rw[hm]
     cases e with
     |exit i=>exact(Ir i rfl).elim
     |normal=>exact h
     |ret=>exact h
     |panic v=>exact h
    ·cases h
   ·cases h
 obtain⟨m,hm⟩:=h0;refine jQ.2 ⟨max n m+1,?_⟩;rw[U4];simp only;rw[hx,hf];exact R9 (Bg X (AE n m)) (AB n m) hm
theorem KQ(hf:P.funcs[f]?=some fn)(hx:X.hpc k d f args hp=none)(h:nJ P E (eP P E X) n fn k d args hp=some r)(hi:E.inl f=false)(hz:E.frz f=false):(eP P E X).hpc k d f args hp=some r:=by
 have h0: ∃m,nJ P E (U4 P E X m) n fn k d args hp=some r:=by
  unfold nJ at h⊢
  cases hb:fn.body with
  |none=>rw[hb] at h;cases h
  |some c=>
   rw[hb] at h;simp only at h⊢
   split at h
   ·rename_i hc
    simp only[hc,iW]
    split at h
    ·cases h
    ·rename_i e st Ir gE
     obtain⟨m,hm⟩:=K1 _ _ _ _ gE;refine⟨m,?_⟩;rw[hm]
     cases e with
     |exit i=>exact(Ir i rfl).elim
     |normal=>exact h
     |ret=>exact h
     |panic v=>exact h
    ·cases h
   ·cases h
 obtain⟨m,hm⟩:=h0;refine kW.2 ⟨max n m+1,?_⟩;rw[U4];simp only;rw[hx,hf];simp only;rw[hi,hz,Jx Zi,Jx Zi];exact Ph (Bg X (AE n m)) (AB n m) hm
theorem KO(hf:P.funcs[f]?=some fn)(hx:X.hpc k d f args hp=none)(h:nH P E (eP P E X) n fn k args hp=some r)(hi:E.inl f=false)(hz:E.frz f=true):(eP P E X).hpc k d f args hp=some r:=by
 have h0: ∃m,nH P E (U4 P E X m) n fn k args hp=some r:=by
  unfold nH at h⊢
  cases hb:fn.body with
  |none=>rw[hb] at h;cases h
  |some c=>
   rw[hb] at h;simp only at h⊢
   split at h
   ·rename_i hc
    simp only[hc,iW]
    split at h
    ·cases h
    ·rename_i e st Ir gE
     obtain⟨m,hm⟩:=K1 _ _ _ _ gE;refine⟨m,?_⟩;rw[hm]
     cases e with
     |exit i=>exact(Ir i rfl).elim
     |normal=>exact h
     |ret=>exact h
     |panic v=>exact h
    ·cases h
   ·cases h
 obtain⟨m,hm⟩:=h0;refine kW.2 ⟨max n m+1,?_⟩;rw[U4];simp only;rw[hx,hf];simp only;rw[hi,hz,Jx Zi,Ka rfl];exact Pf (Bg X (AE n m)) (AB n m) hm
theorem KP(hf:P.funcs[f]?=some fn)(hx:X.hpc k d f args hp=none)(h:nI P E (eP P E X) n fn k d args hp=some r)(hi:E.inl f=true):(eP P E X).hpc k d f args hp=some r:=by
 have h0: ∃m,nI P E (U4 P E X m) n fn k d args hp=some r:=by
  unfold nI at h⊢
  cases hb:fn.body with
  |none=>rw[hb] at h;cases h
  |some c=>
   rw[hb] at h;simp only at h⊢
   split at h
   ·rename_i hc
    simp only[hc,iW]
    split at h
    ·cases h
    ·rename_i e st Ir gE
     obtain⟨m,hm⟩:=K1 _ _ _ _ gE;refine⟨m,?_⟩;rw[hm]
     cases e with
     |exit i=>exact(Ir i rfl).elim
     |normal=>exact h
     |ret=>exact h
     |panic v=>exact h
    ·cases h
   ·cases h
 obtain⟨m,hm⟩:=h0;refine kW.2 ⟨max n m+1,?_⟩;rw[U4];simp only;rw[hx,hf];simp only;rw[hi,Ka rfl];exact Pg (Bg X (AE n m)) (AB n m) hm
end
end
section
open Go
variable {st:AS}{a:Act}{B:jZ}{Q:Exit->Act->World->Prop}{hp' hp hp1:Hp}{k N id c c1:Nat}{fr frF:Nat->AV}{o oc:Oper}{x:Operand}{v:Value}{w:World}
inductive ET where
 |fn (k f:Nat) (args:List AV) (hp:Hp)
 |ops (k:Nat) (all:Array Oper) (os:List Oper) (st:AS)
 |code (k:Nat) (c:Code) (st:AS)
def Ce (all:Array Oper)(c j:Nat):Bool:= !(j==c)&& !((waits all.toList []).getD j 0).testBit c
def Cy (all:Array Oper)(c:Nat):Bool:=
 ((List.range all.size).all fun j=>(all.getD j default).after.toList.all fun e=> !(Region.binds .any e)||decide (e.on<j))&&
 ((List.range all.size).all fun j=>(List.range j).all fun i=>(all.getD i default).dst.isNone||(all.getD i default).dst !=(all.getD j default).dst)&&
 ((List.range all.size).all fun j=> !(j==c||Ce all c j)||(List.range all.size).all fun i=>match (all.getD i default).dst with
  |some d=> !(fS all (all.getD j default)).contains d||(all.getD j default).after.toList.any fun e=>e.on==i&&Region.binds .any e
  |none=>true)
inductive dL (P:Program)(E:cD)(k:Nat)(call:aS)(hp:Hp):List Oper->(Nat->AV)->(Nat->AV)->Prop where
 |nil {fr:Nat->AV}:dL P E k call hp [] fr fr
 |cons {o:Oper} {os:List Oper} {fr fr':Nat->AV} {v:AV} (hg:o.guard=none) (h:(bL P E k call fr o).run hp=some (v,hp)) (r:dL P E k call hp os (Uw fr o.dst v) fr'):dL P E k call hp (o::os) fr fr'
inductive eS (P:Program)(E:cD)(k:Nat)(call:aS)(c1:Nat)(hp hp1:Hp):List (Nat×Oper)->(Nat->AV)->(Nat->AV)->Prop where
 |nil {fr:Nat->AV}:eS P E k call c1 hp hp1 [] fr fr
 |cons {j:Nat} {o:Oper} {os:List (Nat×Oper)} {fr fr':Nat->AV} {v:AV} (hj:j≠c1) (hg:o.guard=none) (h:(bL P E k call fr o).run hp=some (v,hp)) (h1:(bL P E k call fr o).run hp1=some (v,hp1)) (r:eS P E k call c1 hp hp1 os (Uw fr o.dst v) fr'):eS P E k call c1 hp hp1 ((j,o)::os) fr fr'
 |call {o:Oper} {os:List (Nat×Oper)} {fr fr':Nat->AV} {v:AV} (hg:o.guard=none) (h:(bL P E k call fr o).run hp=some (v,hp1)) (r:eS P E k call c1 hp hp1 os (Uw fr o.dst v) fr'):eS P E k call c1 hp hp1 ((c1,o)::os) fr fr'
def vT (all:Array Oper)(c:Nat):List Oper:=((List.range all.size).filter fun j=>Ce all c j).map fun j=>all.getD j default
def pK (all:Array Oper)(c:Nat):List (Nat×Oper):=((List.range all.size).filter fun j=>Ce all c j).map fun j=>(j,all.getD j default)
inductive gU (P:Program)(E:cD)(call:aS):ET->Nat->Value->Hp->Prop where
 |fn {k f:Nat} {fn:Func} {c:Code} {n:Nat} {args:List AV} {hp:Hp} {v:Value} {hp':Hp} (hf:P.funcs[f]?=some fn) (hb:fn.body=some c) (Uz:Bb fn=true) (hl:args.length=fn.params.size+fn.nfree)
   (h:gU P E call (.code (k+1) c ⟨Uh args,hp⟩) n v hp'):gU P E call (.fn k f args hp) (n+1) v hp'
 |skip {k:Nat} {all:Array Oper} {o:Oper} {os:List Oper} {st:AS} {n:Nat} {v:Value} {hp':Hp} (hg:bD all st.fr o=some false)
   (h:gU P E call (.ops k all os ⟨Uw st.fr o.dst (.sc undef),st.hp⟩) n v hp'):gU P E call (.ops k all (o::os) st) (n+1) v hp'
 |step {k:Nat} {all:Array Oper} {o:Oper} {os:List Oper} {st:AS} {n:Nat} {v:Value} {hp':Hp} {u:AV} {hp1:Hp} (hg:bD all st.fr o=some true) (hr:(bL P E k call st.fr o).run st.hp=some (u,hp1))
   (h:gU P E call (.ops k all os ⟨Uw st.fr o.dst u,hp1⟩) n v hp'):gU P E call (.ops k all (o::os) st) (n+1) v hp'
 |call {k:Nat} {all:Array Oper} {o:Oper} {os:List Oper} {st:AS} {n:Nat} {v:Value} {hp':Hp} {x:Operand} {args:Array Operand} {ats:Array TypeId} {f:Nat} {cs:List AV} (hg:bD all st.fr o=some true) (ho:o.op= .call ⟨.value x,args,ats⟩) (hx:Uy st.fr x= .fn f cs) (Uz:Il P f=true)
   (Ii:f<1000000) (h:gU P E call (.fn k f (args.toList.map (Uy st.fr)++cs) st.hp) n v hp'):gU P E call (.ops k all (o::os) st) (n+1) v hp'
 |panic {k:Nat} {all:Array Oper} {o:Oper} {os:List Oper} {st:AS} {n:Nat} {x:Operand} {t:TypeId} {u:Value} (hg:bD all st.fr o=some true) (ho:o.op= .panic x) (hx:Uy st.fr x= .sc (.iface t u)):
   gU P E call (.ops k all (o::os) st) (n+1) (.iface t u) st.hp
 |region {k id:Nat} {ops:Array Oper} {st:AS} {n:Nat} {v:Value} {hp':Hp} (h:gU P E call (.ops k ops ops.toList st) n v hp'):gU P E call (.code k (.region id ops false) st) (n+1) v hp'
 |draw {k id c:Nat} {ops:Array Oper} {st:AS} {n:Nat} {v:Value} {hp':Hp} {o:Oper} {x:Operand} {args:Array Operand} {ats:Array TypeId} {f:Nat} {cs:List AV} {frF:Nat->AV} (hp:Cy ops c=true) (hf:dL P E k call st.hp (vT ops c) st.fr frF) (hc:ops[c]?=some o)
   (hg:o.guard=none) (ho:o.op= .call ⟨.value x,args,ats⟩) (hx:Uy frF x= .fn f cs) (Uz:Il P f=true) (Ii:f<1000000) (h:gU P E call (.fn k f (args.toList.map (Uy frF)++cs) st.hp) n v hp'):gU P E call (.code k (.region id ops true) st) (n+1) v hp'
 |draw2 {k id c c1:Nat} {ops:Array Oper} {st:AS} {n:Nat} {v:Value} {hp1 hp':Hp} {o:Oper} {x:Operand} {args:Array Operand} {ats:Array TypeId} {f:Nat} {cs:List AV} {frF:Nat->AV} (hp:Cy ops c=true) (hw:((waits ops.toList []).getD c 0).testBit c1=true) (hf:eS P E k call c1 st.hp hp1 (pK ops c) st.fr frF) (hc:ops[c]?=some o)
   (hg:o.guard=none) (ho:o.op= .call ⟨.value x,args,ats⟩) (hx:Uy frF x= .fn f cs) (Uz:Il P f=true) (Ii:f<1000000) (h:gU P E call (.fn k f (args.toList.map (Uy frF)++cs) hp1) n v hp'):gU P E call (.code k (.region id ops true) st) (n+1) v hp'
 |drawP {k id c:Nat} {ops:Array Oper} {st:AS} {n:Nat} {o:Oper} {x:Operand} {t:TypeId} {u:Value} {frF:Nat->AV} (hp:Cy ops c=true) (hf:dL P E k call st.hp (vT ops c) st.fr frF) (hc:ops[c]?=some o)
   (hg:o.guard=none) (ho:o.op= .panic x) (hx:Uy frF x= .sc (.iface t u)):gU P E call (.code k (.region id ops true) st) (n+1) (.iface t u) st.hp
 |seqL {k:Nat} {a b:Code} {st:AS} {n:Nat} {v:Value} {hp':Hp} (h:gU P E call (.code k a st) n v hp'):gU P E call (.code k (.seq a b) st) (n+1) v hp'
 |seqR {k m:Nat} {a b:Code} {st s:AS} {n:Nat} {v:Value} {hp':Hp} (h1:bP P E k call m a st=some (.normal,s)) (h:gU P E call (.code k b s) n v hp'):gU P E call (.code k (.seq a b) st) (n+1) v hp'
 |cond {k:Nat} {c:Operand} {a b:Code} {st:AS} {t:Bool} {n:Nat} {v:Value} {hp':Hp} (hc:Uy st.fr c= .sc (.bool t)) (h:gU P E call (.code k (if t then a else b) st) n v hp'):gU P E call (.code k (.cond c a b) st) (n+1) v hp'
 |block {k id:Nat} {c:Code} {st:AS} {n:Nat} {v:Value} {hp':Hp} (h:gU P E call (.code k c st) n v hp'):gU P E call (.code k (.block id c) st) (n+1) v hp'
 |scope {k:Nat} {c:Code} {st:AS} {n:Nat} {v:Value} {hp':Hp} (h:gU P E call (.code k c st) n v hp'):gU P E call (.code k (.scope c) st) (n+1) v hp'
 |loopN {k m:Nat} {c:Code} {st s:AS} {n:Nat} {v:Value} {hp':Hp} (h1:bP P E k call m c st=some (.normal,s)) (h:gU P E call (.code k (.loop c) s) n v hp'):gU P E call (.code k (.loop c) st) (n+1) v hp'
 |loopP {k:Nat} {c:Code} {st:AS} {n:Nat} {v:Value} {hp':Hp} (h:gU P E call (.code k c st) n v hp'):gU P E call (.code k (.loop c) st) (n+1) v hp'
def uO (K:Nat->Prop)(B:jZ)(hp':Hp)(a:Act)(w:World):Prop:= ∃I m,Uj I K m hp' w/\aL B.I K B.m B.hp B.w I m hp' w/\a.defers=B.df
def iN (v:Value):List PanicEntry:=[{v:=v,recovered:=false}]
section
variable {P:Program}{E:cD}{call:aS}{K:Nat->Prop}
def B7 (P:Program)(k f:Nat)(args:List AV)(hp:Hp)(v:Value)(hp':Hp):Prop:= ∀(I K:Nat->Prop) (m:Mp) (w:World) (us:List Value),Il P f=true->Uj I K m hp w->Ue (Ie k I m hp w) args us->
 Calls P f ⟨us⟩ w fun e w'=>e= .panicked (iN v)/\ ∃I' m',Uj I' K m' hp' w'/\aL I K m hp w I' m' hp' w'
def Vb (P:Program)(k:Nat)(all:Array Oper)(os:List Oper)(st:AS)(v:Value)(hp':Hp):Prop:= ∀(N:Nat) (K:Nat->Prop) (B:jZ) (n:Nat) (Q:Exit->Act->World->Prop) (a:Act) (w:World),(∀j,os[j]?=all[n+j]?)->(∀o∈os,∀x,o.dst=some x->x<N)->
 aX k N K B st a w->(∀a' w',uO K B hp' a' w'->Q (.panic (iN v)) a' w')->wpOps P all Q (List.range' n os.length) a w
def Fj (P:Program)(k:Nat)(c:Code)(st:AS)(v:Value)(hp':Hp):Prop:= ∀(N:Nat) (K:Nat->Prop) (B:jZ) (Q:Exit->Act->World->Prop) (a:Act) (w:World),Im N c=true->
 aX k N K B st a w->(∀a' w',uO K B hp' a' w'->Q (.panic (iN v)) a' w')->c.wp P Q a w
def PanT (P:Program)(v:Value)(hp':Hp):ET->Prop
 | .fn k f args hp=>B7 P k f args hp v hp'
 | .ops k all os st=>Vb P k all os st v hp'
 | .code k c st=>Fj P k c st v hp'
theorem aX.panR{K:Nat->Prop}(S:aX k N K B st a w):uO K B st.hp a w:=by
 obtain⟨I,m,G,E0,_,_,hd⟩:=S;exact⟨I,m,G,E0,hd⟩
theorem Zg {f:Nat}{args:Array Operand}{ats:Array TypeId}{cs:List AV}{next:Act→World→Prop}{Q:Exit→Act→World→Prop}(hc:B7 P k f (args.toList.map (Uy st.fr)++cs) st.hp v hp')
  (ho:o.op= .call ⟨.value x,args,ats⟩) (hx:Uy st.fr x= .fn f cs) (Uz:Il P f=true) (Ii:f<1000000) (S:aX k N K B st a w) (hQ: ∀a' w',uO K B hp' a' w'→Q (.panic (iN v)) a' w'):o.wp P a w next Q:=by
 obtain⟨I,m,G,E0,hf,hs,rX⟩:=S;have eY:=D0 G hf;have sY:=eY x;rw[hx] at sY;simp only[Ie] at sY;obtain⟨us,hu,cB⟩:=sY;simp only[sW,Ka Ii] at hu;have pR:Ue (Ie k I m st.hp w) (args.toList.map (Uy st.fr)) (args.toList.map a.eval):=by
  refine⟨Zi,fun j x u h1 h2=>?_⟩;rw[qY] at h1 h2
  cases hj:args.toList[j]? with
  |none=>rw[hj] at h1;cases h1
  |some z=>rw[hj] at h1 h2;cases h1;cases h2;exact eY z
 have cU:=pR.append ((Ae _ _).1 cB);have fV:=hc I K m w _ Uz G cU;have DG:(⟨args.toList.map a.eval++us⟩:Array Value)=args.map a.eval++⟨us⟩:=by apply sI;simp
 rw[DG] at fV;unfold Il at Uz
 split at Uz
 ·rename_i fn kI
  simp only[Ed,zC] at Uz;have Uk:(execOp a.eval o).run P w= .ok (.enter f (args.map a.eval++⟨us⟩)) w:=by
   have hb:fn.body≠none:=fun hq=>by simp[hq] at Uz
   have uG:fn.name≠ "runtime.NumGoroutine" :=by simpa using Uz.2
   obtain⟨dst,op,type,pos,after,guard⟩:=o;simp only at ho;subst ho;simp[execOp,resolve,hu,Deferred.ofValue,invoke,callFunc,kI,uG,hb]
  unfold Oper.wp;rw[Uk];refine fV.mono fun e w' he=>?_
  obtain⟨rfl,I',m',G',E'⟩:=he;exact hQ a w' ⟨I',m',G',E0.trans E',rX⟩
 ·cases Uz
theorem Qt{t:TypeId}{u:Value}{next:Act->World->Prop}(ho:o.op= .panic x)(hx:Uy st.fr x= .sc (.iface t u))(S:aX k N K B st a w)
  (hQ: ∀a' w',uO K B st.hp a' w'->Q (.panic (iN (.iface t u))) a' w'):o.wp P a w next Q:=by
 have hR:=S.panR;obtain⟨I,m,G,E0,hf,hs,rX⟩:=S;have sY:=D0 G hf x;rw[hx] at sY;simp only[Ie] at sY;have Uk:(execOp a.eval o).run P w= .halt (.panic (.iface t u)) w:=by
  obtain⟨dst,op,type,pos,after,guard⟩:=o;simp only at ho;subst ho;simp[execOp,sY,Instr.panic,goPanic,Sem.run]
 unfold Oper.wp;rw[Uk];exact hQ a w hR
theorem B8{ops:Array Oper}{b:Bool}(hs:Im N (.region id ops b)=true): ∀o∈ops.toList,∀x,o.dst=some x->x<N:=fun o ho x hx=>by
 simp only[Im,nU,Ed] at hs;have:=(hs o ho).1;rw[hx] at this;simpa using this
theorem Vz {all:Array Oper}(h:Cy all c=true):(∀j o e,all[j]?=some o->e∈o.after->Region.binds .any e=true->e.on<j)/\(∀(i j:Nat) (oi oj:Oper) (d:Nat),all[i]?=some oi->all[j]?=some oj->oi.dst=some d->oj.dst=some d->i=j)/\
  (∀j oj,all[j]?=some oj->(j=c\/Ce all c j=true)-> ∀(i:Nat) (oi:Oper) (d:Nat),all[i]?=some oi->oi.dst=some d->d∈fS all oj-> ∃e∈oj.after,e.on=i/\Region.binds .any e=true):=by
 have uH: ∀{j o},all[j]?=some o->all.getD j default=o:=fun h=>by simp[h]
 simp only[Cy,Ed,nU,sJ,GM,zC,oW] at h;obtain⟨⟨h1,h2⟩,h3⟩:=h;have uniq: ∀(i j:Nat) (oi oj:Oper) (d:Nat),i<j->all[i]?=some oi->all[j]?=some oj->oi.dst=some d->oj.dst=some d->False:=fun i j oi oj d xG hi hj lB hdj=>by
  have:=h2 j (Xc.1 hj).1 i xG;rw[uH hi,uH hj,lB,hdj] at this;simp at this
 refine⟨fun j o e hj he hb=>?_,fun i j oi oj d hi hj lB hdj=>?_,fun j oj hj hc i oi d hi hd hs=>?_⟩
 ·have:=h1 j (Xc.1 hj).1 e (by rw[uH hj];simpa using he)
  rcases this with h|h
  ·rw[hb] at h;cases h
  ·exact h
 ·rcases Nat.lt_trichotomy i j with h|h|h
  ·exact(uniq i j oi oj d h hi hj lB hdj).elim
  ·exact h
  ·exact(uniq j i oj oi d h hj hi hdj lB).elim
 ·have:=h3 j (Xc.1 hj).1
  rcases this with h|h
  ·rcases hc with rfl|hc
   ·simp at h
   ·rw[hc] at h;simp at h
  ·have:=h i (Xc.1 hi).1
   rw[uH hi,uH hj,hd] at this;simp only[GM,zC,List.any_eq_true,Ed,beq_iff_eq] at this;rcases this with h'|⟨e,he,h1,h2⟩
   ·rw[List.contains_iff_mem.2 hs] at h';cases h'
   ·exact⟨e,by simpa using he,h1,h2⟩
theorem Yh {all:Array Oper}{c c1 k:Nat}{hp hp1:Hp}(mW:Cy all c=true): ∀(js:List Nat) {fr frF:Nat->AV},js.Pairwise (· < ·)->(∀j∈js,j<all.size/\Ce all c j=true)->eS P E k call c1 hp hp1 (js.map fun j=>(j,all.getD j default)) fr frF->
  (∀t,(∀j∈js,∀o,all[j]?=some o->o.dst≠some t)->frF t=fr t)/\ ∀j∈js,∀o,all[j]?=some o->o.guard=none/\ ∃v,((j=c1/\(bL P E k call frF o).run hp=some (v,hp1))\/(j≠c1/\(bL P E k call frF o).run hp=some (v,hp)/\(bL P E k call frF o).run hp1=some (v,hp1)))/\ ∀d,o.dst=some d->frF d=v
 |[],fr,frF,_,_,h=>by
  cases h
  exact⟨fun _ _=>rfl,fun _ h=>by cases h⟩
 |j::js,fr,frF,hs,hm,h=>by
  obtain⟨rY,CG,wY⟩:=Vz mW;simp only[List.pairwise_cons] at hs;simp only[T9] at h;have hj:=hm j (Vc ..);have rT:all[j]?=some (all.getD j default):=by simp[hj.1]
  generalize hq:all.getD j default=o at h rT;obtain⟨v,hg,hr,CL⟩: ∃v,o.guard=none/\((j=c1/\(bL P E k call fr o).run hp=some (v,hp1))\/(j≠c1/\(bL P E k call fr o).run hp=some (v,hp)/\(bL P E k call fr o).run hp1=some (v,hp1)))/\eS P E k call c1 hp hp1 (js.map fun j=>(j,all.getD j default)) (Uw fr o.dst v) frF:=by
   cases h with
   | @cons _ _ _ _ _ v hj hg h h1 r=>exact⟨v,hg,.inr ⟨hj,h,h1⟩,r⟩
   | @call _ _ _ _ v hg h r=>exact⟨v,hg,.inl ⟨rfl,h⟩,r⟩
  obtain⟨ha,hb⟩:=Yh mW js hs.2 (fun i hi=>hm i (T8 _ hi)) CL;have key: ∀t,(∀i∈j::js,∀o,all[i]?=some o->o.dst≠some t)->frF t=fr t:=fun t ht=>by
   rw[ha t fun i hi=>ht i (T8 _ hi)];exact Er fun e=>ht j (Vc ..) o rT e
  refine⟨key,fun i hi oi yJ=>?_⟩;rcases sV.1 hi with rfl|hi
  ·rw[rT] at yJ;cases yJ
   refine⟨hg,v,?_,fun d hd=>?_⟩
   ·rw[Jv (fr':=fr)]
    ·exact hr
    ·intro y hy
     cases y with
     |tmp t=>
      refine key t fun i' hi' o' yK uT=>?_
      have vK:t∈fS all o:=FI _ (Ad8.2 ⟨.tmp t,by simpa using hy,rfl⟩);obtain⟨e,he,e1,e2⟩:=wY i o rT (.inr hj.2) i' o' t yK uT vK;have Ii:=rY i o e rT he e2;rw[e1] at Ii;rcases sV.1 hi' with rfl|hi'
      ·exact yY _ Ii
      ·exact yY _ (Nat.lt_trans Ii (hs.1 i' hi'))
     |const c=>cases c<;>rfl
     |func f=>rfl
     |global g=>rfl
   ·rw[ha d fun i' hi' o' yK uT=>?_]
    ·rw[hd];simp[Uw]
    ·have:=CG _ _ _ _ _ rT yK hd uT
     exact yY _ (this▸hs.1 i' hi')
  ·exact hb i hi oi yJ
theorem Li (hm:P.follows .mixedOrders=true)(hE:dS P E)(hC:Av P call){all:Array Oper}
  (mW:Cy all c=true) (hcw:hp1=hp\/((waits all.toList []).getD c 0).testBit c1=true) (jD:eS P E k call c1 hp hp1 (pK all c) fr frF) (hc:all[c]?=some oc) (hg:oc.guard=none) (eY: ∀(cur:Nat->AV) (a:Act) (w:World) (next:Act->World->Prop),(∀y∈oc.op.operands,Uy cur y=Uy frF y)->(∀t,(∀o∈all.toList,o.dst≠some t)->cur t=fr t)->((∀j,j<all.size->j≠c->((waits all.toList []).getD c 0).testBit j=true)->(∀t,cur t=frF t)/\ ∀a w,Q .normal a w->next a w)->aX k N K B ⟨cur,hp1⟩ a w->oc.wp P a w next Q)
  (hd: ∀o∈all.toList,∀x,o.dst=some x->x<N) (S:aX k N K B ⟨fr,hp⟩ a w):(Code.region id all true).wp P Q a w:=by
 refine wp_region_any hm ?_;obtain⟨rY,CG,wY⟩:=Vz mW;have hclt:=(Xc.1 hc).1;obtain⟨ha,hb⟩:=Yh mW _ (List.Pairwise.filter _ List.pairwise_lt_range) (fun j hj=>by
  obtain⟨h1,h2⟩:=Acw.1 hj;exact⟨sJ.1 h1,h2⟩) jD
 have hfm: ∀{j},j<all.size->Ce all c j=true->j∈(List.range all.size).filter fun j=>Ce all c j:=fun h1 h2=>Acw.2 ⟨sJ.2 h1,h2⟩
 let H:Array Bool->Hp:=fun l=>if l.getD c1 false=true then hp1 else hp
 let cntL:Array Bool->Nat:=fun l=>((List.range all.size).filter fun i=>l.getD i false).length
 have main: ∀(n:Nat) (listed:Array Bool) (cur:Nat->AV) (a:Act) (w:World),wC all listed->listed.size=all.size->listed.getD c false=false->cntL listed+n=all.size->
   (∀i oi d,listed.getD i false=true->all[i]?=some oi->oi.dst=some d->cur d=frF d)->(∀t,(∀i oi,listed.getD i false=true->all[i]?=some oi->oi.dst≠some t)->cur t=fr t)->
   aX k N K B ⟨cur,H listed⟩ a w->wpAny P .any all Q n listed a w:=by
  intro n
  induction n with
  |zero=>
   intro listed cur a w hD aZ lY MA h1 h2 S;exfalso;have:((List.range all.size).filter fun i=>listed.getD i false).length<(List.range all.size).length:=by
    refine List.length_filter_lt_length_iff_exists.2 ⟨c,sJ.2 hclt,by rw[lY];simp⟩
   rw[List.length_range] at this;have:cntL listed<all.size:=this;omega
  |succ n ih=>
   intro listed cur a w hD aZ lY MA h1 h2 S;have LR: ∀{j},j<all.size->(listed.getD j true=listed.getD j false):=fun hj=>by simp[aZ,hj]
   refine⟨fun hr=>?_,fun j hj=>?_⟩
   ·exfalso
    have pJ: ∃j,j<all.size/\listed.getD j false=false:=⟨c,hclt,lY⟩;have hmin: ∃j,(j<all.size/\listed.getD j false=false)/\ ∀i,i<j-> ¬(i<all.size/\listed.getD i false=false):=by
     have hl:=C4 (p:=fun j=>j<all.size/\listed.getD j false=false) pJ;exact⟨_,hl.1,fun i hi hp=>yY _ (AY hi (hl.2 i hp))⟩
    obtain⟨j,⟨hj,mM⟩,hjm⟩:=hmin;have rT:all[j]?=some all[j]:=FK hj;have:j∈Region.ready .any all listed:=OE.2 ⟨by rw[LR hj];exact mM,_,rT,fun e he DF=>by
     have Ii:=rY j _ e rT he DF
     cases aI:listed.getD e.on false with
     |true=>rfl
     |false=>exact(hjm e.on Ii ⟨Nat.lt_trans Ii hj,aI⟩).elim⟩
    rw[hr] at this
    cases this
   ·obtain⟨hju,oj,rT,hje⟩:=OE.1 hj
    have CU:=(Xc.1 rT).1;have hlf: ∀i,listed.getD i false=true->i<all.size->Ce all c i=true:=fun i hi zP=>by
     unfold Ce;simp only[Ed,zC,beq_eq_false_iff_ne];refine⟨fun e=>(by rw[e,lY] at hi;cases hi),?_⟩
     cases htb:((waits all.toList []).getD i 0).testBit c with
     |false=>rfl
     |true=>
      have hw:=Fm (all:=all) all.toList [] 0 rfl Zi Zi i c htb;have:=hD.waits hw hi;rw[lY] at this
      cases this
    have oM:(j=c\/Ce all c j=true)-> ∀y∈oj.op.operands,Uy cur y=Uy frF y:=fun hjc y hy=>by
     cases y with
     |tmp t=>
      have vK:t∈fS all oj:=FI _ (Ad8.2 ⟨.tmp t,by simpa using hy,rfl⟩);show cur t=frF t;by_cases hw: ∃(i:Nat) (oi:Oper),all[i]?=some oi/\oi.dst=some t
      ·obtain⟨i,oi,hi,lB⟩:=hw
       obtain⟨e,he,e1,e2⟩:=wY j oj rT hjc i oi t hi lB vK;exact h1 i oi t (e1▸hje e he e2) hi lB
      ·have mX: ∀(i:Nat) (oi:Oper),all[i]?=some oi->oi.dst≠some t:=fun i oi hi lB=>hw ⟨i,oi,hi,lB⟩
       rw[h2 t fun i oi _ hi=>mX i oi hi,ha t fun i _ o yK=>mX i o yK]
     |const c=>cases c<;>rfl
     |func f=>rfl
     |global g=>rfl
    unfold wpOp;simp only[rT];by_cases hjc:j=c
    ·subst hjc
     rw[hc] at rT;cases rT;rw[S.guard (b:=true) (by simp[bD,hg]),Ka rfl];have hH:H listed=hp1:=by
      rcases hcw with h|h
      ·simp only[H,h,ite_self]
      ·have hw:=Fm (all:=all) all.toList [] 0 rfl Zi Zi j c1 h
       exact Ka (E9 hD hj hw)
     rw[hH] at S;refine .inl (eY cur a w _ (oM (.inl rfl)) (fun t ht=>h2 t fun i oi _ hi=>ht oi (by have:=Acs hi;simpa using this)) (fun cU=>?_) S);have hlist: ∀i,i<all.size->i≠j->listed.getD i false=true:=fun i hi Ir=>E9 hD hj (Fm (all:=all) all.toList [] 0 rfl Zi Zi j i (cU i hi Ir))
     refine⟨fun t=>?_,fun a2 w2 hq=>?_⟩
     ·by_cases ht: ∃i oi,listed.getD i false=true/\all[i]?=some oi/\oi.dst=some t
      ·obtain⟨i,oi,e1,e2,e3⟩:=ht
       exact h1 i oi t e1 e2 e3
      ·rw[h2 t fun i oi hi yJ he=>ht ⟨i,oi,hi,yJ,he⟩,ha t fun i hi o ho he=>?_]
       obtain⟨hir,hif⟩:=Acw.1 hi;have Ir:i≠j:=by
        intro e;subst e;unfold Ce at hif;simp at hif
       exact ht ⟨i,o,hlist i (sJ.1 hir) Ir,ho,he⟩
     ·have eB:Region.ready .any all (listed.setIfInBounds j true)=[]:=by
       cases hr:Region.ready .any all (listed.setIfInBounds j true) with
       |nil=>rfl
       |cons i l=>
        exfalso;have him:i∈Region.ready .any all (listed.setIfInBounds j true):=by rw[hr];exact Vc ..
        obtain⟨hiu,oi,yJ,_⟩:=OE.1 him;have zP:=(Xc.1 yJ).1;by_cases xG:j=i
        ·subst xG
         have LW:j<listed.size:=Zo;simp[LW] at hiu
        ·rw[GI true xG] at hiu
         have:=hlist i zP (fun e=>xG e.symm);have hil:i<listed.size:=Zo;simp[hil] at hiu this;rw[this] at hiu
         cases hiu
      cases n with
      |zero=>exact⟨eB,hq⟩
      |succ n=>exact⟨fun _=>hq,fun i hi=>by rw[eB] at hi;cases hi⟩
    ·cases hfj:Ce all c j with
     |false=>
      exfalso;unfold Ce at hfj;rw[Bool.and_eq_false_iff] at hfj;rcases hfj with h|h
      ·simp at h;exact hjc h
      ·have htb:((waits all.toList []).getD j 0).testBit c=true:=by simpa using h
       have hw:=Fm (all:=all) all.toList [] 0 rfl Zi Zi j c htb;have:=E9 hD hj hw;rw[lY] at this
       cases this
     |true=>
      obtain⟨hgj,vj,Uk,DC⟩:=hb j (hfm CU hfj) oj rT;rw[S.guard (b:=true) (by simp[bD,hgj]),Ka rfl];have hjf0:listed.getD j false=false:=by rw[<-LR CU];exact hju
      have gE:(bL P E k call cur oj).run (H listed)=some (vj,H (listed.setIfInBounds j true)):=by
       rw[Jv (oM (.inr hfj))];rcases Uk with⟨rfl,Uk⟩|⟨hj1,FT,tP⟩
       ·have e1:H listed=hp:=Jx (by rw[hjf0];decide)
        have e2:H (listed.setIfInBounds j true)=hp1:=Ka (by have LW:j<listed.size:=Zo;simp[LW]);rw[e1,e2];exact Uk
       ·have e1:H (listed.setIfInBounds j true)=H listed:=by simp only[H,GI false hj1]
        rw[e1]
        cases h:listed.getD c1 false with
        |true=>simp only[H,h,iW];exact tP
        |false=>simp only[H,h,pW,lJ];exact FT
      refine .inl ((S.op hE hC (hd oj (by have:=Acs rT;simpa using this)) gE).wp fun u w' S'=>?_);have zI: ∀i,(listed.setIfInBounds j true).getD i false=true->i=j\/listed.getD i false=true:=fun i hi=>by
       by_cases e:j=i
       ·exact .inl e.symm
       ·rw[GI false e] at hi;exact .inr hi
      refine ih (listed.setIfInBounds j true) _ _ _ (hD.set hj) (by simpa using aZ) (by rw[GI false hjc];exact lY) ?_ (fun i oi d hi yJ lB=>?_) (fun t ht=>?_) S'
      ·have hjf:listed.getD j false=false:=by rw[<-LR CU];exact hju
       have xB: ∀(l:List Nat),l.Nodup->j∈l->(l.filter fun i=>(listed.setIfInBounds j true).getD i false).length=(l.filter fun i=>listed.getD i false).length+1:=by
        intro l
        induction l with
        |nil=>intro _ h;cases h
        |cons y l ihl=>
         intro hnd hjm;rw[List.nodup_cons] at hnd;by_cases hyj:j=y
         ·subst hyj
          have e1:(listed.setIfInBounds j true).getD j false=true:=(by have LW:j<listed.size:=Zo;simp[LW]);have e2:l.filter (fun i=>(listed.setIfInBounds j true).getD i false)=l.filter fun i=>listed.getD i false:=List.filter_congr fun i hi=>GI false (fun e=>hnd.1 (e▸hi))
          simp only[List.filter_cons,e1,hjf,e2,iW,pW,lJ,wP]
         ·have:=ihl hnd.2 ((sV.1 hjm).resolve_left hyj)
          have e1:(listed.setIfInBounds j true).getD y false=listed.getD y false:=GI false hyj
          cases hy:listed.getD y false with
          |true=>simp only[List.filter_cons,e1,hy,iW,wP,this]
          |false=>simp only[List.filter_cons,e1,hy,pW,lJ,this]
       have:=xB (List.range all.size) List.nodup_range (sJ.2 CU);have:cntL (listed.setIfInBounds j true)=cntL listed+1:=this;omega
      ·rcases zI i hi with rfl|hi'
       ·rw[rT] at yJ;cases yJ
        simp only[lB,Uw,iW];exact(DC d lB).symm
       ·have Ir:oj.dst≠some d:=fun e=>by
         have:=CG _ _ _ _ _ yJ rT lB e;subst this;have hjf:listed.getD i false=false:=by rw[<-LR CU];exact hju
         rw[hjf] at hi';cases hi'
        simp only;rw[Er Ir];exact h1 i oi d hi' yJ lB
      ·have hjt:oj.dst≠some t:=ht j oj (by have LW:j<listed.size:=Zo;simp[LW]) rT
       simp only;rw[Er hjt];refine h2 t fun i oi hi yJ=>ht i oi ?_ yJ
       by_cases e:j=i
       ·subst e
        have LW:j<listed.size:=Zo;simp[LW]
       ·rw[GI false e];exact hi
 refine main all.size (Array.replicate all.size false) fr a {w with drawn:=w.drawn+1} (fun j o e hj _ _ _=>?_) Zi (by simp[hclt]) ?_ (fun i oi d hi _ _=>?_) (fun t _=>rfl) ?_
 ·exfalso
  by_cases h:j<all.size<;>simp[h] at hj
 ·have:cntL (Array.replicate all.size false)=0:=by
   refine List.length_eq_zero_iff.2 (List.filter_eq_nil_iff.2 fun i hi=>?_);have:=sJ.1 hi;simp[this]
  omega
 ·exfalso
  by_cases h:i<all.size<;>simp[h] at hi
 ·have e:H (Array.replicate all.size false)=hp:=Jx (by by_cases h:c1<all.size<;>simp[h])
  rw[e];exact S.drawn _
theorem Qu (hm:P.follows .mixedOrders=true)(hE:dS P E)(hC:Av P call){all:Array Oper}
  (mW:Cy all c=true) (hcw:hp1=hp\/((waits all.toList []).getD c 0).testBit c1=true) (jD:eS P E k call c1 hp hp1 (pK all c) fr frF) (hc:all[c]?=some oc) (hg:oc.guard=none) (eY: ∀(cur:Nat->AV) (a:Act) (w:World) (next:Act->World->Prop),(∀y∈oc.op.operands,Uy cur y=Uy frF y)->aX k N K B ⟨cur,hp1⟩ a w->oc.wp P a w next Q)
  (hd: ∀o∈all.toList,∀x,o.dst=some x->x<N) (S:aX k N K B ⟨fr,hp⟩ a w):(Code.region id all true).wp P Q a w:=Li hm hE hC mW hcw jD hc hg (fun cur a w next h _ _ S=>eY cur a w next h S) hd S
theorem dL.two {all:Array Oper}{k:Nat}{hp:Hp}: ∀(js:List Nat) {fr frF:Nat->AV},(∀j∈js,j<all.size)->dL P E k call hp (js.map fun j=>all.getD j default) fr frF->eS P E k call all.size hp hp (js.map fun j=>(j,all.getD j default)) fr frF
 |[],_,_,_,h=>by cases h;exact .nil
 |j::js,fr,frF,hj,h=>by
  simp only[T9] at h⊢
  cases h with
  |cons hg hr CL=>exact .cons (Nat.ne_of_lt (hj j (Vc ..))) hg hr hr (dL.two js (fun i hi=>hj i (T8 _ hi)) CL)
theorem V4 (hm:P.follows .mixedOrders=true)(hE:dS P E)(hC:Av P call){all:Array Oper}
  (mW:Cy all c=true) (jD:dL P E k call hp (vT all c) fr frF) (hc:all[c]?=some oc) (hg:oc.guard=none) (eY: ∀(cur:Nat->AV) (a:Act) (w:World) (next:Act->World->Prop),(∀y∈oc.op.operands,Uy cur y=Uy frF y)->aX k N K B ⟨cur,hp⟩ a w->oc.wp P a w next Q)
  (hd: ∀o∈all.toList,∀x,o.dst=some x->x<N) (S:aX k N K B ⟨fr,hp⟩ a w):(Code.region id all true).wp P Q a w:=
 Qu hm hE hC mW (.inl rfl) (dL.two _ (fun j hj=>sJ.1 (Acw.1 hj).1) jD) hc hg eY hd S
theorem V3 (hm:P.follows .mixedOrders=true)(hE:dS P E)(hC:Av P call){n:Nat}{c:Code}(ih: ∀j,j<n-> ∀s,gU P E call (.code k c s) j v hp'->Fj P k c s v hp')
  (N:Nat) (K:Nat->Prop) (B:jZ) (Q:Exit->Act->World->Prop) (a:Act) (w:World) (hs:Im N c=true) (S:aX k N K B st a w) (h:gU P E call (.code k (.loop c) st) n v hp') (hQ: ∀a' w',uO K B hp' a' w'->Q (.panic (iN v)) a' w'):(Code.loop c).wp P Q a w:=by
 refine wp_loop (I:=fun a w=> ∃g s,g<=n/\aX k N K B s a w/\gU P E call (.code k (.loop c) s) g v hp')
  (μ:=fun a w=>kH fun g=> ∃s,g<=n/\aX k N K B s a w/\gU P E call (.code k (.loop c) s) g v hp') ⟨n,st,D5 _,S,h⟩ ?_
 intro a w hI;obtain⟨⟨s,hg,S,h⟩,_⟩:=C4 (p:=fun g=> ∃s,g<=n/\aX k N K B s a w/\gU P E call (.code k (.loop c) s) g v hp') hI;generalize oJ:kH (fun g=> ∃s,g<=n/\aX k N K B s a w/\gU P E call (.code k (.loop c) s) g v hp')=g at hg h
 cases h with
 | @loopN _ m _ _ s1 g' _ _ h1 h2=>
  refine Cn hm hE hC m c hs S h1 fun a' w' S'=>⟨⟨g',s1,Zo,S',h2⟩,?_⟩
  have:=(C4 (p:=fun g=> ∃s,g<=n/\aX k N K B s a' w'/\gU P E call (.code k (.loop c) s) g v hp') ⟨g',s1,Zo,S',h2⟩).2 g' ⟨s1,Zo,S',h2⟩;exact Nat.lt_succ_of_le this
 | @loopP _ _ _ g' _ _ h2=>
  exact ih g' Zo s h2 N K B _ a w hs S fun a' w' hR=>hQ a' w' hR
theorem Tg (hm:P.follows .mixedOrders=true)(hE:dS P E)(hC:Av P call): ∀(n:Nat) (t:ET) (v:Value) (hp':Hp),gU P E call t n v hp'->PanT P v hp' t:=by
 intro n
 induction n using Nat.strongRecOn with
 |_ n ih0=>
  intro t v hp' h;have h00:=h
  cases h with
  | @fn k f fn c _ args hp _ _ hf hb Uz hl h=>
   have hc:Fj P (k+1) c ⟨Uh args,hp⟩ v hp':=ih0 _ (vB _) _ _ _ h;intro I K m w us _ G ha;have lI:=Uz;unfold Bb at lI;rw[hb] at lI;simp only[Ed,oW] at lI;obtain⟨⟨pN,kM⟩,hs3⟩:=lI;have jS:us.length=fn.params.size+fn.nfree:=by rw[<-ha.1];exact hl
   refine Ad1 hf hb ?_;have S0:aX (k+1) fn.ntmps K ⟨I,m,hp,w,[]⟩ ⟨Uh args,hp⟩ {tmps:=(⟨us⟩:Array Value)++Array.replicate (fn.ntmps - (⟨us⟩:Array Value).size) undef,defers:=[]} w:=by
    refine⟨I,m,G,.refl _ _ _ _ _,fun t=>Cl (ha.imp fun a u h=>Ie.depth (uY k) a u h) t,?_,rfl⟩;simp only[AX,AW,BA];omega
   refine hc _ K _ _ _ _ pN S0 fun a' w' hR=>?_
   obtain⟨I',m',G',E',hd⟩:=hR;exact⟨hd,rfl,I',m',G',E'⟩
  | @skip k all o os st _ _ _ hg h=>
   have hc:Vb P k all os _ v hp':=ih0 _ (vB _) _ _ _ h;intro N K B i Q a w hl hd S hQ;have h0:all[i]?=some o:=by simpa using(hl 0).symm
   have tD: ∀j,os[j]?=all[i+1+j]?:=fun j=>by have:=hl (j+1);simpa[tJ,OF 1 j] using this
   simp only[wP,Acg,wpOps,h0];rw[S.guard hg];simp only[pW,lJ];exact hc N K B _ Q _ _ tD (fun p hp=>hd p (T8 _ hp)) (S.skip (hd o (Vc ..))) hQ
  | @step k all o os st _ _ _ u hp1 hg hr h=>
   have hc:Vb P k all os _ v hp':=ih0 _ (vB _) _ _ _ h;intro N K B i Q a w hl hd S hQ;have h0:all[i]?=some o:=by simpa using(hl 0).symm
   have tD: ∀j,os[j]?=all[i+1+j]?:=fun j=>by have:=hl (j+1);simpa[tJ,OF 1 j] using this
   simp only[wP,Acg,wpOps,h0];rw[S.guard hg,Ka rfl];exact .inl ((S.op hE hC (hd o (Vc ..)) hr).wp fun u w' S'=>hc N K B _ Q _ _ tD (fun p hp=>hd p (T8 _ hp)) S' hQ)
  | @call k all o os st _ _ _ x args ats f cs hg ho hx Uz Ii h=>
   have hc:B7 P k f _ st.hp v hp':=ih0 _ (vB _) _ _ _ h;intro N K B i Q a w hl hd S hQ;have h0:all[i]?=some o:=by simpa using(hl 0).symm
   simp only[wP,Acg,wpOps,h0];rw[S.guard hg,Ka rfl];exact .inl (Zg hc ho hx Uz Ii S hQ)
  | @panic k all o os st _ x t u hg ho hx=>
   intro N K B i Q a w hl hd S hQ;have h0:all[i]?=some o:=by simpa using(hl 0).symm
   simp only[wP,Acg,wpOps,h0];rw[S.guard hg,Ka rfl];exact .inl (Qt ho hx S hQ)
  | @region k id ops st _ _ _ h=>
   have hc:Vb P k ops ops.toList st v hp':=ih0 _ (vB _) _ _ _ h;intro N K B Q a w hs S hQ;refine vA ?_;have h1:=hc N K B 0 Q a w (fun j=>by rw[Acd,mH]) (fun o ho x hx=>by
    simp only[Im,nU,Ed] at hs;have:=(hs o ho).1;rw[hx] at this;simpa using this) S hQ
   rw[Acj];simpa using h1
  | @draw k id c ops st _ _ _ o x args ats f cs frF mW hf hc hg ho hx Uz Ii h=>
   have lY:B7 P k f _ st.hp v hp':=ih0 _ (vB _) _ _ _ h;intro N K B Q a w hs S hQ;refine V4 hm hE hC mW hf hc hg (fun cur a w next oM S=>?_) (B8 hs) S;rw[ho] at oM;have e1:Uy cur x=Uy frF x:=oM x (by simp[Op.operands,Call.operands]);have e2:args.toList.map (Uy cur)=args.toList.map (Uy frF):=GJ fun y hy=>oM y (by simp[Op.operands,Call.operands];exact .inr (by simpa using hy))
   exact Zg (st:=⟨cur,st.hp⟩) (by simp only;rw[e2];exact lY) ho (by simp only;rw[e1];exact hx) Uz Ii S hQ
  | @draw2 k id c c1 ops st _ _ hp1 _ o x args ats f cs frF mW hw hf hc hg ho hx Uz Ii h=>
   have lY:B7 P k f _ hp1 v hp':=ih0 _ (vB _) _ _ _ h;intro N K B Q a w hs S hQ;refine Qu hm hE hC mW (.inr hw) hf hc hg (fun cur a w next oM S=>?_) (B8 hs) S;rw[ho] at oM;have e1:Uy cur x=Uy frF x:=oM x (by simp[Op.operands,Call.operands]);have e2:args.toList.map (Uy cur)=args.toList.map (Uy frF):=GJ fun y hy=>oM y (by simp[Op.operands,Call.operands];exact .inr (by simpa using hy))
   exact Zg (st:=⟨cur,hp1⟩) (by simp only;rw[e2];exact lY) ho (by simp only;rw[e1];exact hx) Uz Ii S hQ
  | @drawP k id c ops st _ o x t u frF mW hf hc hg ho hx=>
   intro N K B Q a w hs S hQ;refine V4 hm hE hC mW hf hc hg (fun cur a w next oM S=>?_) (B8 hs) S;rw[ho] at oM;have e1:Uy cur x=Uy frF x:=oM x (by simp[Op.operands]);exact Qt (st:=⟨cur,st.hp⟩) ho (by simp only;rw[e1];exact hx) S hQ
  | @seqL k x y st _ _ _ h=>
   have hc:Fj P k x st v hp':=ih0 _ (vB _) _ _ _ h;intro N K B Q a w hs S hQ;simp only[Im,Ed] at hs;exact nM (hc N K B _ a w hs.1 S fun a' w' hR=>hQ a' w' hR)
  | @seqR k m x y st s _ _ _ h1 h=>
   have hc:Fj P k y s v hp':=ih0 _ (vB _) _ _ _ h;intro N K B Q a w hs S hQ;simp only[Im,Ed] at hs;exact nM (Cn hm hE hC m x hs.1 S h1 fun a' w' S'=>hc N K B Q a' w' hs.2 S' hQ)
  | @cond k c x y st t _ _ _ hc h=>
   have hi:Fj P k (if t then x else y) st v hp':=ih0 _ (vB _) _ _ _ h;intro N K B Q a w hs S hQ;simp only[Im,Ed] at hs;have hb:a.eval c= .bool t:=by
    obtain⟨I,m,G,E0,hf,aZ,rX⟩:=S;have:=D0 G hf c;rw[hc] at this;simpa only[Ie] using this
   refine wp_cond hb ?_
   cases t with
   |true=>exact hi N K B Q a w hs.1.2 S hQ
   |false=>exact hi N K B Q a w hs.2 S hQ
  | @block k id c st _ _ _ h=>
   have hc:Fj P k c st v hp':=ih0 _ (vB _) _ _ _ h;intro N K B Q a w hs S hQ;simp only[Im] at hs;exact Aem (hc N K B _ a w hs S fun a' w' hR=>hQ a' w' hR)
  | @scope k c st _ _ _ h=>
   have hc:Fj P k c st v hp':=ih0 _ (vB _) _ _ _ h;intro N K B Q a w hs S hQ;simp only[Im] at hs;exact Aeh (hc N K B _ a w hs S fun a' w' hR=>hQ a' w' hR)
  | @loopN k m c st s n _ _ h1 h=>
   intro N K B Q a w hs S hQ;simp only[Im] at hs;exact V3 hm hE hC (n:=n+1) (fun j hj s h=>ih0 j hj _ _ _ h) N K B Q a w hs S h00 hQ
  | @loopP k c st n _ _ h=>
   intro N K B Q a w hs S hQ;simp only[Im] at hs;exact V3 hm hE hC (n:=n+1) (fun j hj s h=>ih0 j hj _ _ _ h) N K B Q a w hs S h00 hQ
end
end
section
open Go
variable {s:AS}{N:AS->Prop}{t:Bool}{fn:Func}{args rs:List AV}{rvs:List ResultVar}{ts:List TypeId}{n f i:Nat}{o:Oper}{x:Operand}{dd:Option Nat}{X:aS}{PR:Value->Hp->Prop}
def Ends (P:Program)(E:cD)(k:Nat)(call:aS)(c:Code)(st:AS):Ex->AS->Prop
 | .panic v,s=> ∃n hp',gU P E call (.code k c st) n v hp'/\s=⟨fun _=> .any,hp'⟩
 | .normal,s=> ∃n,bP P E k call n c st=some (.normal,s)
 | .exit i,s=> ∃n,bP P E k call n c st=some (.exit i,s)
 | .ret,s=> ∃n,bP P E k call n c st=some (.ret,s)
def W (P:Program)(E:cD)(k:Nat)(call:aS)(c:Code)(st:AS)(Q:Ex->AS->Prop):Prop:= ∃e st',Ends P E k call c st e st'/\Q e st'
def Wo (P:Program)(E:cD)(k:Nat)(call:aS)(all:Array Oper)(os:List Oper)(st:AS)(Q:AS->Prop)(PQ:Value->Hp->Prop):Prop:=
 (∃st',cW P E k call all os st=some st'/\Q st')\/ ∃n v hp',gU P E call (.ops k all os st) n v hp'/\PQ v hp'
def Wp {α:Type}(p:Ia α)(hp:Hp)(Q:α->Hp->Prop):Prop:= ∃v hp',p.run hp=some (v,hp')/\Q v hp'
abbrev mR (Q:Ex->AS->Prop):Value->Hp->Prop:=fun v hp=>Q (.panic v) ⟨fun _=> .any,hp⟩
section
variable {P:Program}{E:cD}{k:Nat}{call:aS}
theorem Dq : ∀(n:Nat) (c:Code) (st s:AS) (v:Value),bP P E k call n c st=some (.panic v,s)->False
 |0,c,st,s,v,h=>by simp[bP] at h
 |n+1,c,st,s,v,h=>by
  cases c with
  |region id ops d=>
   simp only[bP] at h
   cases hr:bR P E k call ops d st with
   |none=>rw[hr] at h;cases h
   |some r=>rw[hr] at h;simp at h
  |seq x y=>
   simp only[bP] at h
   split at h
   ·exact Dq n _ _ _ _ h
   ·exact Dq n _ _ _ _ h
  |cond c x y=>
   simp only[bP] at h
   split at h
   ·split at h
    ·exact Dq n _ _ _ _ h
    ·exact Dq n _ _ _ _ h
   ·cases h
  |block id x=>
   simp only[bP] at h
   split at h
   ·split at h<;>cases h
   ·exact Dq n _ _ _ _ h
  |scope x=>
   simp only[bP] at h;exact Dq n _ _ _ _ h
  |loop x=>
   simp only[bP] at h
   split at h
   ·exact Dq n _ _ _ _ h
   ·exact Dq n _ _ _ _ h
  |_=>simp[bP] at h
theorem gR{c:Code}{st:AS}{e:Ex}{Q:Ex->AS->Prop}(h:bP P E k call n c st=some (e,s))(q:Q e s):W P E k call c st Q:=by
 cases e with
 |normal=>exact⟨.normal,s,⟨n,h⟩,q⟩
 |exit i=>exact⟨.exit i,s,⟨n,h⟩,q⟩
 |ret=>exact⟨.ret,s,⟨n,h⟩,q⟩
 |panic v=>exact(Dq _ _ _ _ _ h).elim
theorem F2{c:Code}{st:AS}{v:Value}{hp':Hp}{Q:Ex->AS->Prop}(h:gU P E call (.code k c st) n v hp')(q:mR Q v hp'):W P E k call c st Q:=⟨.panic v,_,⟨n,hp',h,rfl⟩,q⟩
theorem B4 {c:Code}{st:AS}{Q:Ex->AS->Prop}(h:W P E k call c st Q):(∃n e s,bP P E k call n c st=some (e,s)/\(∀v,e≠ .panic v)/\Q e s)\/ ∃n v hp',gU P E call (.code k c st) n v hp'/\mR Q v hp':=by
 obtain⟨e,s,h1,h2⟩:=h
 cases e with
 |normal=>obtain⟨n,h1⟩:=h1;exact .inl ⟨n,_,s,h1,nofun,h2⟩
 |exit i=>obtain⟨n,h1⟩:=h1;exact .inl ⟨n,_,s,h1,nofun,h2⟩
 |ret=>obtain⟨n,h1⟩:=h1;exact .inl ⟨n,_,s,h1,nofun,h2⟩
 |panic v=>obtain⟨n,hp',h1,rfl⟩:=h1;exact .inr ⟨n,v,hp',h1,h2⟩
theorem W.mono {c:Code}{st:AS}{Q Q':Ex->AS->Prop}(h:W P E k call c st Q)(hq: ∀e s,Q e s->Q' e s):W P E k call c st Q':=by
 obtain⟨e,s,h1,h2⟩:=h;exact⟨e,s,h1,hq _ _ h2⟩
theorem J5 {st:AS}{Q:Ex->AS->Prop}(h:Q .normal st):W P E k call .skip st Q:=gR (n:=1) rfl h
theorem Dg {l:Nat}{st:AS}{Q:Ex->AS->Prop}(h:Q .normal st):W P E k call (.label l) st Q:=gR (n:=1) rfl h
theorem J6 {id:Nat}{st:AS}{Q:Ex->AS->Prop}(h:Q (.exit id) st):W P E k call (.exit id) st Q:=gR (n:=1) rfl h
theorem P2 {st:AS}{Q:Ex->AS->Prop}(h:Q .ret st):W P E k call .ret st Q:=gR (n:=1) rfl h
theorem Yf {id:Nat}{ops:Array Oper}{st:AS}{Q:Ex->AS->Prop}(h:Wo P E k call ops ops.toList st (Q .normal) (mR Q)):W P E k call (.region id ops false) st Q:=by
 rcases h with⟨st',h1,h2⟩|⟨n,v,hp',h1,h2⟩
 ·exact gR (n:=1) (by simp[bP,bR,h1]) h2
 ·exact F2 (.region h1) h2
def lO (N:AS->Prop)(Q:Ex->AS->Prop):Ex->AS->Prop
 | .normal,s=>N s
 |e,s=>Q e s
theorem F0 {a b:Code}{st:AS}{Q:Ex->AS->Prop}(h:W P E k call a st (lO (fun s=>W P E k call b s Q) Q)):W P E k call (.seq a b) st Q:=by
 rcases B4 h with⟨n,e,s,h1,_,h2⟩|⟨n,v,hp',h1,h2⟩
 ·cases e with
  |normal=>
   rcases B4 h2 with⟨m,e',s',h3,_,h4⟩|⟨m,v,hp',h3,h4⟩
   ·refine gR (n:=max n m+1) ?_ h4
    simp only[bP];rw[Cz (.refl call) n (max n m) (AB ..) _ _ _ h1];exact Cz (.refl call) m (max n m) (AE ..) _ _ _ h3
   ·exact F2 (.seqR h1 h3) h4
  |exit i=>exact gR (n:=n+1) (by simp only[bP];rw[h1]) h2
  |ret=>exact gR (n:=n+1) (by simp only[bP];rw[h1]) h2
  |panic v=>exact(Dq _ _ _ _ _ h1).elim
 ·exact F2 (.seqL h1) h2
theorem EP {c:Operand}{a b:Code}{st:AS}{Q:Ex->AS->Prop}(hc:Uy st.fr c= .sc (.bool t))(h:W P E k call (if t then a else b) st Q):W P E k call (.cond c a b) st Q:=by
 rcases B4 h with⟨n,e,s,h1,_,h2⟩|⟨n,v,hp',h1,h2⟩
 ·refine gR (n:=n+1) ?_ h2
  simp only[bP,hc]
  cases t<;>simpa using h1
 ·exact F2 (.cond hc h1) h2
def eM (id:Nat)(Q:Ex->AS->Prop):Ex->AS->Prop
 | .exit i,s=>if i=id then Q .normal s else Q (.exit i) s
 |e,s=>Q e s
theorem Gn {id:Nat}{c:Code}{st:AS}{Q:Ex->AS->Prop}(h:W P E k call c st (eM id Q)):W P E k call (.block id c) st Q:=by
 rcases B4 h with⟨n,e,s,h1,_,h2⟩|⟨n,v,hp',h1,h2⟩
 ·cases e with
  |normal=>exact gR (n:=n+1) (by simp only[bP];rw[h1]) h2
  |ret=>exact gR (n:=n+1) (by simp only[bP];rw[h1]) h2
  |panic v=>exact(Dq _ _ _ _ _ h1).elim
  |exit i=>
   by_cases hi:i=id
   ·simp only[eM,hi,iW] at h2
    exact gR (n:=n+1) (e:= .normal) (by simp only[bP];rw[h1];simp[hi]) h2
   ·simp only[eM,hi,lJ] at h2
    exact gR (n:=n+1) (e:= .exit i) (by simp only[bP];rw[h1];simp[hi]) h2
 ·exact F2 (.block h1) h2
theorem Dr {c:Code}{st:AS}{Q:Ex->AS->Prop}(h:W P E k call c st Q):W P E k call (.scope c) st Q:=by
 rcases B4 h with⟨n,e,s,h1,_,h2⟩|⟨n,v,hp',h1,h2⟩
 ·exact gR (n:=n+1) (by simp only[bP];exact h1) h2
 ·exact F2 (.scope h1) h2
theorem K7a {c:Code}{st:AS}{Q:Ex->AS->Prop}(h:W P E k call c st (lO (fun s=>W P E k call (.loop c) s Q) Q)):W P E k call (.loop c) st Q:=by
 rcases B4 h with⟨n,e,s,h1,_,h2⟩|⟨n,v,hp',h1,h2⟩
 ·cases e with
  |normal=>
   rcases B4 h2 with⟨m,e',s',h3,_,h4⟩|⟨m,v,hp',h3,h4⟩
   ·refine gR (n:=max n m+1) ?_ h4
    simp only[bP];rw[Cz (.refl call) n (max n m) (AB ..) _ _ _ h1];exact Cz (.refl call) m (max n m) (AE ..) _ _ _ h3
   ·exact F2 (.loopN h1 h3) h4
  |exit i=>exact gR (n:=n+1) (by simp only[bP];rw[h1]) h2
  |ret=>exact gR (n:=n+1) (by simp only[bP];rw[h1]) h2
  |panic v=>exact(Dq _ _ _ _ _ h1).elim
 ·exact F2 (.loopP h1) h2
theorem W_loop {c:Code}{st:AS}{Q:Ex->AS->Prop}(I:Nat->AS->Prop)(h0:I n st)(round: ∀n s,I n s->W P E k call c s (lO (fun s'=> ∃m,m<n/\I m s') Q)):W P E k call (.loop c) st Q:=by
 induction n using Nat.strongRecOn generalizing st with
 |_ n ih=>
  refine K7a ((round n st h0).mono fun e s h=>?_)
  cases e with
  |normal=>obtain⟨m,hm,hI⟩:=h;exact ih m hm hI
  |exit i=>exact h
  |ret=>exact h
  |panic v=>exact h
theorem L5 {all:Array Oper}{st:AS}{Q:AS->Prop}{PQ:Value->Hp->Prop}(h:Q st):Wo P E k call all [] st Q PQ:= .inl ⟨st,rfl,h⟩
theorem Jb {all:Array Oper}{os:List Oper}{st:AS}{Q:AS->Prop}{PQ:Value->Hp->Prop}(hg:bD all st.fr o=some true)(h:Wp (bL P E k call st.fr o) st.hp fun v hp=>Wo P E k call all os ⟨Uw st.fr o.dst v,hp⟩ Q PQ):Wo P E k call all (o::os) st Q PQ:=by
 obtain⟨v,hp,h1,h⟩:=h;rcases h with⟨st',h2,h3⟩|⟨n,v',hp',h2,h3⟩
 ·exact .inl ⟨st',by simp only[cW,hg,h1,h2],h3⟩
 ·exact .inr ⟨n+1,v',hp',.step hg h1 h2,h3⟩
theorem Nd {all:Array Oper}{os:List Oper}{st:AS}{Q:AS->Prop}{PQ:Value->Hp->Prop}(hg:bD all st.fr o=some false)(h:Wo P E k call all os ⟨Uw st.fr o.dst (.sc undef),st.hp⟩ Q PQ):Wo P E k call all (o::os) st Q PQ:=by
 rcases h with⟨st',h2,h3⟩|⟨n,v',hp',h2,h3⟩
 ·exact .inl ⟨st',by simp only[cW,hg,h2],h3⟩
 ·exact .inr ⟨n+1,v',hp',.skip hg h2,h3⟩
section
variable {α β:Type}{hp:Hp}
end
def Ex.fine :Ex->Bool
 | .normal=>true
 | .ret=>true
 |_=>false
@[simp] theorem fine_normal :Ex.normal.fine=true:=rfl
@[simp] theorem fine_ret :Ex.ret.fine=true:=rfl
theorem fn_of{c:Code}(hf:P.funcs[f]?=some fn)(hx:X.dat f args=none)(hb:fn.body=some c)(Uz:Bb fn=true)(hl:args.length=fn.params.size+fn.nfree)
  (h:W P E 0 (eP P E X) c ⟨Uh args,U9⟩ fun e st=>e.fine=true/\Wp (aN P st.fr fn.resultTypes.toList fn.results.toList) st.hp fun v _=>v=rs):(eP P E X).dat f args=some rs:=by
 rcases B4 h with⟨n,e,st,h1,_,Ir,v,hp',h2,rfl⟩|⟨n,v,hp',h1,h2,_⟩
 ·refine Al (n:=n) hf hx ?_
  unfold tF;rw[hb];simp only[Uz,hl,GO,Ade,iW];rw[h1]
  cases e with
  |exit i=>simp[Ex.fine] at Ir
  |panic v=>simp[Ex.fine] at Ir
  |normal=>simp[h2]
  |ret=>simp[h2]
 ·simp[Ex.fine] at h2
def xW (P:Program)(ts:List TypeId)(rvs:List ResultVar)(R:List AV->Prop):Ex->AS->Prop
 | .exit _,_=>False
 | .panic _,_=>False
 |_,st=> ∃rs hp',(aN P st.fr ts rvs).run st.hp=some (rs,hp')/\R rs
theorem F3{R:List AV->Prop}{st:AS}{hp':Hp}(h:(aN P st.fr ts rvs).run st.hp=some (rs,hp'))(hr:R rs):xW P ts rvs R .ret st:=⟨rs,hp',h,hr⟩
theorem fnW{c:Code}(hf:P.funcs[f]?=some fn)(hx:X.dat f args=none)(hb:fn.body=some c)(Uz:Bb fn=true)(hl:args.length=fn.params.size+fn.nfree)
  (ht:Iv P f=ts) (mK:fn.results.toList=rvs) (h:W P E 0 (eP P E X) c ⟨Uh args,U9⟩ (xW P ts rvs (· =rs))):(eP P E X).dat f args=some rs:=by
 refine fn_of hf hx hb Uz hl (h.mono fun e st hq=>?_);have ht:fn.resultTypes.toList=ts:=by rw[<-ht];simp[Iv,hf]
 subst ht mK
 cases e with
 |exit i=>exact hq.elim
 |panic v=>exact hq.elim
 |normal=>obtain⟨rs',hp',h1,h2⟩:=hq;exact⟨rfl,rs',hp',h1,h2⟩
 |ret=>obtain⟨rs',hp',h1,h2⟩:=hq;exact⟨rfl,rs',hp',h1,h2⟩
theorem fW{c:Code}(hf:P.funcs[f]?=some fn)(hx:X.dat f args=none)(h:W P E 0 (eP P E X) c ⟨Uh args,U9⟩ (xW P ts rvs (· =rs)))(hb:fn.body=some c:=by exact rfl)(Uz:Bb fn=true:=by exact Zf)(hl:args.length=fn.params.size+fn.nfree:=by exact rfl)(ht:Iv P f=ts:=by(conv=>lhs;simp -implicitDefEqProofs)<;>exact rfl)(mK:fn.results.toList=rvs:=by(conv=>lhs;simp -implicitDefEqProofs)<;>exact rfl):(eP P E X).dat f args=some rs:=fnW hf hx hb Uz hl ht mK h
theorem fnR{c:Code}{R:List AV->Prop}(hf:P.funcs[f]?=some fn)(hx:X.dat f args=none)(hb:fn.body=some c)(Uz:Bb fn=true)(hl:args.length=fn.params.size+fn.nfree)
  (ht:Iv P f=ts) (mK:fn.results.toList=rvs) (h:W P E 0 (eP P E X) c ⟨Uh args,U9⟩ (xW P ts rvs R)): ∃rs,(eP P E X).dat f args=some rs/\R rs:=by
 obtain⟨e,st,h1,h2⟩:=h
 cases e with
 |exit i=>exact h2.elim
 |panic v=>exact h2.elim
 |normal=>obtain⟨rs,hp',h3,h4⟩:=h2;exact⟨rs,fnW hf hx hb Uz hl ht mK ⟨.normal,st,h1,rs,hp',h3,rfl⟩,h4⟩
 |ret=>obtain⟨rs,hp',h3,h4⟩:=h2;exact⟨rs,fnW hf hx hb Uz hl ht mK ⟨.ret,st,h1,rs,hp',h3,rfl⟩,h4⟩
theorem fR{c:Code}{R:List AV->Prop}(hf:P.funcs[f]?=some fn)(hx:X.dat f args=none)(h:W P E 0 (eP P E X) c ⟨Uh args,U9⟩ (xW P ts rvs R))(hb:fn.body=some c:=by exact rfl)(Uz:Bb fn=true:=by exact Zf)(hl:args.length=fn.params.size+fn.nfree:=by exact rfl)(ht:Iv P f=ts:=by(conv=>lhs;simp -implicitDefEqProofs)<;>exact rfl)(mK:fn.results.toList=rvs:=by(conv=>lhs;simp -implicitDefEqProofs)<;>exact rfl): ∃rs,(eP P E X).dat f args=some rs/\R rs:=fnR hf hx hb Uz hl ht mK h
end
/-! ### rules for code in sequence -/
section
variable {P:Program}{E:cD}{k:Nat}{call:aS}{a b c d:Code}{st st':AS}{Q:Ex->AS->Prop}{id:Nat}{ops:Array Oper}{fs:List gZ}
theorem W_rd (h:aG P E.dry k call ops ops.toList st []=some (st',fs))(hs:K3 ops=true)(hf:Gu ops fs=true)(hq:Q .normal st'):W P E k call (.region id ops true) st Q:=
 gR (n:=1) (by simp[bP,bR,h,hs,hf]) hq
theorem W_srd (h:aG P E.dry k call ops ops.toList st []=some (st',fs))(hs:K3 ops=true)(hf:Gu ops fs=true)(hb:W P E k call b st' Q):W P E k call (.seq (.region id ops true) b) st Q:=F0 (W_rd h hs hf hb)
theorem Ej (h:W P E k call (.seq a b) st Q):W P E k call a st (lO (fun s=>W P E k call b s Q) Q):=by
 rcases B4 h with⟨n,e,s,h1,_,h2⟩|⟨n,v,hp',h1,h2⟩
 ·cases n with
  |zero=>simp[bP] at h1
  |succ n=>
   simp only[bP] at h1
   cases ha:bP P E k call n a st with
   |none=>rw[ha] at h1;cases h1
   |some r=>
    obtain⟨ea,sa⟩:=r;rw[ha] at h1
    cases ea with
    |normal=>exact gR ha (show W P E k call b sa Q from gR h1 h2)
    |exit i=>cases h1;exact gR ha h2
    |ret=>cases h1;exact gR ha h2
    |panic v=>exact(Dq _ _ _ _ _ ha).elim
 ·cases h1 with
  |seqL h3=>exact F2 h3 h2
  |seqR h3 h4=>exact gR h3 (show W P E k call b _ Q from F2 h4 h2)
theorem zZ (h:W P E k call (.seq a (.seq b c)) st Q):W P E k call (.seq (.seq a b) c) st Q:=by
 refine F0 (F0 ((Ej h).mono fun e s hs=>?_))
 cases e with
 |normal=>exact(Ej hs).mono fun e s hs=>by cases e<;>exact hs
 |exit i=>exact hs
 |ret=>exact hs
 |panic v=>exact hs
theorem W_sc(hc:Uy st.fr x= .sc (.bool t))(h1:t=true->t=true->W P E k call (.seq a d) st Q)(h2:t=false->t=false->W P E k call (.seq b d) st Q):W P E k call (.seq (.cond x a b) d) st Q:=by
 refine F0 (EP hc ?_)
 cases t with
 |true=>exact Ej (h1 rfl rfl)
 |false=>exact Ej (h2 rfl rfl)
theorem W_c(hc:Uy st.fr x= .sc (.bool t))(h1:t=true->t=true->W P E k call a st Q)(h2:t=false->t=false->W P E k call b st Q):W P E k call (.cond x a b) st Q:=by
 refine EP hc ?_
 cases t with
 |true=>exact h1 rfl rfl
 |false=>exact h2 rfl rfl
theorem Jc (h:W P E k call b st Q):W P E k call (.seq .skip b) st Q:=F0 (J5 h)
theorem C0 {l:Nat}(h:W P E k call b st Q):W P E k call (.seq (.label l) b) st Q:=F0 (Dg h)
theorem L6 (h:Q .ret st):W P E k call (.seq .ret b) st Q:=F0 (P2 h)
theorem Jd (h:Q (.exit id) st):W P E k call (.seq (.exit id) b) st Q:=F0 (J6 h)
theorem F1 (h:W P E k call a st (eM id (lO (fun s=>W P E k call b s Q) Q))):W P E k call (.seq (.block id a) b) st Q:=F0 (Gn h)
end
theorem Ac {P:Program}{E:cD}{k:Nat}{call:aS}{c:Code}{st:AS}{Q:Ex->AS->Prop}(I:AS->Nat->AS->Prop)(h0:I st n st)(round: ∀n s,I st n s->W P E k call c s (lO (fun s'=> ∃m,m<n/\I st m s') Q)):W P E k call (.loop c) st Q:=
 W_loop (I st) h0 round
theorem Hsa {P:Program}{E:cD}{k d:Nat}{c:Code}{hp:Hp}{R:AV->Hp->Prop}(hf:P.funcs[f]?=some fn)(hx:X.hpc k d f args hp=none)(hb:fn.body=some c)(Uz:Bb fn=true)(hl:args.length=fn.params.size+fn.nfree)
  (mK:fn.results.toList=rvs) (h:W P E (k+1) (eP P E X) c ⟨Uh args,hp⟩ fun e st=>e.fine=true/\ ∃v hp',(dU P st.fr k d rvs).run st.hp=some (v,hp')/\R v hp') (hi:E.inl f=false:=by first|rfl|simp) (hz:E.frz f=false:=by first|rfl|simp): ∃v hp',(eP P E X).hpc k d f args hp=some (v,hp')/\R v hp':=by
 rcases B4 h with⟨n,e,st,h1,_,Ir,v,hp',h2,h3⟩|⟨n,v,hp',h1,h2,_⟩
 ·refine⟨v,hp',KQ (n:=n) hf hx ?_ hi hz,h3⟩
  unfold nJ;rw[hb,mK];simp only[Uz,hl,GO,Ade,iW];rw[h1]
  cases e with
  |exit i=>simp[Ex.fine] at Ir
  |panic v=>simp[Ex.fine] at Ir
  |normal=>exact h2
  |ret=>exact h2
 ·simp[Ex.fine] at h2
theorem Hra {P:Program}{E:cD}{k d:Nat}{c:Code}{hp:Hp}{R:AV->Hp->Prop}(hf:P.funcs[f]?=some fn)(hx:X.hpc k d f args hp=none)(hb:fn.body=some c)(Uz:Bb fn=true)(hl:args.length=fn.params.size+fn.nfree)
  (mK:fn.results.toList=rvs) (ht:Iv P f=ts) (h:W P E (k+1) (eP P E X) c ⟨Uh args,hp⟩ fun e st=>e.fine=true/\ ∃v hp',(mB P st.fr ts rvs).run st.hp=some (v,hp')/\R v hp') (hi:E.inl f=false:=by first|rfl|simp) (hz:E.frz f=true:=by first|rfl|simp): ∃v hp',(eP P E X).hpc k d f args hp=some (v,hp')/\R v hp':=by
 have hts:fn.resultTypes.toList=ts:=by rw[<-ht];simp[Iv,hf]
 rcases B4 h with⟨n,e,st,h1,_,Ir,v,hp',h2,h3⟩|⟨n,v,hp',h1,h2,_⟩
 ·refine⟨v,hp',KO (n:=n) hf hx ?_ hi hz,h3⟩
  unfold nH;rw[hb,mK,hts];simp only[Uz,hl,GO,Ade,iW];rw[h1]
  cases e with
  |exit i=>simp[Ex.fine] at Ir
  |panic v=>simp[Ex.fine] at Ir
  |normal=>exact h2
  |ret=>exact h2
 ·simp[Ex.fine] at h2
theorem Hta {P:Program}{E:cD}{k d:Nat}{c:Code}{hp:Hp}{R:AV->Hp->Prop}(hf:P.funcs[f]?=some fn)(hx:X.hpc k d f args hp=none)(hb:fn.body=some c)(Uz:Bb fn=true)(hl:args.length=fn.params.size+fn.nfree)
  (mK:fn.results.toList=rvs) (h:W P (E.at ((d+1)*1000)) k (eP P E X) c ⟨Uh args,hp⟩ fun e st=>e.fine=true/\ ∃v hp',(lT P st.fr rvs).run st.hp=some (v,hp')/\R v hp') (hi:E.inl f=true:=by first|rfl|simp): ∃v hp',(eP P E X).hpc k d f args hp=some (v,hp')/\R v hp':=by
 rcases B4 h with⟨n,e,st,h1,_,Ir,v,hp',h2,h3⟩|⟨n,v,hp',h1,h2,_⟩
 ·refine⟨v,hp',KP (n:=n) hf hx ?_ hi,h3⟩
  unfold nI;rw[hb,mK];simp only[Uz,hl,GO,Ade,iW];rw[h1]
  cases e with
  |exit i=>simp[Ex.fine] at Ir
  |panic v=>simp[Ex.fine] at Ir
  |normal=>exact h2
  |ret=>exact h2
 ·simp[Ex.fine] at h2
def wB (P:Program)(k d:Nat)(rvs:List ResultVar)(R:AV->Hp->Prop)(PR:Value->Hp->Prop):Ex->AS->Prop
 | .exit _,_=>False
 | .panic v,st=>PR v st.hp
 |_,st=> ∃v hp',(dU P st.fr k d rvs).run st.hp=some (v,hp')/\R v hp'
theorem Hua {P:Program}{E:cD}{k d:Nat}{c:Code}{hp:Hp}{R:AV->Hp->Prop}(hf:P.funcs[f]?=some fn)(hx:X.hpc k d f args hp=none)(hb:fn.body=some c)(Uz:Bb fn=true)(hl:args.length=fn.params.size+fn.nfree)
  (mK:fn.results.toList=rvs) (h:W P E (k+1) (eP P E X) c ⟨Uh args,hp⟩ (wB P k d rvs R PR)) (hi:E.inl f=false:=by first|rfl|simp) (hz:E.frz f=false:=by first|rfl|simp):
  (∃v hp',(eP P E X).hpc k d f args hp=some (v,hp')/\R v hp')\/ ∃n v hp',gU P E (eP P E X) (.fn k f args hp) n v hp'/\PR v hp':=by
 rcases B4 h with⟨n,e,st,h1,hnp,h2⟩|⟨n,v,hp',h1,h2⟩
 ·left
  have key:e.fine=true/\ ∃v hp',(dU P st.fr k d rvs).run st.hp=some (v,hp')/\R v hp':=by
   cases e with
   |exit i=>exact h2.elim
   |panic v=>exact(hnp v rfl).elim
   |normal=>exact⟨rfl,h2⟩
   |ret=>exact⟨rfl,h2⟩
  exact Hsa hf hx hb Uz hl mK (gR h1 key) hi hz
 ·exact .inr ⟨n+1,v,hp',.fn hf hb Uz hl h1,h2⟩
def Yj (P:Program)(ts:List TypeId)(rvs:List ResultVar)(R:AV->Hp->Prop)(PR:Value->Hp->Prop):Ex->AS->Prop
 | .exit _,_=>False
 | .panic v,st=>PR v st.hp
 |_,st=> ∃v hp',(mB P st.fr ts rvs).run st.hp=some (v,hp')/\R v hp'
theorem Eba {P:Program}{E:cD}{k d:Nat}{c:Code}{hp:Hp}{R:AV->Hp->Prop}(hf:P.funcs[f]?=some fn)(hx:X.hpc k d f args hp=none)(hb:fn.body=some c)(Uz:Bb fn=true)(hl:args.length=fn.params.size+fn.nfree)
  (mK:fn.results.toList=rvs) (ht:Iv P f=ts) (h:W P E (k+1) (eP P E X) c ⟨Uh args,hp⟩ (Yj P ts rvs R PR)) (hi:E.inl f=false:=by first|rfl|simp) (hz:E.frz f=true:=by first|rfl|simp):
  (∃v hp',(eP P E X).hpc k d f args hp=some (v,hp')/\R v hp')\/ ∃n v hp',gU P E (eP P E X) (.fn k f args hp) n v hp'/\PR v hp':=by
 rcases B4 h with⟨n,e,st,h1,hnp,h2⟩|⟨n,v,hp',h1,h2⟩
 ·left
  have key:e.fine=true/\ ∃v hp',(mB P st.fr ts rvs).run st.hp=some (v,hp')/\R v hp':=by
   cases e with
   |exit i=>exact h2.elim
   |panic v=>exact(hnp v rfl).elim
   |normal=>exact⟨rfl,h2⟩
   |ret=>exact⟨rfl,h2⟩
  exact Hra hf hx hb Uz hl mK ht (gR h1 key) hi hz
 ·exact .inr ⟨n+1,v,hp',.fn hf hb Uz hl h1,h2⟩
theorem Bu {n:Int}(h1: -9223372036854775808<=n)(h2:n<=9223372036854775807):IntKind.i64.wrap n=n:=IntWalk.i64_in n ⟨h1,h2⟩
/-! ### one operation at a time -/
section
variable {P:Program}{E:cD}{k:Nat}{call:aS}{all:Array Oper}{os l:List Oper}{fr:Nat->AV}{hp hp':Hp}{Q:AS->Prop}{d d' j id:Nat}{op:Op}{ty:TypeId}{pos:String}{aft:Array Edge}{v:AV}{b c:Bool}{fs:List gZ}{R W':List I8}{st:AS}{B:Code}{QQ:Ex->AS->Prop}{PQ:Value->Hp->Prop}
theorem Si (h:Wo P E k call l.toArray l st (fun s=>W P E k call B s QQ) (mR QQ)):W P E k call (.seq (.region id l.toArray false) B) st QQ:=by
 refine F0 (Yf ?_);rcases h with⟨st',h1,h2⟩|⟨n,v,hp',h1,h2⟩
 ·exact .inl ⟨st',by simpa using h1,h2⟩
 ·exact .inr ⟨n,v,hp',by simpa using h1,h2⟩
theorem AA (h:Wo P E k call l.toArray l st (QQ .normal) (mR QQ)):W P E k call (.region id l.toArray false) st QQ:=by
 refine Yf ?_;rcases h with⟨st',h1,h2⟩|⟨n,v,hp',h1,h2⟩
 ·exact .inl ⟨st',by simpa using h1,h2⟩
 ·exact .inr ⟨n,v,hp',by simpa using h1,h2⟩
theorem zX (h:(bL P E k call fr ⟨some d,op,ty,pos,aft,none⟩).run hp=some (v,hp'))(r:Wo P E k call all os ⟨Uw fr (some d) v,hp'⟩ Q PQ):Wo P E k call all (⟨some d,op,ty,pos,aft,none⟩::os) ⟨fr,hp⟩ Q PQ:=Jb rfl ⟨v,hp',h,r⟩
theorem zY (h:(bL P E k call fr ⟨none,op,ty,pos,aft,none⟩).run hp=some (v,hp'))(r:Wo P E k call all os ⟨fr,hp'⟩ Q PQ):Wo P E k call all (⟨none,op,ty,pos,aft,none⟩::os) ⟨fr,hp⟩ Q PQ:=Jb rfl ⟨v,hp',h,r⟩
theorem EJ (hd:(all[j]?).bind (·.dst)=some d')(hc:fr d'= .sc (.bool c))(ht:c=true->c=true-> ∃v hp',(bL P E k call fr ⟨some d,op,ty,pos,aft,some (j,true)⟩).run hp=some (v,hp')/\Wo P E k call all os ⟨Uw fr (some d) v,hp'⟩ Q PQ)
  (hf:c=false->c=false->Wo P E k call all os ⟨Uw fr (some d) (.sc undef),hp⟩ Q PQ):Wo P E k call all (⟨some d,op,ty,pos,aft,some (j,true)⟩::os) ⟨fr,hp⟩ Q PQ:=by
 cases c with
 |true=>
  obtain⟨v,hp',h,r⟩:=ht rfl rfl;exact Jb (by simp only[bD,hd,hc,GO]) ⟨v,hp',h,r⟩
 |false=>exact Nd (by simp only[bD,hd,hc];rfl) (hf rfl rfl)
theorem EL (hd:(all[j]?).bind (·.dst)=some d')(hc:fr d'= .sc (.bool c))(ht:c=false->c=false-> ∃v hp',(bL P E k call fr ⟨some d,op,ty,pos,aft,some (j,false)⟩).run hp=some (v,hp')/\Wo P E k call all os ⟨Uw fr (some d) v,hp'⟩ Q PQ)
  (hf:c=true->c=true->Wo P E k call all os ⟨Uw fr (some d) (.sc undef),hp⟩ Q PQ):Wo P E k call all (⟨some d,op,ty,pos,aft,some (j,false)⟩::os) ⟨fr,hp⟩ Q PQ:=by
 cases c with
 |false=>
  obtain⟨v,hp',h,r⟩:=ht rfl rfl;exact Jb (by simp only[bD,hd,hc,GO]) ⟨v,hp',h,r⟩
 |true=>exact Nd (by simp only[bD,hd,hc];rfl) (hf rfl rfl)
theorem Sf (hd:(all[j]?).bind (·.dst)=some d')(hc:fr d'= .sc (.bool b))(h:(bL P E k call fr ⟨some d,op,ty,pos,aft,some (j,b)⟩).run hp=some (v,hp'))(r:Wo P E k call all os ⟨Uw fr (some d) v,hp'⟩ Q PQ):Wo P E k call all (⟨some d,op,ty,pos,aft,some (j,b)⟩::os) ⟨fr,hp⟩ Q PQ:=
 Jb (by simp only[bD,hd,hc,GO]) ⟨v,hp',h,r⟩
theorem Sg (hd:(all[j]?).bind (·.dst)=some d')(hc:fr d'= .sc (.bool c))(hcb:(c==b)=false)(r:Wo P E k call all os ⟨Uw fr (some d) (.sc undef),hp⟩ Q PQ):Wo P E k call all (⟨some d,op,ty,pos,aft,some (j,b)⟩::os) ⟨fr,hp⟩ Q PQ:=
 Nd (by simp only[bD,hd,hc,hcb]) r
theorem Se {us:List Value}(hd:(all[j]?).bind (·.dst)=some d')(hc:fr d'= .sc (.tuple ⟨us⟩))(r:Wo P E k call all os ⟨Uw fr (some d) (.sc undef),hp⟩ Q PQ):Wo P E k call all (⟨some d,op,ty,pos,aft,some (j,b)⟩::os) ⟨fr,hp⟩ Q PQ:=
 Nd (by simp only[bD,hd,hc]) r
theorem Wo_pc{args:Array Operand}{ats:Array TypeId}{cs:List AV}(hx:Uy fr x= .fn f cs)(Uz:Il P f=true)(Ii:f<1000000)
  (h:(∃v hp',(bL P E k call fr ⟨dd,.call ⟨.value x,args,ats⟩,ty,pos,aft,none⟩).run hp=some (v,hp')/\Wo P E k call all os ⟨Uw fr dd v,hp'⟩ Q PQ)\/ ∃n v hp',gU P E call (.fn k f (args.toList.map (Uy fr)++cs) hp) n v hp'/\PQ v hp'):
  Wo P E k call all (⟨dd,.call ⟨.value x,args,ats⟩,ty,pos,aft,none⟩::os) ⟨fr,hp⟩ Q PQ:=by
 rcases h with⟨v,hp',h1,h2⟩|⟨n,v,hp',h1,h2⟩
 ·exact Jb rfl ⟨v,hp',h1,h2⟩
 ·exact .inr ⟨n+1,v,hp',.call rfl rfl hx Uz Ii h1,h2⟩
theorem Fz{t:TypeId}{u:Value}(hx:Uy fr x= .sc (.iface t u))(h:PQ (.iface t u) hp):Wo P E k call all (⟨dd,.panic x,ty,pos,aft,none⟩::os) ⟨fr,hp⟩ Q PQ:=
 .inr ⟨1,_,_,.panic (n:=0) rfl rfl hx,h⟩
def Wd (P:Program)(E:cD)(k:Nat)(call:aS)(all:Array Oper)(os:List Oper)(st:AS)(fs:List gZ)(Q:AS->Prop):Prop:= ∃st' fs',aG P E k call all os st fs=some (st',fs')/\Gu all fs'=true/\Q st'
theorem Cb (hs:K3 l.toArray=true)(h:Wd P E.dry k call l.toArray l st [] (fun s=>W P E k call B s QQ)):W P E k call (.seq (.region id l.toArray true) B) st QQ:=by
 obtain⟨st',fs',h1,h2,h3⟩:=h;exact W_srd (by simpa using h1) hs h2 h3
theorem Fi (hs:K3 l.toArray=true)(h:Wd P E.dry k call l.toArray l st [] (QQ .normal)):W P E k call (.region id l.toArray true) st QQ:=by
 obtain⟨st',fs',h1,h2,h3⟩:=h;exact W_rd (by simpa using h1) hs h2 h3
theorem A7 (hf:Gu all fs.reverse=true)(q:Q st):Wd P E k call all [] st fs Q:=⟨st,fs.reverse,rfl,hf,q⟩
theorem gP (h:(bL P E k call fr ⟨some d,op,ty,pos,aft,none⟩).runF hp [] []=some (v,hp',R,W'))(r:Wd P E k call all os ⟨Uw fr (some d) v,hp'⟩ (⟨R,gG E k hp hp' W'⟩::fs) Q):Wd P E k call all (⟨some d,op,ty,pos,aft,none⟩::os) ⟨fr,hp⟩ fs Q:=by
 obtain⟨st',fs',h1,h2⟩:=r;exact⟨st',fs',by simp only[aG,eK,bD,h];exact h1,h2⟩
theorem gQ (h:(bL P E k call fr ⟨none,op,ty,pos,aft,none⟩).runF hp [] []=some (v,hp',R,W'))(r:Wd P E k call all os ⟨fr,hp'⟩ (⟨R,gG E k hp hp' W'⟩::fs) Q):Wd P E k call all (⟨none,op,ty,pos,aft,none⟩::os) ⟨fr,hp⟩ fs Q:=by
 obtain⟨st',fs',h1,h2⟩:=r;exact⟨st',fs',by simp only[aG,eK,bD,h];exact h1,h2⟩
theorem EN (hd:(all[j]?).bind (·.dst)=some d')(hc:fr d'= .sc (.bool c))(ht:c=true->c=true-> ∃v hp' R W',(bL P E k call fr ⟨some d,op,ty,pos,aft,some (j,true)⟩).runF hp [] []=some (v,hp',R,W')/\Wd P E k call all os ⟨Uw fr (some d) v,hp'⟩ (⟨R,gG E k hp hp' W'⟩::fs) Q)
  (hf:c=false->c=false->Wd P E k call all os ⟨Uw fr (some d) (.sc undef),hp⟩ (⟨[],[]⟩::fs) Q):Wd P E k call all (⟨some d,op,ty,pos,aft,some (j,true)⟩::os) ⟨fr,hp⟩ fs Q:=by
 cases c with
 |true=>
  obtain⟨v,hp',R,W',h,st',fs',h1,h2⟩:=ht rfl rfl;exact⟨st',fs',by simp only[aG,eK,bD,hd,hc,h,GO];exact h1,h2⟩
 |false=>
  obtain⟨st',fs',h1,h2⟩:=hf rfl rfl;exact⟨st',fs',by simp only[aG,eK,bD,hd,hc];exact h1,h2⟩
theorem EO (hd:(all[j]?).bind (·.dst)=some d')(hc:fr d'= .sc (.bool c))(ht:c=false->c=false-> ∃v hp' R W',(bL P E k call fr ⟨some d,op,ty,pos,aft,some (j,false)⟩).runF hp [] []=some (v,hp',R,W')/\Wd P E k call all os ⟨Uw fr (some d) v,hp'⟩ (⟨R,gG E k hp hp' W'⟩::fs) Q)
  (hf:c=true->c=true->Wd P E k call all os ⟨Uw fr (some d) (.sc undef),hp⟩ (⟨[],[]⟩::fs) Q):Wd P E k call all (⟨some d,op,ty,pos,aft,some (j,false)⟩::os) ⟨fr,hp⟩ fs Q:=by
 cases c with
 |false=>
  obtain⟨v,hp',R,W',h,st',fs',h1,h2⟩:=ht rfl rfl;exact⟨st',fs',by simp only[aG,eK,bD,hd,hc,h,GO];exact h1,h2⟩
 |true=>
  obtain⟨st',fs',h1,h2⟩:=hf rfl rfl;exact⟨st',fs',by simp only[aG,eK,bD,hd,hc];exact h1,h2⟩
theorem ex2 {α β:Type}{p:Option (α×β)}{G:α->β->Prop}{v:α}{h:β}(e:p=some (v,h))(g:G v h): ∃v h,p=some (v,h)/\G v h:=⟨v,h,e,g⟩
theorem ex4 {α β γ δ:Type}{p:Option (α×β×γ×δ)}{G:α->β->γ->δ->Prop}{v:α}{h:β}{r:γ}{w:δ}(e:p=some (v,h,r,w))(g:G v h r w): ∃v h r w,p=some (v,h,r,w)/\G v h r w:=⟨v,h,r,w,e,g⟩
end
/-! ### rules for the symbolic end -/
theorem Hy{Q:Ex->AS->Prop}(h:N s):lO N Q .normal s:=h
theorem Hw{Q:Ex->AS->Prop}(h:Q .ret s):lO N Q .ret s:=h
theorem Hx{Q:Ex->AS->Prop}{v:Value}(h:Q (.panic v) s):lO N Q (.panic v) s:=h
theorem Hz{Q:Ex->AS->Prop}(h:Q (.exit i) s):lO N Q (.exit i) s:=h
theorem Rr {Q:Ex->AS->Prop}(h:Q .normal s):eM i Q .normal s:=h
theorem Rm {Q:Ex->AS->Prop}(h:Q .ret s):eM i Q .ret s:=h
theorem Rn {Q:Ex->AS->Prop}{v:Value}(h:Q (.panic v) s):eM i Q (.panic v) s:=h
theorem Rs {Q:Ex->AS->Prop}(h:Q .normal s):eM i Q (.exit i) s:=by simp[eM,h]
theorem Ro {Q:Ex->AS->Prop}{j:Nat}(h:Q (.exit i) s)(Ir:(i==j)=false):eM j Q (.exit i) s:=by
 have:i≠j:=by simpa using Ir
 simp[eM,this,h]
@[simp] theorem setd_app (fr:Nat->AV)(d i:Nat)(v:AV):Uw fr (some d) v i=if i=d then v else fr i:=rfl
@[simp] theorem setd_none (fr:Nat->AV)(v:AV):Uw fr none v=fr:=rfl
@[simp] theorem run_ret {α:Type}(a:α)(hp:Hp):(Ia.ret a).run hp=some (a,hp):=rfl
attribute [simp] run_bind
@[simp] theorem run_get {α:Type}(x:Nm)(f:It->Ia α)(hp:Hp):(Ia.get x f).run hp=(f (hp x)).run hp:=rfl
@[simp] theorem run_put {α:Type}(x:Nm)(o:It)(p:Ia α)(hp:Hp):(Ia.put x o p).run hp=p.run (Ur hp x o):=rfl
@[simp] theorem run_hdr {α:Type}(x:Nm)(f:NZ->Ia α)(hp:Hp):(Ia.hdr x f).run hp=(f (hp x).head).run hp:=rfl
@[simp] theorem upd_app {α:Type}(hp:Nm->α)(x y:Nm)(o:α):Ur hp x o y=if y=x then o else hp y:=rfl
@[simp] theorem upd_upd {α:Type}(hp:Nm->α)(x:Nm)(o o':α):Ur (Ur hp x o) x o'=Ur hp x o':=by
 funext y
 simp only[Ur]
 split<;>rfl
@[simp] theorem cD.dry_off (E:cD):E.dry.off=E.off:=rfl
@[simp] theorem cD.dry_frz (E:cD)(f:Nat):E.dry.frz f=E.frz f:=rfl
@[simp] theorem cD.at_frz (E:cD)(o f:Nat):(E.at o).frz f=E.frz f:=rfl
@[simp] theorem cD.dry_inl (E:cD)(f:Nat):E.dry.inl f=E.inl f:=rfl
@[simp] theorem cD.at_off (E:cD)(o:Nat):(E.at o).off=o:=rfl
@[simp] theorem cD.at_hp (E:cD)(o f:Nat):(E.at o).hp f=E.hp f:=rfl
@[simp] theorem cD.at_eq (E:cD)(o:Nat)(t:TypeId):(E.at o).eq t=E.eq t:=rfl
@[simp] theorem cD.at_yl (E:cD)(o l:Nat):(E.at o).yl l=E.yl l:=rfl
@[simp] theorem cD.at_inl (E:cD)(o f:Nat):(E.at o).inl f=E.inl f:=rfl
@[simp] theorem cD.dry_hp (E:cD)(f:Nat):E.dry.hp f=E.hp f:=rfl
@[simp] theorem cD.dry_bx (E:cD)(t:TypeId):E.dry.bx t=E.bx t:=rfl
@[simp] theorem cD.dry_eq (E:cD)(t:TypeId):E.dry.eq t=E.eq t:=rfl
@[simp] theorem cD.dry_yl (E:cD)(l:Nat):E.dry.yl l=false:=rfl
end
section
open Go
attribute [simp] Ia.run Ia.bind cW bD bL Uy qT Cka vW vU MT rJ gS settle iF pM fK tU tL uA kP uL pG vI vY xT cK mD Cpa eD fQ jF fX uC qG jN nY rH eI aN kR zT rZ dW kO bT gV fnN fnA qU appR tW oT qR wU zE Ala yT yD uD nG uN fH jU vF qQ mJ oQ dF GH sU Bn cN splice dR Gt Hg kL nK JS tM iS xQ BW uE lT lU mB BO zG Hf jR BZ pC qI yA qJ oE mO Wx fT On NG tV eV Uq aG eK Ia.runF Uh Value.oneCell'
@[simp] theorem gen_no (g:Nat):(It.no g).gen=g:=(rfl)
@[simp] theorem gen_box (g:Nat)(c:List AV)(f:Bool):(It.box g c f).gen=g:=(rfl)
@[simp] theorem gen_arr (g sz:Nat)(e:TypeId)(r:List (List AV))(f:Bool):(It.arr g sz e r f).gen=g:=(rfl)
@[simp] theorem gen_map (g:Nat)(a:Bool)(ks:List Value)(r:List (List AV))(f:Bool):(It.map g a ks r f).gen=g:=(rfl)
@[simp] theorem head_map (g:Nat)(a:Bool)(ks:List Value)(r:List (List AV))(f:Bool):(It.map g a ks r f).head= .map g f:=(rfl)
@[simp] theorem head_no (g:Nat):(It.no g).head= .no:=(rfl)
@[simp] theorem head_box (g:Nat)(c:List AV)(f:Bool):(It.box g c f).head= .box g c.length f:=(rfl)
@[simp] theorem W9 (g sz:Nat)(e:TypeId)(r:List (List AV))(f:Bool):(It.arr g sz e r f).head= .arr g sz e r.length f:=(rfl)
@[simp] theorem hp0_app (x:Nm):U9 x= .no 0:=rfl
@[simp] theorem maxLen_eq :maxLen=9223372036854775807:=rfl
end
end Go.Ab
