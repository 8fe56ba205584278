/- A part of the proof: Ab33. -/
import Derived.Test.YtggghdmdjpianaaGreatDoorC02
set_option linter.unusedSimpArgs false
set_option linter.unusedVariables false
namespace Go.Ab
section
open Go
variable {B:Code}{QQ:Ex->AS->Prop}{g:gZ}{a r:List AV}{fs:List gZ}{idx:List Nat}{l:List Oper}{c id n:Nat}{frF:Nat->AV}{Rh:Nat->Nat->List AV->Hp->AV->Hp->Prop}{X:aS}{p q:Prop}{t:TypeId}{u:Value}
def HB (P:Program)(E:cD)(C:aS)(k d f:Nat)(args:List AV)(hp:Hp)(R:AV->Hp->Prop)(PR:Value->Hp->Prop):Prop:=
 (∃v hp',C.hpc k d f args hp=some (v,hp')/\R v hp')\/ ∃n v hp',gU P E C (.fn k f args hp) n v hp'/\PR v hp'
section
variable {P:Program}{E:cD}{k:Nat}{call:aS}{all:Array Oper}{os:List Oper}{fr:Nat->AV}{hp:Hp}{Q:AS->Prop}{PQ:Value->Hp->Prop}{dd:Option Nat}{x:Operand}{args:Array Operand}{ats:Array TypeId}{ty:TypeId}{pos:String}{aft:Array Edge}{f:Nat}{as cs:List AV}{R R':AV->Hp->Prop}{PR PR':Value->Hp->Prop}{d:Nat}
theorem HB.mono (h:HB P E call k d f as hp R PR)(hr: ∀v hp',R v hp'->R' v hp')(hq: ∀v hp',PR v hp'->PR' v hp'):HB P E call k d f as hp R' PR':=
 h.imp (fun⟨v,hp',h1,h2⟩=>⟨v,hp',h1,hr _ _ h2⟩) (fun⟨n,v,hp',h1,h2⟩=>⟨n,v,hp',h1,hq _ _ h2⟩)
theorem X6 (hx:Uy fr x= .fn f cs)(Uz:Il P f=true)(Ii:f<1000000)(hh:E.hp f=true)(ha:args.toList.map (Uy fr)++cs=as){g:Option (Nat×Bool)}:
  (bL P E k call fr ⟨dd,.call ⟨.value x,args,ats⟩,ty,pos,aft,g⟩).run hp=call.hpc k (E.off+dd.getD 0) f as hp:=by
 simp only[bL,hx,jF,fnN,fnA,Ka Ii,Uz,hh,iW,ha,Ia.run]
 cases call.hpc k (E.off+dd.getD 0) f as hp with
 |none=>rfl
 |some r=>rfl
theorem Va (hx:Uy fr x= .fn f cs)(Uz:Il P f=true)(Ii:f<1000000)(hh:E.hp f=true)(ha:args.toList.map (Uy fr)++cs=as)(h:HB P E call k (E.off+dd.getD 0) f as hp R PR)
  (hr: ∀v hp',R v hp'->Wo P E k call all os ⟨Uw fr dd v,hp'⟩ Q PQ) (hq: ∀v hp',PR v hp'->PQ v hp'):Wo P E k call all (⟨dd,.call ⟨.value x,args,ats⟩,ty,pos,aft,none⟩::os) ⟨fr,hp⟩ Q PQ:=by
 refine Wo_pc hx Uz Ii ?_;rcases h with⟨v,hp',h1,h2⟩|⟨n,v,hp',h1,h2⟩
 ·exact .inl ⟨v,hp',(X6 hx Uz Ii hh ha).trans h1,hr _ _ h2⟩
 ·exact .inr ⟨n,v,hp',by rw[ha];exact h1,hq _ _ h2⟩
end
section
variable {P:Program}{k d:Nat}{ts:List TypeId}{rvs:List ResultVar}{R:AV->Hp->Prop}{PR:Value->Hp->Prop}{st:AS}{v:AV}{hp':Hp}
theorem F4 (h:(dU P st.fr k d rvs).run st.hp=some (v,hp'))(r:R v hp'):wB P k d rvs R PR .ret st:=⟨v,hp',h,r⟩
theorem Db (h:(dU P st.fr k d rvs).run st.hp=some (v,hp'))(r:R v hp'):wB P k d rvs R PR .normal st:=⟨v,hp',h,r⟩
theorem El (h:(mB P st.fr ts rvs).run st.hp=some (v,hp'))(r:R v hp'):Yj P ts rvs R PR .ret st:=⟨v,hp',h,r⟩
theorem Lk {v:Value}{hp:Hp}(h:PR v hp):mR (wB P k d rvs R PR) v hp:=h
theorem Lj {v:Value}{hp:Hp}(h:PR v hp):mR (Yj P ts rvs R PR) v hp:=h
end
/-! ### regions that draw their order,with a call -/
section
variable {P:Program}{E:cD}{k:Nat}{call:aS}
theorem W_rdp{f:Nat}{st:AS}{dd:Option Nat}{x:Operand}{args:Array Operand}{ats:Array TypeId}{ty:TypeId}{pos:String}{aft:Array Edge}{as cs:List AV}{v:Value}{hp':Hp}(mW:Cy l.toArray c=true)(hi:((List.range l.toArray.size).filter fun j=>Ce l.toArray c j)=idx)(hf:dL P E k call st.hp (idx.map fun j=>l.toArray.getD j default) st.fr frF)
  (hc:l.toArray[c]?=some ⟨dd,.call ⟨.value x,args,ats⟩,ty,pos,aft,none⟩) (hx:Uy frF x= .fn f cs) (Uz:Il P f=true) (Ii:f<1000000) (ha:args.toList.map (Uy frF)++cs=as) (h:gU P E call (.fn k f as st.hp) n v hp') (hq:mR QQ v hp'):W P E k call (.region id l.toArray true) st QQ:=
 F2 (.draw mW (by unfold vT;rw[hi];exact hf) hc rfl rfl hx Uz Ii (by rw[ha];exact h)) hq
theorem W_srdp{f:Nat}{st:AS}{dd:Option Nat}{x:Operand}{args:Array Operand}{ats:Array TypeId}{ty:TypeId}{pos:String}{aft:Array Edge}{as cs:List AV}{v:Value}{hp':Hp}(mW:Cy l.toArray c=true)(hi:((List.range l.toArray.size).filter fun j=>Ce l.toArray c j)=idx)(hf:dL P E k call st.hp (idx.map fun j=>l.toArray.getD j default) st.fr frF)
  (hc:l.toArray[c]?=some ⟨dd,.call ⟨.value x,args,ats⟩,ty,pos,aft,none⟩) (hx:Uy frF x= .fn f cs) (Uz:Il P f=true) (Ii:f<1000000) (ha:args.toList.map (Uy frF)++cs=as) (h:gU P E call (.fn k f as st.hp) n v hp') (hq:mR QQ v hp'):W P E k call (.seq (.region id l.toArray true) B) st QQ:=
 F0 (W_rdp mW hi hf hc hx Uz Ii ha h hq)
theorem Df{f d:Nat}{fr:Nat->AV}{hp:Hp}{x:Operand}{args:Array Operand}{ats:Array TypeId}{ty:TypeId}{pos:String}{aft:Array Edge}{as cs:List AV}{R:AV->Hp->Prop}{PR:Value->Hp->Prop}(mW:Cy l.toArray c=true)(hi:((List.range l.toArray.size).filter fun j=>Ce l.toArray c j)=idx)(hf:dL P E k call hp (idx.map fun j=>l.toArray.getD j default) fr frF)
  (hc:l.toArray[c]?=some ⟨some d,.call ⟨.value x,args,ats⟩,ty,pos,aft,none⟩) (hx:Uy frF x= .fn f cs) (Uz:Il P f=true) (Ii:f<1000000) (ha:args.toList.map (Uy frF)++cs=as) (h:HB P E call k d f as hp R PR)
  (hv: ∀v hp',call.hpc k d f as hp=some (v,hp')->R v hp'->W P E k call (.seq (.region id l.toArray true) B) ⟨fr,hp⟩ QQ) (hq: ∀v hp',PR v hp'->mR QQ v hp'):W P E k call (.seq (.region id l.toArray true) B) ⟨fr,hp⟩ QQ:=by
 rcases h with⟨v,hp',h1,h2⟩|⟨n,v,hp',h1,h2⟩
 ·exact hv v hp' h1 h2
 ·exact W_srdp (st:=⟨fr,hp⟩) mW hi hf hc hx Uz Ii ha h1 (hq v hp' h2)
theorem Mt{f d:Nat}{fr:Nat->AV}{hp:Hp}{x:Operand}{args:Array Operand}{ats:Array TypeId}{ty:TypeId}{pos:String}{aft:Array Edge}{as cs:List AV}{R:AV->Hp->Prop}{PR:Value->Hp->Prop}(mW:Cy l.toArray c=true)(hi:((List.range l.toArray.size).filter fun j=>Ce l.toArray c j)=idx)(hf:dL P E k call hp (idx.map fun j=>l.toArray.getD j default) fr frF)
  (hc:l.toArray[c]?=some ⟨some d,.call ⟨.value x,args,ats⟩,ty,pos,aft,none⟩) (hx:Uy frF x= .fn f cs) (Uz:Il P f=true) (Ii:f<1000000) (ha:args.toList.map (Uy frF)++cs=as) (h:HB P E call k d f as hp R PR)
  (hv: ∀v hp',call.hpc k d f as hp=some (v,hp')->R v hp'->W P E k call (.region id l.toArray true) ⟨fr,hp⟩ QQ) (hq: ∀v hp',PR v hp'->mR QQ v hp'):W P E k call (.region id l.toArray true) ⟨fr,hp⟩ QQ:=by
 rcases h with⟨v,hp',h1,h2⟩|⟨n,v,hp',h1,h2⟩
 ·exact hv v hp' h1 h2
 ·exact W_rdp (st:=⟨fr,hp⟩) mW hi hf hc hx Uz Ii ha h1 (hq v hp' h2)
theorem W_rdt{st:AS}{dd:Option Nat}{x:Operand}{ty:TypeId}{pos:String}{aft:Array Edge}(mW:Cy l.toArray c=true)(hi:((List.range l.toArray.size).filter fun j=>Ce l.toArray c j)=idx)(hf:dL P E k call st.hp (idx.map fun j=>l.toArray.getD j default) st.fr frF)
  (hc:l.toArray[c]?=some ⟨dd,.panic x,ty,pos,aft,none⟩) (hx:Uy frF x= .sc (.iface t u)) (hq:mR QQ (.iface t u) st.hp):W P E k call (.region id l.toArray true) st QQ:=
 F2 (.drawP (n:=0) mW (by unfold vT;rw[hi];exact hf) hc rfl rfl hx) hq
theorem Ay {os:List Oper}{fr fr':Nat->AV}{hp:Hp}{dd:Option Nat}{op:Op}{ty:TypeId}{pos:String}{aft:Array Edge}{v:AV}(h:(bL P E k call fr ⟨dd,op,ty,pos,aft,none⟩).run hp=some (v,hp))(r:dL P E k call hp os (Uw fr dd v) fr'):dL P E k call hp (⟨dd,op,ty,pos,aft,none⟩::os) fr fr':= .cons rfl h r
theorem W_srdt{st:AS}{dd:Option Nat}{x:Operand}{ty:TypeId}{pos:String}{aft:Array Edge}(mW:Cy l.toArray c=true)(hi:((List.range l.toArray.size).filter fun j=>Ce l.toArray c j)=idx)(hf:dL P E k call st.hp (idx.map fun j=>l.toArray.getD j default) st.fr frF)
  (hc:l.toArray[c]?=some ⟨dd,.panic x,ty,pos,aft,none⟩) (hx:Uy frF x= .sc (.iface t u)) (hq:mR QQ (.iface t u) st.hp):W P E k call (.seq (.region id l.toArray true) B) st QQ:=
 F0 (W_rdt mW hi hf hc hx hq)
@[simp] theorem cD.dry_ws (E:cD):E.dry.ws=E.ws:=rfl
@[simp] theorem cD.dry_cl (E:cD):E.dry.cl=E.cl:=rfl
def Seen (E:cD)(k:Nat)(hp hp':Hp)(y:I8):Prop:=(match y with| .top=>False| .but _=>False|_=>True)/\y.nm.d=k/\E.off<=y.nm.i/\y.nm.i<E.off+E.ws/\y.nm.c<6/\hp y.nm=hp' y.nm
theorem Vo {hp hp':Hp}(lY:E.cl=true){y:I8}(h:Seen E k hp hp' y):((((List.range E.ws).flatMap fun i=>(List.range 6).map fun c=>(⟨k,E.off+i,c⟩:Nm))).filter fun x=>if E.cl then eqP (hp x) (hp' x) else eqO (hp x) (hp' x)).contains y.nm=true:=by
 obtain⟨_,hd,ho,hi,hc,he⟩:=h;refine List.contains_iff_mem.2 (Acw.2 ⟨List.mem_flatMap.2 ⟨y.nm.i - E.off,sJ.2 Zo,Adk.2 ⟨y.nm.c,sJ.2 hc,?_⟩⟩,?_⟩)
 ·rw[<-hd,show E.off+(y.nm.i - E.off)=y.nm.i from Zo]
 rw[Ka lY];exact eqP_of he
theorem Q7 {l:List Nm}{y:I8}(hy:match y with| .top=>False| .but _=>False|_=>True)(h:l.contains y.nm=true):I8.meets (.but l) y=false/\I8.meets y (.but l)=false:=by
 cases y with
 |top=>exact hy.elim
 |but _=>exact hy.elim
 |all x=>
  have h':x∈l:=by simpa[I8.nm] using h
  simp[I8.meets,I8.nm,h']
 |hd x=>
  have h':x∈l:=by simpa[I8.nm] using h
  simp[I8.meets,I8.nm,h']
 |cl x o=>
  have h':x∈l:=by simpa[I8.nm] using h
  simp[I8.meets,I8.nm,h']
theorem apart_l {hp hp':Hp}{R:List I8}(hw:E.ws≠0)(lY:E.cl=true)(hW:g.W=[])(h: ∀y∈g.R,Seen E k hp hp' y):apartF ⟨R,gG E k hp hp' [.top]⟩ g=true:=by
 have e:gG E k hp hp' [.top]=[.but ((((List.range E.ws).flatMap fun i=>(List.range 6).map fun c=>(⟨k,E.off+i,c⟩:Nm))).filter fun x=>if E.cl then eqP (hp x) (hp' x) else eqO (hp x) (hp' x))]:=by
  simp only[gG,Jx hw];rw[Ka Zi]
 rw[e];simp only[apartF,hW,uZ,List.all_nil,Bool.and_true,nU,zC];exact fun y hy=>(Q7 (h y hy).1 (Vo lY (h y hy))).1
theorem NP {hp hp':Hp}{R:List I8}(hw:E.ws≠0)(lY:E.cl=true)(hW:g.W=[])(h: ∀y∈g.R,Seen E k hp hp' y):apartF g ⟨R,gG E k hp hp' [.top]⟩=true:=by
 have e:gG E k hp hp' [.top]=[.but ((((List.range E.ws).flatMap fun i=>(List.range 6).map fun c=>(⟨k,E.off+i,c⟩:Nm))).filter fun x=>if E.cl then eqP (hp x) (hp' x) else eqO (hp x) (hp' x))]:=by
  simp only[gG,Jx hw];rw[Ka Zi]
 rw[e];simp only[apartF,hW,uZ,List.all_nil,Zt,Bool.and_true,nU,zC];exact fun y hy=>(Q7 (h y hy).1 (Vo lY (h y hy))).1
def loose (all:Array Oper):List (Nat×Nat):=(List.range all.size).flatMap fun j=>((List.range j).filter fun i=> !(((waits all.toList []).getD j 0).testBit i)).map fun i=>(i,j)
theorem Be {all:Array Oper}{ps:List (Nat×Nat)}(hp:loose all=ps)(h: ∀p∈ps,apartF (fs.getD p.1 ⟨[],[]⟩) (fs.getD p.2 ⟨[],[]⟩)=true):Gu all fs=true:=by
 simp only[Gu,nU,sJ,GM];intro j hj i hi
 cases ht:((waits all.toList []).getD j 0).testBit i with
 |true=>exact .inl rfl
 |false=>
  right;refine h (i,j) ?_;rw[<-hp];exact List.mem_flatMap.2 ⟨j,sJ.2 hj,Adk.2 ⟨i,Acw.2 ⟨sJ.2 hi,by rw[ht];rfl⟩,rfl⟩⟩
end
/-! ### base oracles -/
def eN (P:Program)(f:Nat)(args rs:List AV):Prop:=Il P f=true-> ∀(I:Nat->Prop) (w:World) (us:List Value),(∀b,I b->b<w.heap.size)->tG I w->Ue (mE I w) args us->
 Calls P f ⟨us⟩ w (fun e w'=> ∃u,e= .returned u/\aW P I w (Iv P f) rs u w')
def sG (P:Program)(k f:Nat)(args:List AV)(hp:Hp)(v:AV)(hp':Hp):Prop:=Il P f=true-> ∀(I K:Nat->Prop) (m:Mp) (w:World) (us:List Value),Uj I K m hp w->Ue (Ie k I m hp w) args us->
 Calls P f ⟨us⟩ w (fun e w'=> ∃u,e= .returned u/\ ∃I' m',sF I' K m' hp' w' v k I m hp w u)
open Classical in
noncomputable def pA (P:Program) (Rd:Nat->List AV->List AV->Prop) (Rh:Nat->Nat->List AV->Hp->AV->Hp->Prop):aS where
 dat:=fun f a=>if h: ∃r,eN P f a r/\Rd f a r then some (Classical.choose h) else none
 hpc:=fun k _ f a hp=>if h: ∃r:AV×Hp,sG P k f a hp r.1 r.2/\Rh k f a hp r.1 r.2 then some (Classical.choose h) else none
theorem Bia (P:Program)(Rd:Nat->List AV->List AV->Prop)(Rh:Nat->Nat->List AV->Hp->AV->Hp->Prop):Av P (pA P Rd Rh):=by
 refine⟨fun f args rs h Uz I w us h1 h2 h3=>?_,fun k d f args hp v hp' h Uz I K m w us h1 h2=>?_⟩
 ·simp only[pA] at h
  split at h
  ·rename_i pJ
   have:=GL pJ;simp only[Bc] at h;rw[h] at this;exact this.1 Uz I w us h1 h2 h3
  ·cases h
 ·simp only[pA] at h
  split at h
  ·rename_i pJ
   have:=GL pJ;simp only[Bc] at h;rw[h] at this;exact this.1 Uz I K m w us h1 h2
  ·cases h
theorem Gaa {P:Program}{Rd:Nat->List AV->List AV->Prop}{f:Nat}(h:eN P f a r)(hr:Rd f a r): ∃r',(pA P Rd Rh).dat f a=some r'/\Rd f a r':=by
 have pJ: ∃r,eN P f a r/\Rd f a r:=⟨r,h,hr⟩;refine⟨Classical.choose pJ,?_,(GL pJ).2⟩;simp only[pA];rw[dif_pos pJ]
theorem F9a {P:Program}{Rd:Nat->List AV->List AV->Prop}{k d f:Nat}{hp hp':Hp}{v:AV}(h:sG P k f a hp v hp')(hr:Rh k f a hp v hp'): ∃v hp',(pA P Rd Rh).hpc k d f a hp=some (v,hp')/\Rh k f a hp v hp':=by
 have pJ: ∃r:AV×Hp,sG P k f a hp r.1 r.2/\Rh k f a hp r.1 r.2:=⟨(v,hp'),h,hr⟩;refine⟨(Classical.choose pJ).1,(Classical.choose pJ).2,?_,(GL pJ).2⟩;simp only[pA];rw[dif_pos pJ]
theorem Ji {P:Program}{Rd:Nat->List AV->List AV->Prop}{f:Nat}(h: ∀r,¬Rd f a r):(pA P Rd Rh).dat f a=none:=by
 simp only[pA];rw[dif_neg (fun⟨r,_,h2⟩=>h r h2)]
theorem Jh {P:Program}{Rd:Nat->List AV->List AV->Prop}{k d f:Nat}{hp:Hp}(h: ∀v hp',¬Rh k f a hp v hp'):(pA P Rd Rh).hpc k d f a hp=none:=by
 simp only[pA];rw[dif_neg (fun⟨r,_,h2⟩=>h r.1 r.2 h2)]
theorem Aw {P:Program}{E:cD}{f:Nat}(h:X.dat f a=some r):(eP P E X).dat f a=some r:=jQ.2 ⟨0,h⟩
theorem Tp {P:Program}{E:cD}{k d f:Nat}{hp:Hp}{r:AV×Hp}(h:X.hpc k d f a hp=some r):(eP P E X).hpc k d f a hp=some r:=kW.2 ⟨0,h⟩
theorem Zk {α:Type _}{a:α}{l:List α}{p:α->Prop}(hl: ∀x∈l,p x)(h:p a:=by kernel_rfl): ∀x∈a::l,p x:=Adh.2 ⟨h,hl⟩
theorem Zs {α:Type _}{a:α}{l:List α}{p:α->Prop}(hl: ∀x∈l,p x)(h:p a:=by simp[apartF,gG,I8.meets,I8.nm]): ∀x∈a::l,p x:=Adh.2 ⟨h,hl⟩
theorem Zz {α:Type _}{p:α->Prop}: ∀x∈([]:List α),p x:=fun p hp=>by cases hp
theorem Zl {d k:Nat}(h:d<=k):d≠k+1:=by omega
theorem Zc {α:Sort _}{a b:α}(h:a=b:=by(conv=>lhs;simp -implicitDefEqProofs [*])<;>exact rfl):a=b:=h
theorem Z5 {p:Prop}(h:p:=by first|exact Zc|decide):p:=h
theorem ZN(hq:q)(h:RowKit.Hid q->p:=by
 intro hq
 first|((with_reducible first|apply zX|apply zY|apply ex2|apply gP|apply gQ|apply ex4|apply F3|apply EndQ_normal|apply F4|apply Db|apply El|apply EndBZ_normal);exact Zc)|(with_reducible first|apply L5|apply zZ|apply Si|apply AA|apply F1|apply Gn|apply Jc|apply J5|apply L6|apply P2|apply Jd|apply J6|apply Hy|apply Hw|apply Hz|apply Hx|apply Rr|apply Rm|apply Rs|apply Rn|apply panW|apply panB|apply Lk|apply Lj)|((with_reducible apply Sf);exact rfl;exact Zc;exact Zc)|((with_reducible apply Sg);exact rfl;exact Zc;(exact rfl))|((with_reducible apply Se);exact rfl;(exact Zc))|((with_reducible apply Sh);exact rfl;(exact Zc))|((with_reducible first|apply Cb|apply Fi);kernel_rfl)|((with_reducible apply A7);kernel_rfl)|((with_reducible apply Ro);rotate_left;exact rfl)|((with_reducible apply Fz);exact Zc)
 repeat (first|((with_reducible first|apply zX|apply zY|apply ex2|apply gP|apply gQ|apply ex4|apply F3|apply EndQ_normal|apply F4|apply Db|apply El|apply EndBZ_normal);exact Zc)|(with_reducible first|apply L5|apply zZ|apply Si|apply AA|apply F1|apply Gn|apply Jc|apply J5|apply L6|apply P2|apply Jd|apply J6|apply Hy|apply Hw|apply Hz|apply Hx|apply Rr|apply Rm|apply Rs|apply Rn|apply panW|apply panB|apply Lk|apply Lj)|((with_reducible apply Sf);exact rfl;exact Zc;exact Zc)|((with_reducible apply Sg);exact rfl;exact Zc;(exact rfl))|((with_reducible apply Se);exact rfl;(exact Zc))|((with_reducible apply Sh);exact rfl;(exact Zc))|((with_reducible first|apply Cb|apply Fi);kernel_rfl)|((with_reducible apply A7);kernel_rfl)|((with_reducible apply Ro);rotate_left;exact rfl)|((with_reducible apply Fz);exact Zc))
 exact hq.out):p:=h hq
theorem Z1(hq:q)(h:RowKit.Hid q->p:=by
 intro hq
 first|((with_reducible first|apply zX|apply zY|apply ex2|apply gP|apply gQ|apply ex4|apply F3|apply EndQ_normal|apply F4|apply Db|apply El|apply EndBZ_normal);exact Zc)|(with_reducible first|apply L5|apply zZ|apply Si|apply AA|apply F1|apply Gn|apply Jc|apply J5|apply L6|apply P2|apply Jd|apply J6|apply Hy|apply Hw|apply Hz|apply Hx|apply Rr|apply Rm|apply Rs|apply Rn|apply panW|apply panB|apply Lk|apply Lj)|((with_reducible apply Sf);exact rfl;exact Zc;exact Zc)|((with_reducible apply Sg);exact rfl;exact Zc;(exact rfl))|((with_reducible apply Se);exact rfl;(exact Zc))|((with_reducible apply Sh);exact rfl;(exact Zc))|((with_reducible first|apply Cb|apply Fi);kernel_rfl)|((with_reducible apply A7);kernel_rfl)|((with_reducible apply Ro);rotate_left;exact rfl)|((with_reducible apply Fz);exact Zc)
 exact hq.out):p:=h hq
theorem Z2 {p q r:Prop}(hq:q)(hr:r)(h:RowKit.Hid q->RowKit.Hid r->p:=by
 intro hq hr
 first|((with_reducible first|apply W_sc|apply W_c);exact Zc)|((with_reducible apply EJ);exact rfl;(exact Zc))|((with_reducible apply EL);exact rfl;(exact Zc))|((with_reducible apply EN);exact rfl;(exact Zc))|((with_reducible apply EO);exact rfl;(exact Zc))
 exact hq.out
 exact hr.out):p:=h hq hr
theorem ZS {p:Prop}(h:p:=by
 repeat' (first|refine ZN ?_|refine Z2 ?_ ?_|(intro h h';try simp[*,-h] at h'))
 all_goals rfl):p:=h
theorem Zw {p:Prop}(h:p:=by constructor;((conv=>lhs;simp -implicitDefEqProofs [*,-Int.natCast_add])<;>exact rfl);exact Zc;assumption;omega):p:=h
theorem Zx {p:Prop}(h:p:=by exact⟨⟨_,rfl⟩,fun d i c hd Ir=>(U7 d i c (by omega) Ir).trans (by have Uc:d≠k+3:=(by omega);first|exact HF.out d i c hd Ir|(simp[*];done)|(simp[*];exact HF.out d i c hd Ir))⟩):p:=h
theorem ZG {p:Prop}(h:p:=by refine GT.congr cB ?_;intro i c hi;simp):p:=h
theorem ZL {p:Prop}(h:p:=by refine LT.congr cB ?_;intro i c;simp):p:=h
theorem ZC {p:Prop}(h:p:=by refine CS.congr cB ?_;intro i c;simp[*]):p:=h
theorem ZT {p:Prop}(h:p:=by first|omega|((try simp);omega)):p:=h
theorem ZU {p:Prop}(h:p:=by(try simp);omega):p:=h
theorem Z8 {p:Prop}(h:p:=by simp (maxDischargeDepth:=8) [*]):p:=h
theorem ZD {p:Prop}(h:p:=by
 rw[f1,f2,f3,f4]
 rcases ht with rfl|rfl
 ·rw[g0,g2];clear g0 g1 g2 g3 f1 f2 f3 f4 e1 e2 hs hx hr hq;omega
 ·rw[g1,g3];clear g0 g1 g2 g3 f1 f2 f3 f4 e1 e2 hs hx hr hq;omega):p:=h
theorem Zv {a b c d e:Prop}(ha:a:=by exact Z5)(hb:b:=by exact Z5)(hc:c:=by exact Z5)(hd:d:=by exact Z5)(he:e:=by exact Z5):a/\b/\c/\d/\e:=⟨ha,hb,hc,hd,he⟩
theorem Ap {P:Program}{E:cD}{k:Nat}{call:aS}{all:Array Oper}{os:List Oper}{fr:Nat->AV}{hp:Hp}{Q:AS->Prop}{PQ:Value->Hp->Prop}{dd:Option Nat}{x:Operand}{args:Array Operand}{ats:Array TypeId}{ty:TypeId}{pos:String}{aft:Array Edge}{f:Nat}{as cs:List AV}{R:AV->Hp->Prop}(h5:Uy fr x= .fn f cs/\Il P f=true/\f<1000000/\E.hp f=true/\args.toList.map (Uy fr)++cs=as)(h:HB P E call k (E.off+dd.getD 0) f as hp R (fun _ _=>False))(hr: ∀v hp',R v hp'->Wo P E k call all os ⟨Uw fr dd v,hp'⟩ Q PQ):Wo P E k call all (⟨dd,.call ⟨.value x,args,ats⟩,ty,pos,aft,none⟩::os) ⟨fr,hp⟩ Q PQ:=Va h5.1 h5.2.1 h5.2.2.1 h5.2.2.2.1 h5.2.2.2.2 h hr (fun _ _ h=>h.elim)
theorem Aq {P:Program}{E:cD}{k:Nat}{call:aS}{all:Array Oper}{os:List Oper}{fr:Nat->AV}{hp:Hp}{Q:AS->Prop}{PQ:Value->Hp->Prop}{dd:Option Nat}{x:Operand}{args:Array Operand}{ats:Array TypeId}{ty:TypeId}{pos:String}{aft:Array Edge}{f:Nat}{as cs:List AV}{R:AV->Hp->Prop}{PR:Value->Hp->Prop}(h5:Uy fr x= .fn f cs/\Il P f=true/\f<1000000/\E.hp f=true/\args.toList.map (Uy fr)++cs=as)(h:HB P E call k (E.off+dd.getD 0) f as hp R PR)(hr: ∀v hp',R v hp'->Wo P E k call all os ⟨Uw fr dd v,hp'⟩ Q PQ)(hq: ∀v hp',PR v hp'->PQ v hp'):Wo P E k call all (⟨dd,.call ⟨.value x,args,ats⟩,ty,pos,aft,none⟩::os) ⟨fr,hp⟩ Q PQ:=Va h5.1 h5.2.1 h5.2.2.1 h5.2.2.2.1 h5.2.2.2.2 h hr hq
def looseB (all:Array Oper)(fs:List gZ)(ex:List (Nat×Nat)):Bool:=(loose all).all fun p=>ex.contains p||apartF (fs.getD p.1 ⟨[],[]⟩) (fs.getD p.2 ⟨[],[]⟩)
theorem Dx {all:Array Oper}(ex:List (Nat×Nat))(h: ∀p∈ex,apartF (fs.getD p.1 ⟨[],[]⟩) (fs.getD p.2 ⟨[],[]⟩)=true)(hp:looseB all fs ex=true:=by kernel_rfl):Gu all fs=true:=by
 refine Be rfl fun p hq=>?_
 have:=nU.1 hp p hq;rcases GM _ _▸this with h1|h1
 ·exact h p (by simpa using h1)
 ·exact h1
theorem ZA {α:Type _}{a:α}{l:List α}{p:α->Prop}(hl: ∀x∈l,p x)(h:p a:=by(refine NP (by simp) (by simp) rfl ?_;(repeat' (refine Adh.2 ⟨⟨trivial,rfl,by simp[I8.nm],by simp[I8.nm],by simp[I8.nm],by simp[I8.nm, *]⟩,?_⟩));exact fun y hy=>by cases hy)): ∀x∈a::l,p x:=Adh.2 ⟨h,hl⟩
theorem ZBs {P:Program}{E:cD}{k:Nat}{call:aS}{f d:Nat}{fr:Nat->AV}{hp:Hp}{x:Operand}{args:Array Operand}{ats:Array TypeId}{ty:TypeId}{pos:String}{aft:Array Edge}{as cs:List AV}{R:AV->Hp->Prop}{PR:Value->Hp->Prop}(h8:Cy l.toArray c=true/\((List.range l.toArray.size).filter fun j=>Ce l.toArray c j)=idx/\dL P E k call hp (idx.map fun j=>l.toArray.getD j default) fr frF/\l.toArray[c]?=some ⟨some d,.call ⟨.value x,args,ats⟩,ty,pos,aft,none⟩/\Uy frF x= .fn f cs/\Il P f=true/\f<1000000/\args.toList.map (Uy frF)++cs=as)(h:HB P E call k d f as hp R PR)(hv: ∀v hp',call.hpc k d f as hp=some (v,hp')->R v hp'->W P E k call (.seq (.region id l.toArray true) B) ⟨fr,hp⟩ QQ)(hq: ∀v hp',PR v hp'->mR QQ v hp'):W P E k call (.seq (.region id l.toArray true) B) ⟨fr,hp⟩ QQ:=Df h8.1 h8.2.1 h8.2.2.1 h8.2.2.2.1 h8.2.2.2.2.1 h8.2.2.2.2.2.1 h8.2.2.2.2.2.2.1 h8.2.2.2.2.2.2.2 h hv hq
theorem ZBr {P:Program}{E:cD}{k:Nat}{call:aS}{f d:Nat}{fr:Nat->AV}{hp:Hp}{x:Operand}{args:Array Operand}{ats:Array TypeId}{ty:TypeId}{pos:String}{aft:Array Edge}{as cs:List AV}{R:AV->Hp->Prop}{PR:Value->Hp->Prop}(h8:Cy l.toArray c=true/\((List.range l.toArray.size).filter fun j=>Ce l.toArray c j)=idx/\dL P E k call hp (idx.map fun j=>l.toArray.getD j default) fr frF/\l.toArray[c]?=some ⟨some d,.call ⟨.value x,args,ats⟩,ty,pos,aft,none⟩/\Uy frF x= .fn f cs/\Il P f=true/\f<1000000/\args.toList.map (Uy frF)++cs=as)(h:HB P E call k d f as hp R PR)(hv: ∀v hp',call.hpc k d f as hp=some (v,hp')->R v hp'->W P E k call (.region id l.toArray true) ⟨fr,hp⟩ QQ)(hq: ∀v hp',PR v hp'->mR QQ v hp'):W P E k call (.region id l.toArray true) ⟨fr,hp⟩ QQ:=Mt h8.1 h8.2.1 h8.2.2.1 h8.2.2.2.1 h8.2.2.2.2.1 h8.2.2.2.2.2.1 h8.2.2.2.2.2.2.1 h8.2.2.2.2.2.2.2 h hv hq
theorem ZV8 {a b c d e f g i:Prop}(ha:a:=by kernel_rfl)(hb:b:=by kernel_rfl)(hc:c:=by(simp only[T9,nT,Nh,X4,Rt,T7,X1]);(repeat' (first|exact dL.nil|((with_reducible apply Ay);(exact Zc)))))(hd:d:=by exact rfl)(he:e:=by exact Zc)(hf:f:=by exact Z5)(hg:g:=by decide)(hi:i:=by exact Zc):a/\b/\c/\d/\e/\f/\g/\i:=⟨ha,hb,hc,hd,he,hf,hg,hi⟩
theorem ZE {p:Prop}(h:p:=by constructor;((conv=>lhs;simp -implicitDefEqProofs [*,-Int.natCast_add])<;>exact rfl);assumption;omega):p:=h
theorem ZF {α β:Type _}{q:α->β->Prop}: ∀(a:α) (b:β),False->q a b:=fun _ _ h=>h.elim
theorem Z6 {α:Sort _}{a b:α}(h:a=b:=by(conv=>lhs;simp -implicitDefEqProofs (maxDischargeDepth:=6) [*])<;>exact rfl):a=b:=h
theorem Zp(hq:q)(h:RowKit.Hid q->p:=by
 intro hq
 first|((with_reducible first|apply zX|apply zY|apply ex2|apply gP|apply gQ|apply ex4|apply F3|apply EndQ_normal|apply F4|apply Db|apply El|apply EndBZ_normal);exact Z6)|(with_reducible first|apply L5|apply zZ|apply Si|apply AA|apply F1|apply Gn|apply Jc|apply J5|apply L6|apply P2|apply Jd|apply J6|apply Hy|apply Hw|apply Hz|apply Hx|apply Rr|apply Rm|apply Rs|apply Rn|apply panW|apply panB|apply Lk|apply Lj)|((with_reducible apply Sf);exact rfl;exact Z6;exact Z6)|((with_reducible apply Sg);exact rfl;exact Z6;(exact rfl))|((with_reducible apply Se);exact rfl;(exact Z6))|((with_reducible apply Sh);exact rfl;(exact Z6))|((with_reducible first|apply Cb|apply Fi);kernel_rfl)|((with_reducible apply A7);kernel_rfl)|((with_reducible apply Ro);rotate_left;exact rfl)|((with_reducible apply Fz);exact Z6)
 repeat (first|((with_reducible first|apply zX|apply zY|apply ex2|apply gP|apply gQ|apply ex4|apply F3|apply EndQ_normal|apply F4|apply Db|apply El|apply EndBZ_normal);exact Z6)|(with_reducible first|apply L5|apply zZ|apply Si|apply AA|apply F1|apply Gn|apply Jc|apply J5|apply L6|apply P2|apply Jd|apply J6|apply Hy|apply Hw|apply Hz|apply Hx|apply Rr|apply Rm|apply Rs|apply Rn|apply panW|apply panB|apply Lk|apply Lj)|((with_reducible apply Sf);exact rfl;exact Z6;exact Z6)|((with_reducible apply Sg);exact rfl;exact Z6;(exact rfl))|((with_reducible apply Se);exact rfl;(exact Z6))|((with_reducible apply Sh);exact rfl;(exact Z6))|((with_reducible first|apply Cb|apply Fi);kernel_rfl)|((with_reducible apply A7);kernel_rfl)|((with_reducible apply Ro);rotate_left;exact rfl)|((with_reducible apply Fz);exact Z6))
 exact hq.out):p:=h hq
theorem Zq(hq:q)(h:RowKit.Hid q->p:=by
 intro hq
 first|((with_reducible first|apply zX|apply zY|apply ex2|apply gP|apply gQ|apply ex4|apply F3|apply EndQ_normal|apply F4|apply Db|apply El|apply EndBZ_normal);exact Z6)|(with_reducible first|apply L5|apply zZ|apply Si|apply AA|apply F1|apply Gn|apply Jc|apply J5|apply L6|apply P2|apply Jd|apply J6|apply Hy|apply Hw|apply Hz|apply Hx|apply Rr|apply Rm|apply Rs|apply Rn|apply panW|apply panB|apply Lk|apply Lj)|((with_reducible apply Sf);exact rfl;exact Z6;exact Z6)|((with_reducible apply Sg);exact rfl;exact Z6;(exact rfl))|((with_reducible apply Se);exact rfl;(exact Z6))|((with_reducible apply Sh);exact rfl;(exact Z6))|((with_reducible first|apply Cb|apply Fi);kernel_rfl)|((with_reducible apply A7);kernel_rfl)|((with_reducible apply Ro);rotate_left;exact rfl)|((with_reducible apply Fz);exact Z6)
 exact hq.out):p:=h hq
theorem Zr {p q r:Prop}(hq:q)(hr:r)(h:RowKit.Hid q->RowKit.Hid r->p:=by
 intro hq hr
 first|((with_reducible first|apply W_sc|apply W_c);exact Z6)|((with_reducible apply EJ);exact rfl;(exact Z6))|((with_reducible apply EL);exact rfl;(exact Z6))|((with_reducible apply EN);exact rfl;(exact Z6))|((with_reducible apply EO);exact rfl;(exact Z6))
 exact hq.out
 exact hr.out):p:=h hq hr
end
end Go.Ab
