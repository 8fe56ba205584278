/- A part of the proof: Ab24, Ab25, Ab33. -/
import Derived.Test.YtpedpkegmalgmaaGreatDoorZ02
set_option linter.unusedSimpArgs false
set_option linter.unusedVariables false
namespace Go.Ab
section
open Go
theorem run_getCsN (x:Nm)(hp:Hp): ∀n off:Nat,(getCs x off (n+1)).run hp=match hp x with
  | .box _ cells _=>if off+(n+1)≤cells.length then some ((cells.drop off).take (n+1),hp) else none
  |_=>none
 |0,off=>by
  simp only[getCs,Prog.run,cellOf]
  cases hp x with
  |no _=>rfl
  |arr _ _ _ _ _=>rfl
  |map _ _ _ _ _=>rfl
  |box g cells f=>
   simp only
   by_cases h:off<cells.length
   ·rw[List.getElem?_eq_getElem h,if_pos (by omega)]
    simp only[Prog.bind,Prog.run,Option.some.injEq,Prod.mk.injEq,and_true]
    rw[List.drop_eq_getElem_cons h];rfl
   ·rw[List.getElem?_eq_none (by omega),if_neg (by omega)]
 |n+1,off=>by
  have ih:=run_getCsN x hp n (off+1)
  rw[getCs]
  simp only[Prog.run,cellOf]
  cases he:hp x with
  |no _=>rfl
  |arr _ _ _ _ _=>rfl
  |map _ _ _ _ _=>rfl
  |box g cells f=>
   simp only[he] at ih⊢
   by_cases h:off<cells.length
   ·rw[List.getElem?_eq_getElem h]
    simp only[run_bind,ih]
    by_cases h2:off+1+(n+1)≤cells.length
    ·rw[if_pos h2,if_pos (by omega)]
     simp only[Prog.run,Option.some.injEq,Prod.mk.injEq,and_true]
     rw[List.drop_eq_getElem_cons h];rfl
    ·rw[if_neg h2,if_neg (by omega)]
   ·rw[List.getElem?_eq_none (by omega),if_neg (by omega)]
def facetsC (x:Nm)(off:Nat):Nat→List Facet→List Facet
 |0,R=>R
 |n+1,R=>facetsC x (off+1) n (.cl x off:: .hd x::R)
theorem runF_getCsN (x:Nm)(hp:Hp): ∀(n off:Nat) (R W:List Facet),(getCs x off (n+1)).runF hp R W=match hp x with
  | .box _ cells _=>if off+(n+1)≤cells.length then some ((cells.drop off).take (n+1),hp,facetsC x off (n+1) R,W) else none
  |_=>none
 |0,off,R,W=>by
  simp only[getCs,Prog.runF,cellOf]
  cases hp x with
  |no _=>rfl
  |arr _ _ _ _ _=>rfl
  |map _ _ _ _ _=>rfl
  |box g cells f=>
   simp only
   by_cases h:off<cells.length
   ·rw[List.getElem?_eq_getElem h,if_pos (by omega)]
    simp only[Prog.bind,Prog.runF,facetsC,Option.some.injEq,Prod.mk.injEq,and_true]
    rw[List.drop_eq_getElem_cons h];rfl
   ·rw[List.getElem?_eq_none (by omega),if_neg (by omega)]
 |n+1,off,R,W=>by
  have ih:=fun R W=>runF_getCsN x hp n (off+1) R W
  rw[getCs]
  simp only[Prog.runF,cellOf]
  cases he:hp x with
  |no _=>rfl
  |arr _ _ _ _ _=>rfl
  |map _ _ _ _ _=>rfl
  |box g cells f=>
   simp only[he] at ih⊢
   by_cases h:off<cells.length
   ·rw[List.getElem?_eq_getElem h]
    simp only[runF_bind,ih]
    by_cases h2:off+1+(n+1)≤cells.length
    ·rw[if_pos h2,if_pos (by omega)]
     simp only[Prog.runF,facetsC,Option.some.injEq,Prod.mk.injEq,and_true]
     rw[List.drop_eq_getElem_cons h];rfl
    ·rw[if_neg h2,if_neg (by omega)]
   ·rw[List.getElem?_eq_none (by omega),if_neg (by omega)]
theorem putCs_one (x:Nm)(off:Nat)(v:AV):putCs x off [v]= .putC x off v (.ret .any):=rfl
def putX (x:Nm)(off:Nat)(vs:List AV)(hp:Hp):Option (AV×Hp):=(putCs x off vs).run hp
theorem run_putCsN (x:Nm)(v u:AV)(vs:List AV)(off:Nat)(hp:Hp):(putCs x off (v::u::vs)).run hp=match hp x with
  | .box g cells f=>if off+(v::u::vs).length≤cells.length then some (.any,upd hp x (.box g (splice cells off (v::u::vs)) f)) else putX x off (v::u::vs) hp
  |_=>putX x off (v::u::vs) hp:=by
 cases he:hp x with
 |no _=>rfl
 |arr _ _ _ _ _=>rfl
 |map _ _ _ _ _=>rfl
 |box g cells f=>
  simp only
  split
  ·rename_i h
   obtain⟨hp',h1,rfl⟩:=run_putCs (v::u::vs) off cells hp he h
   exact h1
  ·rfl
def facetsW (x:Nm)(off:Nat):Nat→List Facet→List Facet
 |0,W=>W
 |n+1,W=>facetsW x (off+1) n (.cl x off::W)
def facetsH (x:Nm):Nat→List Facet→List Facet
 |0,R=>R
 |n+1,R=>facetsH x n (.hd x::R)
theorem runF_putCs {x:Nm}{g:Nat}{f:Bool}: ∀(vs:List AV) (off:Nat) (cells:List AV) (hp:Hp) (R W:List Facet),hp x= .box g cells f→off+vs.length≤cells.length→
  ∃hp',(putCs x off vs).runF hp R W=some (.any,hp',facetsH x vs.length R,facetsW x off vs.length W)∧hp'=upd hp x (.box g (splice cells off vs) f)
 |[],off,cells,hp,R,W,hx,_=>by
  refine⟨hp,rfl,?_⟩
  rw[splice_nil cells off,←hx]
  funext y;by_cases hy:y=x<;>simp[upd,hy]
 |v::vs,off,cells,hp,R,W,hx,h=>by
  have hlt:off<cells.length:=by simp at h;omega
  obtain⟨hp',h1,h2⟩:=runF_putCs vs (off+1) (cells.set off v) (upd hp x (.box g (cells.set off v) f)) (.hd x::R) (.cl x off::W) (upd_same _ _ _) (by simp at h⊢;omega)
  refine⟨hp',by simp only[putCs,Prog.runF,hx,setCellOf,hlt,if_true,h1,List.length_cons,facetsH,facetsW],?_⟩
  rw[h2,splice_cons cells off v vs (by simp at h;omega)]
  funext y;by_cases hy:y=x<;>simp[upd,hy]
def putXF (x:Nm)(off:Nat)(vs:List AV)(hp:Hp)(R W:List Facet):Option (AV×Hp×List Facet×List Facet):=(putCs x off vs).runF hp R W
theorem runF_putCsN (x:Nm)(v u:AV)(vs:List AV)(off:Nat)(hp:Hp)(R W:List Facet):(putCs x off (v::u::vs)).runF hp R W=match hp x with
  | .box g cells f=>if off+(v::u::vs).length≤cells.length then some (.any,upd hp x (.box g (splice cells off (v::u::vs)) f),facetsH x (v::u::vs).length R,facetsW x off (v::u::vs).length W) else putXF x off (v::u::vs) hp R W
  |_=>putXF x off (v::u::vs) hp R W:=by
 cases he:hp x with
 |no _=>rfl
 |arr _ _ _ _ _=>rfl
 |map _ _ _ _ _=>rfl
 |box g cells f=>
  simp only
  split
  ·rename_i h
   obtain⟨hp',h1,rfl⟩:=runF_putCs (v::u::vs) off cells hp R W he h
   exact h1
  ·rfl
end
section
open Go
def HB (P:Program)(E:Cfg)(C:Orc)(k d f:Nat)(args:List AV)(hp:Hp)(R:AV→Hp→Prop)(PR:Value→Hp→Prop):Prop:=
 (∃v hp',C.hpc k d f args hp=some (v,hp')∧R v hp')∨ ∃n v hp',Pan P E C (.fn k f args hp) n v hp'∧PR v hp'
section
variable {P:Program}{E:Cfg}{k:Nat}{call:Orc}{all:Array Oper}{os:List Oper}{fr:Nat→AV}{hp:Hp}{Q:AS→Prop}{PQ:Value→Hp→Prop}{dd:Option Nat}{x:Operand}{args:Array Operand}{ats:Array TypeId}{ty:TypeId}{pos:String}{aft:Array Edge}{f:Nat}{as cs:List AV}{R R':AV→Hp→Prop}{PR PR':Value→Hp→Prop}{d:Nat}
theorem call_run (hx:opA fr x= .fn f cs)(hok:okFn P f=true)(hlt:f<1000000)(hh:E.hp f=true)(ha:args.toList.map (opA fr)++cs=as){g:Option (Nat×Bool)}:
  (evOp P E k call fr ⟨dd,.call ⟨.value x,args,ats⟩,ty,pos,aft,g⟩).run hp=call.hpc k (E.off+dd.getD 0) f as hp:=by
 simp only[evOp,hx,callP,fnN,fnA,if_pos hlt,hok,hh,if_true,ha,Prog.run]
 cases call.hpc k (E.off+dd.getD 0) f as hp with
 |none=>rfl
 |some r=>rfl
theorem Wo_call (hx:opA fr x= .fn f cs)(hok:okFn P f=true)(hlt:f<1000000)(hh:E.hp f=true)(ha:args.toList.map (opA fr)++cs=as)(h:HB P E call k (E.off+dd.getD 0) f as hp R PR)
  (hr: ∀v hp',R v hp'→Wo P E k call all os ⟨setd fr dd v,hp'⟩ Q PQ) (hq: ∀v hp',PR v hp'→PQ v hp'):Wo P E k call all (⟨dd,.call ⟨.value x,args,ats⟩,ty,pos,aft,none⟩::os) ⟨fr,hp⟩ Q PQ:=by
 refine Wo_pc hx hok hlt ?_
 rcases h with⟨v,hp',h1,h2⟩|⟨n,v,hp',h1,h2⟩
 ·exact .inl ⟨v,hp',(call_run hx hok hlt hh ha).trans h1,hr _ _ h2⟩
 ·exact .inr ⟨n,v,hp',by rw[ha];exact h1,hq _ _ h2⟩
end
section
variable {P:Program}{k d:Nat}{ts:List TypeId}{rvs:List ResultVar}{R:AV→Hp→Prop}{PR:Value→Hp→Prop}{st:AS}{v:AV}{hp':Hp}
theorem EndB_ret (h:(lowerRes P st.fr k d rvs).run st.hp=some (v,hp'))(r:R v hp'):EndB P k d rvs R PR .ret st:=⟨v,hp',h,r⟩
theorem EndB_normal (h:(lowerRes P st.fr k d rvs).run st.hp=some (v,hp'))(r:R v hp'):EndB P k d rvs R PR .normal st:=⟨v,hp',h,r⟩
theorem EndBZ_ret (h:(frzRes P st.fr ts rvs).run st.hp=some (v,hp'))(r:R v hp'):EndBZ P ts rvs R PR .ret st:=⟨v,hp',h,r⟩
theorem panE_b {v:Value}{hp:Hp}(h:PR v hp):panQ (EndB P k d rvs R PR) v hp:=h
theorem panE_z {v:Value}{hp:Hp}(h:PR v hp):panQ (EndBZ P ts rvs R PR) v hp:=h
end
/-! ### regions that draw their order,with a call -/
section
variable {P:Program}{E:Cfg}{k:Nat}{call:Orc}
theorem W_rdp {l:List Oper}{c id n f:Nat}{st:AS}{frF:Nat→AV}{dd:Option Nat}{x:Operand}{args:Array Operand}{ats:Array TypeId}{ty:TypeId}{pos:String}{aft:Array Edge}{as cs:List AV}{v:Value}{hp':Hp}{QQ:Ex→AS→Prop}(hpk:pickC l.toArray c=true){idx:List Nat}(hi:((List.range l.toArray.size).filter fun j=>freeB l.toArray c j)=idx)(hf:Free P E k call st.hp (idx.map fun j=>l.toArray.getD j default) st.fr frF)
  (hc:l.toArray[c]?=some ⟨dd,.call ⟨.value x,args,ats⟩,ty,pos,aft,none⟩) (hx:opA frF x= .fn f cs) (hok:okFn P f=true) (hlt:f<1000000) (ha:args.toList.map (opA frF)++cs=as) (h:Pan P E call (.fn k f as st.hp) n v hp') (hq:panQ QQ v hp'):W P E k call (.region id l.toArray true) st QQ:=
 W_pan (.draw hpk (by unfold frees;rw[hi];exact hf) hc rfl rfl hx hok hlt (by rw[ha];exact h)) hq
theorem W_srdp {l:List Oper}{c id n f:Nat}{st:AS}{frF:Nat→AV}{dd:Option Nat}{x:Operand}{args:Array Operand}{ats:Array TypeId}{ty:TypeId}{pos:String}{aft:Array Edge}{as cs:List AV}{v:Value}{hp':Hp}{B:Code}{QQ:Ex→AS→Prop}(hpk:pickC l.toArray c=true){idx:List Nat}(hi:((List.range l.toArray.size).filter fun j=>freeB l.toArray c j)=idx)(hf:Free P E k call st.hp (idx.map fun j=>l.toArray.getD j default) st.fr frF)
  (hc:l.toArray[c]?=some ⟨dd,.call ⟨.value x,args,ats⟩,ty,pos,aft,none⟩) (hx:opA frF x= .fn f cs) (hok:okFn P f=true) (hlt:f<1000000) (ha:args.toList.map (opA frF)++cs=as) (h:Pan P E call (.fn k f as st.hp) n v hp') (hq:panQ QQ v hp'):W P E k call (.seq (.region id l.toArray true) B) st QQ:=
 W_seq (W_rdp hpk hi hf hc hx hok hlt ha h hq)
theorem W_srdB {l:List Oper}{c id f d:Nat}{fr frF:Nat→AV}{hp:Hp}{x:Operand}{args:Array Operand}{ats:Array TypeId}{ty:TypeId}{pos:String}{aft:Array Edge}{as cs:List AV}{B:Code}{QQ:Ex→AS→Prop}{R:AV→Hp→Prop}{PR:Value→Hp→Prop}(hpk:pickC l.toArray c=true){idx:List Nat}(hi:((List.range l.toArray.size).filter fun j=>freeB l.toArray c j)=idx)(hf:Free P E k call hp (idx.map fun j=>l.toArray.getD j default) fr frF)
  (hc:l.toArray[c]?=some ⟨some d,.call ⟨.value x,args,ats⟩,ty,pos,aft,none⟩) (hx:opA frF x= .fn f cs) (hok:okFn P f=true) (hlt:f<1000000) (ha:args.toList.map (opA frF)++cs=as) (h:HB P E call k d f as hp R PR)
  (hv: ∀v hp',call.hpc k d f as hp=some (v,hp')→R v hp'→W P E k call (.seq (.region id l.toArray true) B) ⟨fr,hp⟩ QQ) (hq: ∀v hp',PR v hp'→panQ QQ v hp'):W P E k call (.seq (.region id l.toArray true) B) ⟨fr,hp⟩ QQ:=by
 rcases h with⟨v,hp',h1,h2⟩|⟨n,v,hp',h1,h2⟩
 ·exact hv v hp' h1 h2
 ·exact W_srdp (st:=⟨fr,hp⟩) hpk hi hf hc hx hok hlt ha h1 (hq v hp' h2)
theorem W_rdB {l:List Oper}{c id f d:Nat}{fr frF:Nat→AV}{hp:Hp}{x:Operand}{args:Array Operand}{ats:Array TypeId}{ty:TypeId}{pos:String}{aft:Array Edge}{as cs:List AV}{QQ:Ex→AS→Prop}{R:AV→Hp→Prop}{PR:Value→Hp→Prop}(hpk:pickC l.toArray c=true){idx:List Nat}(hi:((List.range l.toArray.size).filter fun j=>freeB l.toArray c j)=idx)(hf:Free P E k call hp (idx.map fun j=>l.toArray.getD j default) fr frF)
  (hc:l.toArray[c]?=some ⟨some d,.call ⟨.value x,args,ats⟩,ty,pos,aft,none⟩) (hx:opA frF x= .fn f cs) (hok:okFn P f=true) (hlt:f<1000000) (ha:args.toList.map (opA frF)++cs=as) (h:HB P E call k d f as hp R PR)
  (hv: ∀v hp',call.hpc k d f as hp=some (v,hp')→R v hp'→W P E k call (.region id l.toArray true) ⟨fr,hp⟩ QQ) (hq: ∀v hp',PR v hp'→panQ QQ v hp'):W P E k call (.region id l.toArray true) ⟨fr,hp⟩ QQ:=by
 rcases h with⟨v,hp',h1,h2⟩|⟨n,v,hp',h1,h2⟩
 ·exact hv v hp' h1 h2
 ·exact W_rdp (st:=⟨fr,hp⟩) hpk hi hf hc hx hok hlt ha h1 (hq v hp' h2)
theorem W_rdt {l:List Oper}{c id:Nat}{st:AS}{frF:Nat→AV}{dd:Option Nat}{x:Operand}{ty:TypeId}{pos:String}{aft:Array Edge}{t:TypeId}{u:Value}{QQ:Ex→AS→Prop}(hpk:pickC l.toArray c=true){idx:List Nat}(hi:((List.range l.toArray.size).filter fun j=>freeB l.toArray c j)=idx)(hf:Free P E k call st.hp (idx.map fun j=>l.toArray.getD j default) st.fr frF)
  (hc:l.toArray[c]?=some ⟨dd,.panic x,ty,pos,aft,none⟩) (hx:opA frF x= .sc (.iface t u)) (hq:panQ QQ (.iface t u) st.hp):W P E k call (.region id l.toArray true) st QQ:=
 W_pan (.drawP (n:=0) hpk (by unfold frees;rw[hi];exact hf) hc rfl rfl hx) hq
theorem Free_cons {os:List Oper}{fr fr':Nat→AV}{hp:Hp}{dd:Option Nat}{op:Op}{ty:TypeId}{pos:String}{aft:Array Edge}{v:AV}(h:(evOp P E k call fr ⟨dd,op,ty,pos,aft,none⟩).run hp=some (v,hp))(r:Free P E k call hp os (setd fr dd v) fr'):Free P E k call hp (⟨dd,op,ty,pos,aft,none⟩::os) fr fr':= .cons rfl h r
theorem W_srdt {l:List Oper}{c id:Nat}{st:AS}{frF:Nat→AV}{dd:Option Nat}{x:Operand}{ty:TypeId}{pos:String}{aft:Array Edge}{t:TypeId}{u:Value}{B:Code}{QQ:Ex→AS→Prop}(hpk:pickC l.toArray c=true){idx:List Nat}(hi:((List.range l.toArray.size).filter fun j=>freeB l.toArray c j)=idx)(hf:Free P E k call st.hp (idx.map fun j=>l.toArray.getD j default) st.fr frF)
  (hc:l.toArray[c]?=some ⟨dd,.panic x,ty,pos,aft,none⟩) (hx:opA frF x= .sc (.iface t u)) (hq:panQ QQ (.iface t u) st.hp):W P E k call (.seq (.region id l.toArray true) B) st QQ:=
 W_seq (W_rdt hpk hi hf hc hx hq)
@[simp] theorem Cfg.dry_ws (E:Cfg):E.dry.ws=E.ws:=rfl
@[simp] theorem Cfg.dry_cl (E:Cfg):E.dry.cl=E.cl:=rfl
def Seen (E:Cfg)(k:Nat)(hp hp':Hp)(y:Facet):Prop:=(match y with| .top=>False| .but _=>False|_=>True)∧y.nm.d=k∧E.off≤y.nm.i∧y.nm.i<E.off+E.ws∧y.nm.c<6∧hp y.nm=hp' y.nm
theorem seen_has {hp hp':Hp}(hcl:E.cl=true){y:Facet}(h:Seen E k hp hp' y):((((List.range E.ws).flatMap fun i=>(List.range 6).map fun c=>(⟨k,E.off+i,c⟩:Nm))).filter fun x=>if E.cl then eqP (hp x) (hp' x) else eqO (hp x) (hp' x)).contains y.nm=true:=by
 obtain⟨_,hd,ho,hi,hc,he⟩:=h
 refine List.contains_iff_mem.2 (List.mem_filter.2 ⟨List.mem_flatMap.2 ⟨y.nm.i - E.off,List.mem_range.2 (by omega),List.mem_map.2 ⟨y.nm.c,List.mem_range.2 hc,?_⟩⟩,?_⟩)
 ·rw[←hd,show E.off+(y.nm.i - E.off)=y.nm.i from by omega]
 rw[if_pos hcl]
 exact eqP_of he
theorem meets_but {l:List Nm}{y:Facet}(hy:match y with| .top=>False| .but _=>False|_=>True)(h:l.contains y.nm=true):Facet.meets (.but l) y=false∧Facet.meets y (.but l)=false:=by
 cases y with
 |top=>exact hy.elim
 |but _=>exact hy.elim
 |all x=>
  have h':x∈l:=by simpa[Facet.nm] using h
  simp[Facet.meets,Facet.nm,h']
 |hd x=>
  have h':x∈l:=by simpa[Facet.nm] using h
  simp[Facet.meets,Facet.nm,h']
 |cl x o=>
  have h':x∈l:=by simpa[Facet.nm] using h
  simp[Facet.meets,Facet.nm,h']
theorem apart_l {hp hp':Hp}{R:List Facet}{g:Foot}(hw:E.ws≠0)(hcl:E.cl=true)(hW:g.W=[])(h: ∀y∈g.R,Seen E k hp hp' y):apartF ⟨R,refW E k hp hp' [.top]⟩ g=true:=by
 have e:refW E k hp hp' [.top]=[.but ((((List.range E.ws).flatMap fun i=>(List.range 6).map fun c=>(⟨k,E.off+i,c⟩:Nm))).filter fun x=>if E.cl then eqP (hp x) (hp' x) else eqO (hp x) (hp' x))]:=by
  simp only[refW,if_neg hw];rw[if_pos (by simp)]
 rw[e]
 simp only[apartF,hW,List.all_cons,List.all_nil,Bool.and_true,List.all_eq_true,Bool.not_eq_true']
 exact fun y hy=>(meets_but (h y hy).1 (seen_has hcl (h y hy))).1
theorem apart_r {hp hp':Hp}{R:List Facet}{g:Foot}(hw:E.ws≠0)(hcl:E.cl=true)(hW:g.W=[])(h: ∀y∈g.R,Seen E k hp hp' y):apartF g ⟨R,refW E k hp hp' [.top]⟩=true:=by
 have e:refW E k hp hp' [.top]=[.but ((((List.range E.ws).flatMap fun i=>(List.range 6).map fun c=>(⟨k,E.off+i,c⟩:Nm))).filter fun x=>if E.cl then eqP (hp x) (hp' x) else eqO (hp x) (hp' x))]:=by
  simp only[refW,if_neg hw];rw[if_pos (by simp)]
 rw[e]
 simp only[apartF,hW,List.all_cons,List.all_nil,Bool.true_and,Bool.and_true,List.all_eq_true,Bool.not_eq_true']
 exact fun y hy=>(meets_but (h y hy).1 (seen_has hcl (h y hy))).1
def loose (all:Array Oper):List (Nat×Nat):=(List.range all.size).flatMap fun j=>((List.range j).filter fun i=> !(((waits all.toList []).getD j 0).testBit i)).map fun i=>(i,j)
theorem drawF_of {all:Array Oper}{fs:List Foot}{ps:List (Nat×Nat)}(hp:loose all=ps)(h: ∀p∈ps,apartF (fs.getD p.1 ⟨[],[]⟩) (fs.getD p.2 ⟨[],[]⟩)=true):drawF all fs=true:=by
 simp only[drawF,List.all_eq_true,List.mem_range,Bool.or_eq_true]
 intro j hj i hi
 cases ht:((waits all.toList []).getD j 0).testBit i with
 |true=>exact .inl rfl
 |false=>
  right
  refine h (i,j) ?_
  rw[←hp]
  exact List.mem_flatMap.2 ⟨j,List.mem_range.2 hj,List.mem_map.2 ⟨i,List.mem_filter.2 ⟨List.mem_range.2 hi,by rw[ht];rfl⟩,rfl⟩⟩
end
/-! ### base oracles -/
def SemD (P:Program)(f:Nat)(args rs:List AV):Prop:=okFn P f=true→ ∀(I:Nat→Prop) (w:World) (us:List Value),(∀b,I b→b<w.heap.size)→GlOk I w→AllR (RepA I w) args us→
 Calls P f ⟨us⟩ w (fun e w'=> ∃u,e= .returned u∧CallPost P I w (rtys P f) rs u w')
def SemH (P:Program)(k f:Nat)(args:List AV)(hp:Hp)(v:AV)(hp':Hp):Prop:=okFn P f=true→ ∀(I K:Nat→Prop) (m:Mp) (w:World) (us:List Value),Gam I K m hp w→AllR (Rep k I m hp w) args us→
 Calls P f ⟨us⟩ w (fun e w'=> ∃u,e= .returned u∧ ∃I' m',Sim I' K m' hp' w' v k I m hp w u)
open Classical in
noncomputable def semX (P:Program) (Rd:Nat→List AV→List AV→Prop) (Rh:Nat→Nat→List AV→Hp→AV→Hp→Prop):Orc where
 dat:=fun f a=>if h: ∃r,SemD P f a r∧Rd f a r then some (Classical.choose h) else none
 hpc:=fun k _ f a hp=>if h: ∃r:AV×Hp,SemH P k f a hp r.1 r.2∧Rh k f a hp r.1 r.2 then some (Classical.choose h) else none
theorem semX_ok (P:Program)(Rd:Nat→List AV→List AV→Prop)(Rh:Nat→Nat→List AV→Hp→AV→Hp→Prop):OrcOk P (semX P Rd Rh):=by
 refine⟨fun f args rs h hok I w us h1 h2 h3=>?_,fun k d f args hp v hp' h hok I K m w us h1 h2=>?_⟩
 ·simp only[semX] at h
  split at h
  ·rename_i hex
   have:=Classical.choose_spec hex
   simp only[Option.some.injEq] at h
   rw[h] at this
   exact this.1 hok I w us h1 h2 h3
  ·cases h
 ·simp only[semX] at h
  split at h
  ·rename_i hex
   have:=Classical.choose_spec hex
   simp only[Option.some.injEq] at h
   rw[h] at this
   exact this.1 hok I K m w us h1 h2
  ·cases h
theorem semX_dat {P:Program}{Rd:Nat→List AV→List AV→Prop}{Rh:Nat→Nat→List AV→Hp→AV→Hp→Prop}{f:Nat}{a r:List AV}(h:SemD P f a r)(hr:Rd f a r): ∃r',(semX P Rd Rh).dat f a=some r'∧Rd f a r':=by
 have hex: ∃r,SemD P f a r∧Rd f a r:=⟨r,h,hr⟩
 refine⟨Classical.choose hex,?_,(Classical.choose_spec hex).2⟩
 simp only[semX]
 rw[dif_pos hex]
theorem semX_hpc {P:Program}{Rd:Nat→List AV→List AV→Prop}{Rh:Nat→Nat→List AV→Hp→AV→Hp→Prop}{k d f:Nat}{a:List AV}{hp hp':Hp}{v:AV}(h:SemH P k f a hp v hp')(hr:Rh k f a hp v hp'): ∃v hp',(semX P Rd Rh).hpc k d f a hp=some (v,hp')∧Rh k f a hp v hp':=by
 have hex: ∃r:AV×Hp,SemH P k f a hp r.1 r.2∧Rh k f a hp r.1 r.2:=⟨(v,hp'),h,hr⟩
 refine⟨(Classical.choose hex).1,(Classical.choose hex).2,?_,(Classical.choose_spec hex).2⟩
 simp only[semX]
 rw[dif_pos hex]
theorem semX_dat_none {P:Program}{Rd:Nat→List AV→List AV→Prop}{Rh:Nat→Nat→List AV→Hp→AV→Hp→Prop}{f:Nat}{a:List AV}(h: ∀r,¬Rd f a r):(semX P Rd Rh).dat f a=none:=by
 simp only[semX]
 rw[dif_neg (fun⟨r,_,h2⟩=>h r h2)]
theorem semX_hpc_none {P:Program}{Rd:Nat→List AV→List AV→Prop}{Rh:Nat→Nat→List AV→Hp→AV→Hp→Prop}{k d f:Nat}{a:List AV}{hp:Hp}(h: ∀v hp',¬Rh k f a hp v hp'):(semX P Rd Rh).hpc k d f a hp=none:=by
 simp only[semX]
 rw[dif_neg (fun⟨r,_,h2⟩=>h r.1 r.2 h2)]
theorem lim_base_dat {P:Program}{E:Cfg}{X:Orc}{f:Nat}{a r:List AV}(h:X.dat f a=some r):(lim P E X).dat f a=some r:=lim_dat.2 ⟨0,h⟩
theorem lim_base_hpc {P:Program}{E:Cfg}{X:Orc}{k d f:Nat}{a:List AV}{hp:Hp}{r:AV×Hp}(h:X.hpc k d f a hp=some r):(lim P E X).hpc k d f a hp=some r:=lim_hpc.2 ⟨0,h⟩
theorem Zk {α:Type _}{a:α}{l:List α}{p:α→Prop}(hl: ∀x∈l,p x)(h:p a:=by kernel_rfl): ∀x∈a::l,p x:=List.forall_mem_cons.2 ⟨h,hl⟩
theorem Zs {α:Type _}{a:α}{l:List α}{p:α→Prop}(hl: ∀x∈l,p x)(h:p a:=by simp[apartF,refW,Facet.meets,Facet.nm]): ∀x∈a::l,p x:=List.forall_mem_cons.2 ⟨h,hl⟩
theorem Zz {α:Type _}{p:α→Prop}: ∀x∈([]:List α),p x:=fun p hp=>by cases hp
theorem Zl {d k:Nat}(h:d≤k):d≠k+1:=by omega
theorem Zc {α:Sort _}{a b:α}(h:a=b:=by(conv=>lhs;simp -implicitDefEqProofs [*])<;>exact rfl):a=b:=h
theorem Z5 {p:Prop}(h:p:=by first|exact Zc|decide):p:=h
theorem ZN {p q:Prop}(hq:q)(h:RowKit.Hid q→p:=by
 intro hq
 first|((with_reducible first|apply Wo_u|apply Wo_n|apply ex2|apply Wd_u|apply Wd_n|apply ex4|apply EndQ_ret|apply EndQ_normal|apply EndB_ret|apply EndB_normal|apply EndBZ_ret|apply EndBZ_normal);exact Zc)|(with_reducible first|apply Wo_nil|apply W_ss|apply W_srl|apply W_rl|apply W_sblock|apply W_block|apply W_sskip|apply W_skip|apply W_sret|apply W_ret|apply W_sexit|apply W_exit|apply thenW_n|apply thenW_r|apply thenW_e|apply thenW_p|apply inB_n|apply inB_r|apply inB_e|apply inB_p|apply panW|apply panB|apply panE_b|apply panE_z)|((with_reducible apply Wo_gt);(exact rfl);(exact Zc);exact Zc)|((with_reducible apply Wo_gf);(exact rfl);(exact Zc);(exact rfl))|((with_reducible apply Wo_gx);(exact rfl);(exact Zc))|((with_reducible apply Wd_gx);(exact rfl);(exact Zc))|((with_reducible first|apply W_srdl|apply W_rdl);kernel_rfl)|((with_reducible apply Wd_nil);kernel_rfl)|((with_reducible apply inB_o);rotate_left;exact rfl)|((with_reducible apply Wo_panic);exact Zc)
 repeat (first|((with_reducible first|apply Wo_u|apply Wo_n|apply ex2|apply Wd_u|apply Wd_n|apply ex4|apply EndQ_ret|apply EndQ_normal|apply EndB_ret|apply EndB_normal|apply EndBZ_ret|apply EndBZ_normal);exact Zc)|(with_reducible first|apply Wo_nil|apply W_ss|apply W_srl|apply W_rl|apply W_sblock|apply W_block|apply W_sskip|apply W_skip|apply W_sret|apply W_ret|apply W_sexit|apply W_exit|apply thenW_n|apply thenW_r|apply thenW_e|apply thenW_p|apply inB_n|apply inB_r|apply inB_e|apply inB_p|apply panW|apply panB|apply panE_b|apply panE_z)|((with_reducible apply Wo_gt);(exact rfl);(exact Zc);exact Zc)|((with_reducible apply Wo_gf);(exact rfl);(exact Zc);(exact rfl))|((with_reducible apply Wo_gx);(exact rfl);(exact Zc))|((with_reducible apply Wd_gx);(exact rfl);(exact Zc))|((with_reducible first|apply W_srdl|apply W_rdl);kernel_rfl)|((with_reducible apply Wd_nil);kernel_rfl)|((with_reducible apply inB_o);rotate_left;exact rfl)|((with_reducible apply Wo_panic);exact Zc))
 exact hq.out):p:=h hq
theorem Z1 {p q:Prop}(hq:q)(h:RowKit.Hid q→p:=by
 intro hq
 first|((with_reducible first|apply Wo_u|apply Wo_n|apply ex2|apply Wd_u|apply Wd_n|apply ex4|apply EndQ_ret|apply EndQ_normal|apply EndB_ret|apply EndB_normal|apply EndBZ_ret|apply EndBZ_normal);exact Zc)|(with_reducible first|apply Wo_nil|apply W_ss|apply W_srl|apply W_rl|apply W_sblock|apply W_block|apply W_sskip|apply W_skip|apply W_sret|apply W_ret|apply W_sexit|apply W_exit|apply thenW_n|apply thenW_r|apply thenW_e|apply thenW_p|apply inB_n|apply inB_r|apply inB_e|apply inB_p|apply panW|apply panB|apply panE_b|apply panE_z)|((with_reducible apply Wo_gt);(exact rfl);(exact Zc);exact Zc)|((with_reducible apply Wo_gf);(exact rfl);(exact Zc);(exact rfl))|((with_reducible apply Wo_gx);(exact rfl);(exact Zc))|((with_reducible apply Wd_gx);(exact rfl);(exact Zc))|((with_reducible first|apply W_srdl|apply W_rdl);kernel_rfl)|((with_reducible apply Wd_nil);kernel_rfl)|((with_reducible apply inB_o);rotate_left;exact rfl)|((with_reducible apply Wo_panic);exact Zc)
 exact hq.out):p:=h hq
theorem Z2 {p q r:Prop}(hq:q)(hr:r)(h:RowKit.Hid q→RowKit.Hid r→p:=by
 intro hq hr
 first|((with_reducible first|apply W_sc|apply W_c);exact Zc)|((with_reducible apply Wo_gsT);(exact rfl);(exact Zc))|((with_reducible apply Wo_gsF);(exact rfl);(exact Zc))|((with_reducible apply Wd_gsT);(exact rfl);(exact Zc))|((with_reducible apply Wd_gsF);(exact rfl);(exact Zc))
 exact hq.out
 exact hr.out):p:=h hq hr
theorem Zw {p:Prop}(h:p:=by constructor;((conv=>lhs;simp -implicitDefEqProofs [*,-Int.natCast_add])<;>exact rfl);exact Zc;assumption;omega):p:=h
theorem Zx {p:Prop}(h:p:=by exact⟨⟨_,rfl⟩,fun d i c hd hne=>(hpf d i c (by omega) hne).trans (by have hd2:d≠k+3:=(by omega);first|exact HF.out d i c hd hne|(simp[*];done)|(simp[*];exact HF.out d i c hd hne))⟩):p:=h
theorem ZG {p:Prop}(h:p:=by refine GT.congr hcs ?_;intro i c hi;simp):p:=h
theorem ZL {p:Prop}(h:p:=by refine LT.congr hcs ?_;intro i c;simp):p:=h
theorem ZC {p:Prop}(h:p:=by refine CS.congr hcs ?_;intro i c;simp[*]):p:=h
theorem ZT {p:Prop}(h:p:=by first|omega|((try simp);omega)):p:=h
theorem ZU {p:Prop}(h:p:=by(try simp);omega):p:=h
theorem Z8 {p:Prop}(h:p:=by simp (maxDischargeDepth:=8) [*]):p:=h
theorem ZD {p:Prop}(h:p:=by
 rw[f1,f2,f3,f4]
 rcases ht with rfl|rfl
 ·rw[g0,g2];clear g0 g1 g2 g3 f1 f2 f3 f4 e1 e2 hs hx hr hq;omega
 ·rw[g1,g3];clear g0 g1 g2 g3 f1 f2 f3 f4 e1 e2 hs hx hr hq;omega):p:=h
theorem Zv {a b c d e:Prop}(ha:a:=by exact Z5)(hb:b:=by exact Z5)(hc:c:=by exact Z5)(hd:d:=by exact Z5)(he:e:=by exact Z5):a∧b∧c∧d∧e:=⟨ha,hb,hc,hd,he⟩
theorem Ap {P:Program}{E:Cfg}{k:Nat}{call:Orc}{all:Array Oper}{os:List Oper}{fr:Nat→AV}{hp:Hp}{Q:AS→Prop}{PQ:Value→Hp→Prop}{dd:Option Nat}{x:Operand}{args:Array Operand}{ats:Array TypeId}{ty:TypeId}{pos:String}{aft:Array Edge}{f:Nat}{as cs:List AV}{R:AV→Hp→Prop}(h5:opA fr x= .fn f cs∧okFn P f=true∧f<1000000∧E.hp f=true∧args.toList.map (opA fr)++cs=as)(h:HB P E call k (E.off+dd.getD 0) f as hp R (fun _ _=>False))(hr: ∀v hp',R v hp'→Wo P E k call all os ⟨setd fr dd v,hp'⟩ Q PQ):Wo P E k call all (⟨dd,.call ⟨.value x,args,ats⟩,ty,pos,aft,none⟩::os) ⟨fr,hp⟩ Q PQ:=Wo_call h5.1 h5.2.1 h5.2.2.1 h5.2.2.2.1 h5.2.2.2.2 h hr (fun _ _ h=>h.elim)
theorem Aq {P:Program}{E:Cfg}{k:Nat}{call:Orc}{all:Array Oper}{os:List Oper}{fr:Nat→AV}{hp:Hp}{Q:AS→Prop}{PQ:Value→Hp→Prop}{dd:Option Nat}{x:Operand}{args:Array Operand}{ats:Array TypeId}{ty:TypeId}{pos:String}{aft:Array Edge}{f:Nat}{as cs:List AV}{R:AV→Hp→Prop}{PR:Value→Hp→Prop}(h5:opA fr x= .fn f cs∧okFn P f=true∧f<1000000∧E.hp f=true∧args.toList.map (opA fr)++cs=as)(h:HB P E call k (E.off+dd.getD 0) f as hp R PR)(hr: ∀v hp',R v hp'→Wo P E k call all os ⟨setd fr dd v,hp'⟩ Q PQ)(hq: ∀v hp',PR v hp'→PQ v hp'):Wo P E k call all (⟨dd,.call ⟨.value x,args,ats⟩,ty,pos,aft,none⟩::os) ⟨fr,hp⟩ Q PQ:=Wo_call h5.1 h5.2.1 h5.2.2.1 h5.2.2.2.1 h5.2.2.2.2 h hr hq
def looseB (all:Array Oper)(fs:List Foot)(ex:List (Nat×Nat)):Bool:=(loose all).all fun p=>ex.contains p||apartF (fs.getD p.1 ⟨[],[]⟩) (fs.getD p.2 ⟨[],[]⟩)
theorem Dx {all:Array Oper}{fs:List Foot}(ex:List (Nat×Nat))(h: ∀p∈ex,apartF (fs.getD p.1 ⟨[],[]⟩) (fs.getD p.2 ⟨[],[]⟩)=true)(hp:looseB all fs ex=true:=by kernel_rfl):drawF all fs=true:=by
 refine drawF_of rfl fun p hq=>?_
 have:=List.all_eq_true.1 hp p hq
 rcases Bool.or_eq_true _ _▸this with h1|h1
 ·exact h p (by simpa using h1)
 ·exact h1
theorem Z6 {α:Sort _}{a b:α}(h:a=b:=by(conv=>lhs;simp -implicitDefEqProofs (maxDischargeDepth:=6) [*])<;>exact rfl):a=b:=h
theorem Zp {p q:Prop}(hq:q)(h:RowKit.Hid q→p:=by
 intro hq
 first|((with_reducible first|apply Wo_u|apply Wo_n|apply ex2|apply Wd_u|apply Wd_n|apply ex4|apply EndQ_ret|apply EndQ_normal|apply EndB_ret|apply EndB_normal|apply EndBZ_ret|apply EndBZ_normal);exact Z6)|(with_reducible first|apply Wo_nil|apply W_ss|apply W_srl|apply W_rl|apply W_sblock|apply W_block|apply W_sskip|apply W_skip|apply W_sret|apply W_ret|apply W_sexit|apply W_exit|apply thenW_n|apply thenW_r|apply thenW_e|apply thenW_p|apply inB_n|apply inB_r|apply inB_e|apply inB_p|apply panW|apply panB|apply panE_b|apply panE_z)|((with_reducible apply Wo_gt);(exact rfl);(exact Z6);exact Z6)|((with_reducible apply Wo_gf);(exact rfl);(exact Z6);(exact rfl))|((with_reducible apply Wo_gx);(exact rfl);(exact Z6))|((with_reducible apply Wd_gx);(exact rfl);(exact Z6))|((with_reducible first|apply W_srdl|apply W_rdl);kernel_rfl)|((with_reducible apply Wd_nil);kernel_rfl)|((with_reducible apply inB_o);rotate_left;exact rfl)|((with_reducible apply Wo_panic);exact Z6)
 repeat (first|((with_reducible first|apply Wo_u|apply Wo_n|apply ex2|apply Wd_u|apply Wd_n|apply ex4|apply EndQ_ret|apply EndQ_normal|apply EndB_ret|apply EndB_normal|apply EndBZ_ret|apply EndBZ_normal);exact Z6)|(with_reducible first|apply Wo_nil|apply W_ss|apply W_srl|apply W_rl|apply W_sblock|apply W_block|apply W_sskip|apply W_skip|apply W_sret|apply W_ret|apply W_sexit|apply W_exit|apply thenW_n|apply thenW_r|apply thenW_e|apply thenW_p|apply inB_n|apply inB_r|apply inB_e|apply inB_p|apply panW|apply panB|apply panE_b|apply panE_z)|((with_reducible apply Wo_gt);(exact rfl);(exact Z6);exact Z6)|((with_reducible apply Wo_gf);(exact rfl);(exact Z6);(exact rfl))|((with_reducible apply Wo_gx);(exact rfl);(exact Z6))|((with_reducible apply Wd_gx);(exact rfl);(exact Z6))|((with_reducible first|apply W_srdl|apply W_rdl);kernel_rfl)|((with_reducible apply Wd_nil);kernel_rfl)|((with_reducible apply inB_o);rotate_left;exact rfl)|((with_reducible apply Wo_panic);exact Z6))
 exact hq.out):p:=h hq
theorem Zq {p q:Prop}(hq:q)(h:RowKit.Hid q→p:=by
 intro hq
 first|((with_reducible first|apply Wo_u|apply Wo_n|apply ex2|apply Wd_u|apply Wd_n|apply ex4|apply EndQ_ret|apply EndQ_normal|apply EndB_ret|apply EndB_normal|apply EndBZ_ret|apply EndBZ_normal);exact Z6)|(with_reducible first|apply Wo_nil|apply W_ss|apply W_srl|apply W_rl|apply W_sblock|apply W_block|apply W_sskip|apply W_skip|apply W_sret|apply W_ret|apply W_sexit|apply W_exit|apply thenW_n|apply thenW_r|apply thenW_e|apply thenW_p|apply inB_n|apply inB_r|apply inB_e|apply inB_p|apply panW|apply panB|apply panE_b|apply panE_z)|((with_reducible apply Wo_gt);(exact rfl);(exact Z6);exact Z6)|((with_reducible apply Wo_gf);(exact rfl);(exact Z6);(exact rfl))|((with_reducible apply Wo_gx);(exact rfl);(exact Z6))|((with_reducible apply Wd_gx);(exact rfl);(exact Z6))|((with_reducible first|apply W_srdl|apply W_rdl);kernel_rfl)|((with_reducible apply Wd_nil);kernel_rfl)|((with_reducible apply inB_o);rotate_left;exact rfl)|((with_reducible apply Wo_panic);exact Z6)
 exact hq.out):p:=h hq
theorem Zr {p q r:Prop}(hq:q)(hr:r)(h:RowKit.Hid q→RowKit.Hid r→p:=by
 intro hq hr
 first|((with_reducible first|apply W_sc|apply W_c);exact Z6)|((with_reducible apply Wo_gsT);(exact rfl);(exact Z6))|((with_reducible apply Wo_gsF);(exact rfl);(exact Z6))|((with_reducible apply Wd_gsT);(exact rfl);(exact Z6))|((with_reducible apply Wd_gsF);(exact rfl);(exact Z6))
 exact hq.out
 exact hr.out):p:=h hq hr
end
end Go.Ab
