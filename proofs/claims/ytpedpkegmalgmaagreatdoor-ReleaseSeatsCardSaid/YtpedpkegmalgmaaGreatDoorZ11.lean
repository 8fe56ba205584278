/- A part of the proof: Sz, Sy. -/
import Derived.Test.YtpedpkegmalgmaaGreatDoorZ03
import Derived.Test.YtpedpkegmalgmaaGreatDoorZ10
import Derived.Test.YtpedpkegmalgmaaGreatDoorCards
import Derived.Test.YtpedpkegmalgmaaGreatDoorTie
import Derived.OpenShut
import Derived.Deep.DeepHandedRow
import Derived.Lib.LaidTab
set_option linter.unusedSimpArgs false
set_option linter.unusedVariables false
namespace Go.Proofs.YtpedpkegmalgmaaGreatDoor
section
open Go Go.Ab Go.ChangeShapes Go.WideShapes Go.ChangeAt Go.RowKit
theorem own47 :ownKnob Tryz.prog.godebug=none:=by kernel_rfl
theorem laidOut47 :laidOutB Tryz.prog=true:=by kernel_rfl
theorem rowed47 :mapsRowed Tryz.prog=true:=by kernel_rfl
theorem heard47 :Tryz.prog.stopsHeard=true:=by kernel_rfl
theorem enter47 :Tryz.prog.mayEnter=true:=by kernel_rfl
theorem looks47 :true=Tryz.prog.looks []:=by kernel_rfl
theorem noGo47 :Tryz.prog.funcs.any Func.goes=false:=by kernel_rfl
theorem goes_of {P:Program}(h:P.funcs.any Func.goes=false)(f:FuncId):P.goes f=false:=by
 unfold Program.goes
 rw[h,Bool.and_false,Bool.or_false,List.any_eq_false]
 intro g _ hg
 cases hf:P.funcs[g]? with
 |none=>rw[hf] at hg;cases hg
 |some fn=>
  rw[hf] at hg
  rw[Array.any_eq_false'] at h
  exact h fn (Array.mem_of_getElem? hf) hg
theorem goesBy_of {P:Program}(h:P.funcs.any Func.goes=false){c:OpenClaim}(hs:c.start= .entering):false=c.goesBy P:=by
 unfold OpenClaim.goesBy Program.goesAt Program.goesFrom
 rw[hs]
 cases hf:P.funcNamed c.func with
 |none=>rfl
 |some f=>show false=(P.goes f||false);rw[goes_of h f];rfl
theorem laidVars_mem {P:Program}{w:World}: ∀{l:List (String×DataW Unit)} {ps:List MemPlace},DataW.LaidVars P w l ps→ ∀{n:String} {d:DataW Unit},(n,d)∈l→
  ∃g t cs fuel p,P.globalNamed n=some g∧(P.globals[g]?).map (·.type)=some t∧w.var? P n=some cs∧DataW.trod (fun _=>()) P w 0 (fun _=>true) false fuel t cs.toList=some (d,p)
 |[],_,_,_,_,h=>by cases h
 |(n',d')::r,ps,h,n,d,hm=>by
  obtain⟨g,t,cs,fuel,p,q,h1,h2,h3,h4,h5,_⟩:=h
  rcases List.mem_cons.1 hm with e|e
  ·cases e
   exact⟨g,t,cs,fuel,p,h1,h2,h3,h4⟩
  ·exact laidVars_mem h5 e
theorem tabIs_of_mem {P:Program}{W:World}{name:String}{k:IntKind}{zs:List Int}{l:List (String×DataW Unit)}{g:Nat}{t e:TypeId}{n:Nat}
  (hg:P.globalNamed name=some g) (hty:(P.globals[g]?).map (·.type)=some t) (ht:P.underlying t=some (.array n e)) (he:P.underlying e=some (.int k)) (hce:P.cellsOf e=1) (hct:P.cellsOf t=n)
  (h:laidMet P l W) (hm:(name,Lib.tabData k zs)∈l):Lib.TabIs P W name k zs:=by
 obtain⟨ps,h1,_⟩:=h
 obtain⟨g',t',cs,fuel,p,hg',ht',hvar,hd⟩:=laidVars_mem h1 hm
 obtain rfl:=Option.some.inj (hg.symm.trans hg')
 obtain rfl:=Option.some.inj (hty.symm.trans ht')
 unfold Lib.TabIs
 rw[hvar,←Lib.cells_of_tab ht he hce hct hd]
theorem strs_of_tab {H:Type}{enc:TypeId×Value→H}{P:Program}{w:World}{base:Nat}{sp:Nat→Bool}{held:Bool}{fuel:Nat}{t e:TypeId}{n:Nat}{cs:List Value}{bs:List (List UInt8)}{p:List MemPlace}
  (ht:P.underlying t=some (.array n e)) (he:P.underlying e=some .string) (hce:P.cellsOf e=1) (hct:P.cellsOf t=n)
  (h:DataW.trod enc P w base sp held fuel t cs=some (.agg (bs.map fun b=> .lit (.string b)),p)):cs=bs.map fun b=>Value.string ⟨⟨b⟩⟩:=by
 cases fuel with
 |zero=>simp[DataW.trod] at h
 |succ fuel=>
  simp only[DataW.trod,ht,hce,hct,Nat.mul_one] at h
  split at h
  ·rename_i hl
   obtain⟨xs,hm,hx⟩:=Option.map_eq_some_iff.1 h
   have hxs:xs.map (·.1)=bs.map fun b=>(DataW.lit (.string b):DataW H):=by
    have:=congrArg Prod.fst hx
    simpa using this
   have hxl:xs.length=n:=by simpa using Lib.mapM_length hm
   have hzl:bs.length=n:=by
    have:=congrArg List.length hxs
    simp at this
    omega
   apply List.ext_getElem?
   intro i
   by_cases hi:i<n
   ·obtain⟨b,hb,hf⟩:=Lib.mapM_at hm i i (by simp[hi])
    obtain⟨z,hc,rfl,_⟩:=DataW.trod_string he hf
    have h1:cs[i]?=some (.string z):=by
     have:=congrArg (·[0]?) hc
     simpa[List.getElem?_take,List.getElem?_drop] using this
    have h2:(xs.map (·.1))[i]?=some (DataW.lit (.string z.data.toList):DataW H):=by simp[hb]
    rw[hxs] at h2
    simp only[List.getElem?_map,Option.map_eq_some_iff,DataW.lit.injEq,Lit.string.injEq] at h2
    obtain⟨z',hz',h3⟩:=h2
    rw[h1,List.getElem?_map,hz',h3]
    rfl
   ·rw[List.getElem?_eq_none (by omega),List.getElem?_eq_none (by simp;omega)]
  ·cases h
theorem strs_of_mem {P:Program}{W:World}{name:String}{d:DataW Unit}{bs:List (List UInt8)}{l:List (String×DataW Unit)}{g:Nat}{t e:TypeId}{n:Nat}
  (hg:P.globalNamed name=some g) (hty:(P.globals[g]?).map (·.type)=some t) (ht:P.underlying t=some (.array n e)) (he:P.underlying e=some .string) (hce:P.cellsOf e=1) (hct:P.cellsOf t=n)
  (h:laidMet P l W) (hm:(name,d)∈l) (hd:d= .agg (bs.map fun b=> .lit (.string b))):W.var? P name=some (bs.map fun b=>Value.string ⟨⟨b⟩⟩).toArray:=by
 obtain⟨ps,h1,_⟩:=h
 obtain⟨g',t',cs,fuel,p,hg',ht',hvar,hd'⟩:=laidVars_mem h1 hm
 obtain rfl:=Option.some.inj (hg.symm.trans hg')
 obtain rfl:=Option.some.inj (hty.symm.trans ht')
 rw[hd] at hd'
 rw[hvar,←strs_of_tab ht he hce hct hd']
theorem gl_one {P:Program}{W:World}{name:String}{g:Nat}{vs:List Value}(h:W.var? P name=some vs.toArray)(hg:P.globalNamed name=some g)(h0:0<vs.length):
  There W g∧CellsAt W g 0 vs∧ ∀(cs:Array Value) (t:TypeId) (mk:Nat×Nat),W.heap[g]?=some (.cells cs t mk)→cs.size=vs.length:=by
 have hc: ∀j v,vs[j]?=some v→W.cell? ⟨g,j,none⟩=some v:=fun j v hj=>by
  have hl:=(List.getElem?_eq_some_iff.1 hj).1
  have:=World.var?_cell hg h j
  rw[this]
  simpa using hj
 refine⟨(spot_none (hc 0 _ (List.getElem?_eq_getElem h0))).2,fun j v hj=>by rw[Nat.zero_add];exact hc j v hj,fun cs t mk hcs=>?_⟩
 unfold World.var? at h
 rw[hg] at h
 simp only[Option.bind_some,hcs,Option.some.injEq] at h
 rw[h];simp
theorem gPlaces :Tryz.prog.globalNamed "seedcorn/digest.places" =some 0:=by kernel_rfl
theorem gSigns :Tryz.prog.globalNamed "seedcorn/token.signs" =some 1:=by kernel_rfl
theorem gWords :Tryz.prog.globalNamed "seedcorn/token.words" =some 2:=by kernel_rfl
def signL :List (List UInt8):=[[60,60],[62,62],[61,61],[38,38],[124,124],[40],[41],[123],[125],[91],[93],[59],[44],[61],[43],[45],[42],[47],[37],[38],[124],[94],[60],[33]]
def wordL :List (List UInt8):=[[118,97,114],[97,114,114,97,121],[102,117,110,99],[119,111,114,100],[105,102],[101,108,115,101],[119,104,105,108,101],[114,101,116,117,114,110],[112,117,116],[103,101,116]]
theorem gl_of {W:World}{l:List (String×DataW Unit)}(h:laidMet Tryz.prog l W)(h1:("seedcorn/digest.places",Lib.tabData .i64 [7,9,13,18])∈l)(h2:("seedcorn/token.words",Rows.laid_seedcorn_token_words)∈l)(h3:("seedcorn/token.signs",Rows.laid_seedcorn_token_signs)∈l):GlOk (There W) W:=by
 have t1:=tabIs_of_mem (t:=130) (e:=3) (n:=4) gPlaces (by kernel_rfl) (by kernel_rfl) (by kernel_rfl) (by kernel_rfl) (by kernel_rfl) h h1
 have t2:=strs_of_mem (t:=435) (e:=9) (n:=10) (bs:=wordL) gWords (by kernel_rfl) (by kernel_rfl) (by kernel_rfl) (by kernel_rfl) (by kernel_rfl) h h2 rfl
 have t3:=strs_of_mem (t:=357) (e:=9) (n:=24) (bs:=signL) gSigns (by kernel_rfl) (by kernel_rfl) (by kernel_rfl) (by kernel_rfl) (by kernel_rfl) h h3 rfl
 intro g vs hg
 unfold globT at hg
 split at hg
 ·cases hg;exact gl_one t1 gPlaces (by decide)
 ·cases hg;exact gl_one t3 gSigns (by decide)
 ·cases hg;exact gl_one t2 gWords (by decide)
 ·cases hg
def laidVals :DataW Unit→Array Value
 | .agg ds=>(ds.map fun d=>match d with
  | .lit (.int k n)=>Value.int k n
  | .lit (.string bs)=> .string ⟨⟨bs⟩⟩
  |_=> .bool false).toArray
 |_=> #[]
def laidObj (d:DataW Unit):Obj→Obj
 | .cells _ t frozen=> .cells (laidVals d) t frozen
 |o=>o
noncomputable def laidWorld (os:Os):World:=
 {World.holding Tryz.prog os ⟨#[],#[],[]⟩ with heap:=((((World.holding Tryz.prog os ⟨#[],#[],[]⟩).heap.modify 0 (laidObj Rows.laid_seedcorn_digest_places)).modify 2 (laidObj Rows.laid_seedcorn_token_words)).modify 1 (laidObj Rows.laid_seedcorn_token_signs))}
end
section
open Go Go.Ab Go.ChangeShapes Go.WideShapes Go.ChangeAt Go.RowKit
section
variable {H:Type}{enc:TypeId×Value→H}{w:World}{N:Nat}
theorem repDL_app {I:Nat→Prop}{xs ys:List AV}{us vs:List Value}(h1:RepDL I w xs us)(h2:RepDL I w ys vs):RepDL I w (xs++ys) (us++vs):=
 (RepDL_iff _ _).2 (((RepDL_iff _ _).1 h1).append ((RepDL_iff _ _).1 h2))
theorem rep_step {I:Nat→Prop}{xs ys:List AV}{cs:List Value}{o s o':Nat}(h:o+s=o')(h1:RepDL I w xs ((cs.drop o).take s))(h2:RepDL I w ys (cs.drop o')):RepDL I w (xs++ys) (cs.drop o):=by
 subst h
 rw[←List.drop_drop] at h2
 have:=repDL_app h1 h2
 rwa [List.take_append_drop] at this
theorem rep_end {I:Nat→Prop}{cs:List Value}{o:Nat}(h:cs.length=o):RepDL I w [] (cs.drop o):=by
 rw[List.drop_of_length_le (by omega)]
 simp[RepDL]
theorem u32_range {n:Int}(h:(Lit.int .u32 n).wf=true):Q.U n:=by
 have e:IntKind.u32.min=0:=rfl
 have e2:IntKind.u32.max=4294967295:=rfl
 simp[Lit.wf] at h
 unfold Q.U
 first|omega|(simp[IntKind.inRange,e,e2] at h;omega)
def riR (n:Int):List AV:=[iv n]
def rtR (s:ByteArray):List AV:=[tv s]
def r4R (x:I4):List AV:=[uv x.1,uv x.2.1,uv x.2.2.1,uv x.2.2.2]
def U4R (x:I4):Prop:=Q.U x.1∧Q.U x.2.1∧Q.U x.2.2.1∧Q.U x.2.2.2
def rlR (l:List Int):List AV:=[.sl false 1 (ir l)]
def rdsR (l:List I4):List AV:=[.sl false 4 (dr4 l)]
structure PaR where
 k:Int
 ps:List Int
 im:ByteArray
 fu:Int
 m:I4
 gv:ByteArray
def PaR.row (p:PaR):List AV:=riR p.k++(rlR p.ps++(rtR p.im++(riR p.fu++(r4R p.m++(rtR p.gv++[])))))
structure RcR where
 t:Int
 m:I4
 ps:List Int
 is:List I4
 fu:Int
def RcR.row (p:RcR):List AV:=riR p.t++(r4R p.m++(rlR p.ps++(rdsR p.is++(riR p.fu++[]))))
theorem reads_i :Reads H enc Tryz.prog w N 3 riR (fun _=>True):=by
 intro fuel cs x h hb
 obtain⟨v,r,_⟩:=reads_int (N:=N) Tryz.underlying3 _ _ _ h hb
 exact⟨v,r,trivial⟩
theorem reads_t :Reads H enc Tryz.prog w N 9 rtR (fun _=>True):=by
 intro fuel cs x h hb
 obtain⟨v,r,_⟩:=reads_string (N:=N) Tryz.underlying9 _ _ _ h hb
 exact⟨v,r,trivial⟩
theorem reads_u :Reads H enc Tryz.prog w N 22 (fun n:Int=>[uv n]) (fun n=>Q.U n):=by
 intro fuel cs x h hb
 obtain⟨v,r,hw⟩:=reads_int (N:=N) Tryz.underlying22 _ _ _ h hb
 exact⟨v,r,u32_range hw⟩
theorem reads_d4 :Reads H enc Tryz.prog w N 24 r4R U4R:=by
 intro fuel cs x h hb
 obtain⟨hl,n,hf⟩:=trod_items Tryz.underlying24 h hb
 rw[cellsOf_24] at hl
 have e0:=hf 0 (by omega)
 have e1:=hf 1 (by omega)
 have e2:=hf 2 (by omega)
 have e3:=hf 3 (by omega)
 simp only[cellsOf_22,Nat.mul_one] at e0 e1 e2 e3
 obtain⟨y0,h0,b0⟩:=e0
 obtain⟨y1,h1,b1⟩:=e1
 obtain⟨y2,h2,b2⟩:=e2
 obtain⟨y3,h3,b3⟩:=e3
 obtain⟨v0,r0,w0⟩:=reads_u (N:=N) _ _ _ h0 b0
 obtain⟨v1,r1,w1⟩:=reads_u (N:=N) _ _ _ h1 b1
 obtain⟨v2,r2,w2⟩:=reads_u (N:=N) _ _ _ h2 b2
 obtain⟨v3,r3,w3⟩:=reads_u (N:=N) _ _ _ h3 b3
 refine⟨(v0,v1,v2,v3),?_,w0,w1,w2,w3⟩
 exact rep_step (o:=0) (s:=1) (o':=1) rfl r0 (rep_step (o:=1) (s:=1) (o':=2) rfl r1 (rep_step (o:=2) (s:=1) (o':=3) rfl r2 (rep_step (o:=3) (s:=1) (o':=4) rfl r3 (rep_end hl))))
theorem reads_l :Reads H enc Tryz.prog w N 25 rlR (fun _=>True):=by
 intro fuel cs x h hb
 obtain⟨v,r,_⟩:=reads_slice (N:=N) Tryz.underlying25 cellsOf_3 (by decide) reads_i _ _ _ h hb
 exact⟨v,r,trivial⟩
theorem reads_ds :Reads H enc Tryz.prog w N 29 rdsR (fun l=> ∀a∈l,U4R a):=by
 intro fuel cs x h hb
 obtain⟨v,r,_,h2⟩:=reads_slice (N:=N) Tryz.underlying29 cellsOf_24 (by decide) reads_d4 _ _ _ h hb
 exact⟨v,r,h2⟩
theorem reads_sig :Reads H enc Tryz.prog w N 63 rdsR (fun _=>True):=by
 intro fuel cs x h hb
 obtain⟨v,r,_⟩:=reads_slice (N:=N) Tryz.underlying63 cellsOf_24 (by decide) reads_d4 _ _ _ h hb
 exact⟨v,r,trivial⟩
theorem reads_par :Reads H enc Tryz.prog w N 27 (PaR.row) (fun _=>True):=by
 intro fuel cs x h hb
 obtain⟨hl,n,hf⟩:=trod_fields Tryz.underlying27 h hb
 rw[show Tryz.prog.cellsOf 27=9 by kernel_rfl] at hl
 have e0:=hf 0
 have e1:=hf 1
 have e2:=hf 2
 have e3:=hf 3
 have e4:=hf 4
 have e5:=hf 5
 simp only[List.getElem?_toArray,List.getElem?_cons_zero,List.getElem?_cons_succ,Option.some.injEq,forall_eq'] at e0 e1 e2 e3 e4 e5
 obtain⟨y0,h0,b0⟩:=e0
 obtain⟨v0,r0,w0⟩:=(reads_i (N:=N)) _ _ _ h0 b0
 obtain⟨y1,h1,b1⟩:=e1
 obtain⟨v1,r1,w1⟩:=(reads_l (N:=N)) _ _ _ h1 b1
 obtain⟨y2,h2,b2⟩:=e2
 obtain⟨v2,r2,w2⟩:=(reads_t (N:=N)) _ _ _ h2 b2
 obtain⟨y3,h3,b3⟩:=e3
 obtain⟨v3,r3,w3⟩:=(reads_i (N:=N)) _ _ _ h3 b3
 obtain⟨y4,h4,b4⟩:=e4
 obtain⟨v4,r4,w4⟩:=(reads_d4 (N:=N)) _ _ _ h4 b4
 obtain⟨y5,h5,b5⟩:=e5
 obtain⟨v5,r5,w5⟩:=(reads_t (N:=N)) _ _ _ h5 b5
 refine⟨⟨v0,v1,v2,v3,v4,v5⟩,?_,trivial⟩
 exact rep_step (o:=0) (s:=1) (o':=1) rfl (by simpa only[show Tryz.prog.cellsOf 3=1 by kernel_rfl] using r0) (rep_step (o:=1) (s:=1) (o':=2) rfl (by simpa only[show Tryz.prog.cellsOf 25=1 by kernel_rfl] using r1) (rep_step (o:=2) (s:=1) (o':=3) rfl (by simpa only[show Tryz.prog.cellsOf 9=1 by kernel_rfl] using r2) (rep_step (o:=3) (s:=1) (o':=4) rfl (by simpa only[show Tryz.prog.cellsOf 3=1 by kernel_rfl] using r3) (rep_step (o:=4) (s:=4) (o':=8) rfl (by simpa only[show Tryz.prog.cellsOf 24=4 by kernel_rfl] using r4) (rep_step (o:=8) (s:=1) (o':=9) rfl (by simpa only[show Tryz.prog.cellsOf 9=1 by kernel_rfl] using r5) (rep_end hl))))))
theorem reads_par2 :Reads H enc Tryz.prog w N 28 (fun p:PaR×PaR=>p.1.row++(p.2.row++[])) (fun _=>True):=by
 intro fuel cs x h hb
 obtain⟨hl,n,hf⟩:=trod_items Tryz.underlying28 h hb
 rw[cellsOf_28] at hl
 have e0:=hf 0 (by omega)
 have e1:=hf 1 (by omega)
 simp only[cellsOf_27] at e0 e1
 obtain⟨y0,h0,b0⟩:=e0
 obtain⟨y1,h1,b1⟩:=e1
 obtain⟨v0,r0,w0⟩:=reads_par (N:=N) _ _ _ h0 b0
 obtain⟨v1,r1,w1⟩:=reads_par (N:=N) _ _ _ h1 b1
 refine⟨(v0,v1),?_,trivial⟩
 exact rep_step (o:=0) (s:=9) (o':=9) rfl r0 (rep_step (o:=9) (s:=9) (o':=18) rfl r1 (rep_end hl))
theorem reads_rec :Reads H enc Tryz.prog w N 31 (RcR.row) (fun r=>U4R r.m∧ ∀a∈r.is,U4R a):=by
 intro fuel cs x h hb
 obtain⟨hl,n,hf⟩:=trod_fields Tryz.underlying31 h hb
 rw[show Tryz.prog.cellsOf 31=8 by kernel_rfl] at hl
 have e0:=hf 0
 have e1:=hf 1
 have e2:=hf 2
 have e3:=hf 3
 have e4:=hf 4
 simp only[List.getElem?_toArray,List.getElem?_cons_zero,List.getElem?_cons_succ,Option.some.injEq,forall_eq'] at e0 e1 e2 e3 e4
 obtain⟨y0,h0,b0⟩:=e0
 obtain⟨v0,r0,w0⟩:=(reads_i (N:=N)) _ _ _ h0 b0
 obtain⟨y1,h1,b1⟩:=e1
 obtain⟨v1,r1,w1⟩:=(reads_d4 (N:=N)) _ _ _ h1 b1
 obtain⟨y2,h2,b2⟩:=e2
 obtain⟨v2,r2,w2⟩:=(reads_l (N:=N)) _ _ _ h2 b2
 obtain⟨y3,h3,b3⟩:=e3
 obtain⟨v3,r3,w3⟩:=(reads_ds (N:=N)) _ _ _ h3 b3
 obtain⟨y4,h4,b4⟩:=e4
 obtain⟨v4,r4,w4⟩:=(reads_i (N:=N)) _ _ _ h4 b4
 refine⟨⟨v0,v1,v2,v3,v4⟩,?_,w1,w3⟩
 exact rep_step (o:=0) (s:=1) (o':=1) rfl (by simpa only[show Tryz.prog.cellsOf 3=1 by kernel_rfl] using r0) (rep_step (o:=1) (s:=4) (o':=5) rfl (by simpa only[show Tryz.prog.cellsOf 24=4 by kernel_rfl] using r1) (rep_step (o:=5) (s:=1) (o':=6) rfl (by simpa only[show Tryz.prog.cellsOf 25=1 by kernel_rfl] using r2) (rep_step (o:=6) (s:=1) (o':=7) rfl (by simpa only[show Tryz.prog.cellsOf 29=1 by kernel_rfl] using r3) (rep_step (o:=7) (s:=1) (o':=8) rfl (by simpa only[show Tryz.prog.cellsOf 3=1 by kernel_rfl] using r4) (rep_end hl)))))
end
end
end Go.Proofs.YtpedpkegmalgmaaGreatDoor
