/- A part of the proof: S5. -/
import Derived.Test.YtpmoibjpjlhcgaaGreatDoorT03
import Derived.Test.YtpmoibjpjlhcgaaGreatDoorT09
import Derived.Test.YtpmoibjpjlhcgaaGreatDoorCards
import Derived.Test.YtpmoibjpjlhcgaaGreatDoorTie
import Derived.OpenShut
import Derived.Deep.DeepHandedRow
import Derived.Lib.LaidTab
set_option linter.unusedSimpArgs false
set_option linter.unusedVariables false
namespace Go.Proofs.YtpmoibjpjlhcgaaGreatDoor
section
open Go Go.Ab Go.ChangeShapes Go.WideShapes Go.ChangeAt Go.RowKit
theorem own47 :ownKnob Tryz.prog.godebug=none:=Zf
theorem Qh :laidOutB Tryz.prog=true:=Zf
theorem rowed47 :mapsRowed Tryz.prog=true:=Zf
theorem heard47 :Tryz.prog.stopsHeard=true:=Zf
theorem enter47 :Tryz.prog.mayEnter=true:=Zf
theorem looks47 :true=Tryz.prog.looks []:=Zf
theorem noGo47 :Tryz.prog.funcs.any Func.goes=false:=Zf
theorem goes_of {P:Program}(h:P.funcs.any Func.goes=false)(f:FuncId):P.goes f=false:=by
 unfold Program.goes
 rw[h,Bool.and_false,Bool.or_false,List.any_eq_false]
 intro g _ hg
 cases hf:P.funcs[g]? with
 |none=>rw[hf] at hg;cases hg
 |some fn=>
  rw[hf] at hg
  rw[Array.any_eq_false'] at h
  exact h fn (Array.mem_of_getElem? hf) hg
theorem Eua {P:Program}(h:P.funcs.any Func.goes=false){c:OpenClaim}(hs:c.start= .entering):false=c.goesBy P:=by
 unfold OpenClaim.goesBy Program.goesAt Program.goesFrom
 rw[hs]
 cases hf:P.funcNamed c.func with
 |none=>rfl
 |some f=>show false=(P.goes f||false);rw[goes_of h f];rfl
theorem Fv {P:Program}{w:World}: ∀{l:List (String×DataW Unit)} {ps:List MemPlace},DataW.LaidVars P w l ps-> ∀{n:String} {d:DataW Unit},(n,d)∈l->
  ∃g t cs fuel p,P.globalNamed n=some g/\(P.globals[g]?).map (·.type)=some t/\w.var? P n=some cs/\DataW.trod (fun _=>()) P w 0 (fun _=>true) false fuel t cs.toList=some (d,p)
 |[],_,_,_,_,h=>by cases h
 |(n',d')::r,ps,h,n,d,hm=>by
  obtain⟨g,t,cs,fuel,p,q,h1,h2,h3,h4,h5,_⟩:=h
  rcases List.mem_cons.1 hm with e|e
  ·cases e
   exact⟨g,t,cs,fuel,p,h1,h2,h3,h4⟩
  ·exact Fv h5 e
theorem Rv {P:Program}{W:World}{name:String}{k:IntKind}{zs:List Int}{l:List (String×DataW Unit)}{g:Nat}{t e:TypeId}{n:Nat}
  (hg:P.globalNamed name=some g) (hty:(P.globals[g]?).map (·.type)=some t) (ht:P.underlying t=some (.array n e)) (he:P.underlying e=some (.int k)) (hce:P.cellsOf e=1) (hct:P.cellsOf t=n)
  (h:laidMet P l W) (hm:(name,Lib.tabData k zs)∈l):Lib.TabIs P W name k zs:=by
 obtain⟨ps,h1,_⟩:=h
 obtain⟨g',t',cs,fuel,p,hg',ht',hvar,hd⟩:=Fv h1 hm
 obtain rfl:=Option.some.inj (hg.symm.trans hg')
 obtain rfl:=Option.some.inj (hty.symm.trans ht')
 unfold Lib.TabIs
 rw[hvar,<-Lib.cells_of_tab ht he hce hct hd]
theorem Tn {H:Type}{enc:TypeId×Value->H}{P:Program}{w:World}{base:Nat}{sp:Nat->Bool}{held:Bool}{fuel:Nat}{t e:TypeId}{n:Nat}{cs:List Value}{bs:List (List UInt8)}{p:List MemPlace}
  (ht:P.underlying t=some (.array n e)) (he:P.underlying e=some .string) (hce:P.cellsOf e=1) (hct:P.cellsOf t=n)
  (h:DataW.trod enc P w base sp held fuel t cs=some (.agg (bs.map fun b=> .lit (.string b)),p)):cs=bs.map fun b=>Value.string ⟨⟨b⟩⟩:=by
 cases fuel with
 |zero=>simp[DataW.trod] at h
 |succ fuel=>
  simp only[DataW.trod,ht,hce,hct,Nat.mul_one] at h
  split at h
  ·rename_i hl
   obtain⟨xs,hm,hx⟩:=Option.map_eq_some_iff.1 h
   have hxs:xs.map (·.1)=bs.map fun b=>(DataW.lit (.string b):DataW H):=by
    have:=congrArg Prod.fst hx
    simpa using this
   have hxl:xs.length=n:=by simpa using Lib.mapM_length hm
   have hzl:bs.length=n:=by
    have:=congrArg List.length hxs
    simp at this
    omega
   apply List.ext_getElem?
   intro i
   by_cases hi:i<n
   ·obtain⟨b,hb,hf⟩:=Lib.mapM_at hm i i (by simp[hi])
    obtain⟨z,hc,rfl,_⟩:=DataW.trod_string he hf
    have h1:cs[i]?=some (.string z):=by
     have:=congrArg (·[0]?) hc
     simpa[List.getElem?_take,List.getElem?_drop] using this
    have h2:(xs.map (·.1))[i]?=some (DataW.lit (.string z.data.toList):DataW H):=by simp[hb]
    rw[hxs] at h2
    simp only[List.getElem?_map,Option.map_eq_some_iff,DataW.lit.injEq,Lit.string.injEq] at h2
    obtain⟨z',hz',h3⟩:=h2
    rw[h1,List.getElem?_map,hz',h3]
    rfl
   ·rw[List.getElem?_eq_none Zo,List.getElem?_eq_none (by simp;omega)]
  ·cases h
theorem L6 {P:Program}{W:World}{name:String}{d:DataW Unit}{bs:List (List UInt8)}{l:List (String×DataW Unit)}{g:Nat}{t e:TypeId}{n:Nat}
  (hg:P.globalNamed name=some g) (hty:(P.globals[g]?).map (·.type)=some t) (ht:P.underlying t=some (.array n e)) (he:P.underlying e=some .string) (hce:P.cellsOf e=1) (hct:P.cellsOf t=n)
  (h:laidMet P l W) (hm:(name,d)∈l) (hd:d= .agg (bs.map fun b=> .lit (.string b))):W.var? P name=some (bs.map fun b=>Value.string ⟨⟨b⟩⟩).toArray:=by
 obtain⟨ps,h1,_⟩:=h
 obtain⟨g',t',cs,fuel,p,hg',ht',hvar,hd'⟩:=Fv h1 hm
 obtain rfl:=Option.some.inj (hg.symm.trans hg')
 obtain rfl:=Option.some.inj (hty.symm.trans ht')
 rw[hd] at hd'
 rw[hvar,<-Tn ht he hce hct hd']
theorem Xs {P:Program}{W:World}{name:String}{g:Nat}{vs:List Value}(h:W.var? P name=some vs.toArray)(hg:P.globalNamed name=some g)(h0:0<vs.length):
  There W g/\CellsAt W g 0 vs/\ ∀(cs:Array Value) (t:TypeId) (mk:Nat×Nat),W.heap[g]?=some (.cells cs t mk)->cs.size=vs.length:=by
 have hc: ∀j v,vs[j]?=some v->W.cell? ⟨g,j,none⟩=some v:=fun j v hj=>by
  have hl:=(List.getElem?_eq_some_iff.1 hj).1
  have:=World.var?_cell hg h j
  rw[this]
  simpa using hj
 refine⟨(Dta (hc 0 _ (List.getElem?_eq_getElem h0))).2,fun j v hj=>by rw[Nat.zero_add];exact hc j v hj,fun cs t mk hcs=>?_⟩
 unfold World.var? at h
 rw[hg] at h
 simp only[Option.bind_some,hcs,Option.some.injEq] at h
 rw[h];simp
theorem Cqa :Tryz.prog.globalNamed "seedcorn/digest.places" =some 0:=Zf
theorem gSigns :Tryz.prog.globalNamed "seedcorn/token.signs" =some 1:=Zf
theorem gWords :Tryz.prog.globalNamed "seedcorn/token.words" =some 2:=Zf
def signL :List (List UInt8):=[[60,60],[62,62],[61,61],[38,38],[124,124],[40],[41],[123],[125],[91],[93],[59],[44],[61],[43],[45],[42],[47],[37],[38],[124],[94],[60],[33]]
def wordL :List (List UInt8):=[[118,97,114],[97,114,114,97,121],[102,117,110,99],[119,111,114,100],[105,102],[101,108,115,101],[119,104,105,108,101],[114,101,116,117,114,110],[112,117,116],[103,101,116]]
theorem gl_of {W:World}{l:List (String×DataW Unit)}(h:laidMet Tryz.prog l W)(h1:("seedcorn/digest.places",Lib.tabData .i64 [7,9,13,18])∈l)(h2:("seedcorn/token.words",Rows.laid_seedcorn_token_words)∈l)(h3:("seedcorn/token.signs",Rows.laid_seedcorn_token_signs)∈l):GlOk (There W) W:=by
 have t1:=Rv (t:=120) (e:=3) (n:=4) Cqa Zf Zf Zf Zf Zf h h1
 have t2:=L6 (t:=370) (e:=9) (n:=10) (bs:=wordL) gWords Zf Zf Zf Zf Zf h h2 rfl
 have t3:=L6 (t:=284) (e:=9) (n:=24) (bs:=signL) gSigns Zf Zf Zf Zf Zf h h3 rfl
 intro g vs hg
 unfold globT at hg
 split at hg
 ·cases hg;exact Xs t1 Cqa Zd
 ·cases hg;exact Xs t3 gSigns Zd
 ·cases hg;exact Xs t2 gWords Zd
 ·cases hg
def laidVals :DataW Unit->Array Value
 | .agg ds=>(ds.map fun d=>match d with
  | .lit (.int k n)=>Value.int k n
  | .lit (.string bs)=> .string ⟨⟨bs⟩⟩
  |_=> .bool false).toArray
 |_=> #[]
def laidObj (d:DataW Unit):Obj->Obj
 | .cells _ t frozen=> .cells (laidVals d) t frozen
 |o=>o
noncomputable def laidWorld (os:Os):World:=
 {World.holding Tryz.prog os ⟨#[],#[],[]⟩ with heap:=(((((((World.holding Tryz.prog os ⟨#[],#[],[]⟩).heap.modify 0 (laidObj Rows.laid_seedcorn_digest_places)).modify 2 (laidObj Rows.laid_seedcorn_token_words)).modify 1 (laidObj Rows.laid_seedcorn_token_signs)).modify 3 (laidObj Rows.laid_internal_strconv_uint64pow10)).modify 4 (laidObj Rows.laid_math_bits_deBruijn32tab)).modify 5 (laidObj Rows.laid_math_bits_deBruijn64tab))}
theorem rd9 :Tryz.prog.readableRec 9=true:=Zf
theorem lt9 :9<Tryz.prog.types.size:=of_decide_eq_true Zf
theorem want9 :Tryz.prog.wantsStandIn 9=false:=Zf
end
end Go.Proofs.YtpmoibjpjlhcgaaGreatDoor
