/- A part of the proof: Sz. -/
import Derived.Test.YtggghdmdjpianaaGreatDoorC03
import Derived.Test.YtggghdmdjpianaaGreatDoorC25
import Derived.Test.YtggghdmdjpianaaGreatDoorCards
import Derived.Test.YtggghdmdjpianaaGreatDoorTie
import Derived.OpenShut
import Derived.Deep.DeepHandedRow
import Derived.Lib.LaidTab
set_option linter.unusedSimpArgs false
set_option linter.unusedVariables false
namespace Go.Proofs.YtggghdmdjpianaaGreatDoor
section
open Go Go.Ab Go.ChangeShapes Go.WideShapes Go.ChangeAt Go.RowKit
variable {l:List (String×DataW Unit)}{n g:Nat}{P:Program}{t:TypeId}
theorem own47 :ownKnob Tryz.prog.godebug=none:=Zf
theorem IB :Tryz.prog.types.size=717:=Zf
noncomputable def pB (k m:Nat):Bool:=(List.range m).all fun j=>rowFine Tryz.prog (64*k+j)
theorem rowC_0 :pB 0 64=true:=Zf
theorem rowC_1 :pB 1 64=true:=Zf
theorem rowC_2 :pB 2 64=true:=Zf
theorem rowC_3 :pB 3 64=true:=Zf
theorem rowC_4 :pB 4 64=true:=Zf
theorem rowC_5 :pB 5 64=true:=Zf
theorem rowC_6 :pB 6 64=true:=Zf
theorem rowC_7 :pB 7 64=true:=Zf
theorem rowC_8 :pB 8 64=true:=Zf
theorem rowC_9 :pB 9 64=true:=Zf
theorem JA :pB 10 64=true:=Zf
theorem IZ :pB 11 13=true:=Zf
theorem Gha {i:Nat}(h:i<717):rowFine Tryz.prog i=true:=by
 have get: ∀k m,pB k m=true->i/64=k->i%64<m->rowFine Tryz.prog i=true:=fun k m hc hk hm=>by
  have h1:=nU.1 hc (i%64) (sJ.2 hm);have e2:64*k+i%64=i:=Zo;simp only[e2] at h1;exact h1
 have MF:i/64=0\/i/64=1\/i/64=2\/i/64=3\/i/64=4\/i/64=5\/i/64=6\/i/64=7\/i/64=8\/i/64=9\/i/64=10\/i/64=11:=Zo;rcases MF with h0|h0|h0|h0|h0|h0|h0|h0|h0|h0|h0|h0
 ·exact get 0 _ rowC_0 h0 Zo
 ·exact get 1 _ rowC_1 h0 Zo
 ·exact get 2 _ rowC_2 h0 Zo
 ·exact get 3 _ rowC_3 h0 Zo
 ·exact get 4 _ rowC_4 h0 Zo
 ·exact get 5 _ rowC_5 h0 Zo
 ·exact get 6 _ rowC_6 h0 Zo
 ·exact get 7 _ rowC_7 h0 Zo
 ·exact get 8 _ rowC_8 h0 Zo
 ·exact get 9 _ rowC_9 h0 Zo
 ·exact get 10 _ JA h0 Zo
 ·exact get 11 _ IZ h0 Zo
theorem Ri :laidOutB Tryz.prog=true:=by
 unfold laidOutB;rw[Ed,Ed];refine⟨⟨?_,Zf⟩,Zf⟩;rw[IB,nU];exact fun i hi=>Gha (sJ.1 hi)
theorem IX :mapsRowed Tryz.prog=true:=Zf
theorem LY :Tryz.prog.stopsHeard=true:=Zf
theorem MX :Tryz.prog.mayEnter=true:=Zf
theorem KM :true=Tryz.prog.looks []:=Zf
theorem noGo47 :Tryz.prog.funcs.any Func.goes=false:=Zf
theorem MH(h:P.funcs.any Func.goes=false)(f:FuncId):P.goes f=false:=by
 unfold Program.goes;rw[h,Bool.and_false,Bool.or_false,List.any_eq_false];intro g _ hg
 cases hf:P.funcs[g]? with
 |none=>rw[hf] at hg;cases hg
 |some fn=>
  rw[hf] at hg;rw[Array.any_eq_false'] at h;exact h fn (Acs hf) hg
theorem Ela(h:P.funcs.any Func.goes=false){c:OpenClaim}(hs:c.start= .entering):false=c.goesBy P:=by
 unfold OpenClaim.goesBy Program.goesAt Program.goesFrom;rw[hs]
 cases hf:P.funcNamed c.func with
 |none=>rfl
 |some f=>show false=(P.goes f||false);rw[MH h f];rfl
theorem Kt {P:Program}{w:World}: ∀{l:List (String×DataW Unit)} {ps:List MemPlace},DataW.LaidVars P w l ps-> ∀{n:String} {d:DataW Unit},(n,d)∈l->
  ∃g t cs fuel p,P.globalNamed n=some g/\(P.globals[g]?).map (·.type)=some t/\w.var? P n=some cs/\DataW.trod (fun _=>()) P w 0 (fun _=>true) false fuel t cs.toList=some (d,p)
 |[],_,_,_,_,h=>by cases h
 |(n',d')::r,ps,h,n,d,hm=>by
  obtain⟨g,t,cs,fuel,p,q,h1,h2,h3,h4,h5,_⟩:=h;rcases sV.1 hm with e|e
  ·cases e
   exact⟨g,t,cs,fuel,p,h1,h2,h3,h4⟩
  ·exact Kt h5 e
theorem Vk {H:Type}{enc:TypeId×Value->H}{w:World}{base:Nat}{sp:Nat->Bool}{held:Bool}{fuel:Nat}{e:TypeId}{cs:List Value}{bs:List (List UInt8)}{p:List MemPlace}
  (ht:P.underlying t=some (.array n e)) (he:P.underlying e=some .string) (hce:P.cellsOf e=1) (hct:P.cellsOf t=n)
  (h:DataW.trod enc P w base sp held fuel t cs=some (.agg (bs.map fun b=> .lit (.string b)),p)):cs=bs.map fun b=>Value.string ⟨⟨b⟩⟩:=by
 cases fuel with
 |zero=>simp[DataW.trod] at h
 |succ fuel=>
  simp only[DataW.trod,ht,hce,hct,Nat.mul_one] at h
  split at h
  ·rename_i hl
   obtain⟨xs,hm,hx⟩:=Ma.1 h;have hxs:xs.map (·.1)=bs.map fun b=>(DataW.lit (.string b):DataW H):=by
    have:=congrArg Prod.fst hx;simpa using this
   have hxl:xs.length=n:=by simpa using Lib.mapM_length hm
   have AF:bs.length=n:=by
    have:=congrArg List.length hxs;simp at this;omega
   apply Acy;intro i;by_cases hi:i<n
   ·obtain⟨b,hb,hf⟩:=Lib.mapM_at hm i i (by simp[hi])
    obtain⟨z,hc,rfl,_⟩:=DataW.trod_string he hf;have h1:cs[i]?=some (.string z):=by
     have:=congrArg (·[0]?) hc;simpa[xZ,zD] using this
    have h2:(xs.map (·.1))[i]?=some (DataW.lit (.string z.data.toList):DataW H):=by simp[hb]
    rw[hxs] at h2;simp only[qY,Ma,DataW.lit.injEq,Lit.string.injEq] at h2;obtain⟨z',hz',h3⟩:=h2;rw[h1,qY,hz',h3];rfl
   ·rw[Ace Zo,Ace (by simp;omega)]
  ·cases h
theorem Md{W:World}{name:String}{d:DataW Unit}{bs:List (List UInt8)}{e:TypeId}
  (hg:P.globalNamed name=some g) (hty:(P.globals[g]?).map (·.type)=some t) (ht:P.underlying t=some (.array n e)) (he:P.underlying e=some .string) (hce:P.cellsOf e=1) (hct:P.cellsOf t=n)
  (h:laidMet P l W) (hm:(name,d)∈l) (hd:d= .agg (bs.map fun b=> .lit (.string b))):W.var? P name=some (bs.map fun b=>Value.string ⟨⟨b⟩⟩).toArray:=by
 obtain⟨ps,h1,_⟩:=h;obtain⟨g',t',cs,fuel,p,qB,CK,hvar,uT⟩:=Kt h1 hm;obtain rfl:=nN (hg.symm.trans qB);obtain rfl:=nN (hty.symm.trans CK);rw[hd] at uT;rw[hvar,<-Vk ht he hce hct uT]
theorem DM{W:World}{name:String}{vs:List Value}(h:W.var? P name=some vs.toArray)(hg:P.globalNamed name=some g)(h0:0<vs.length):
  vZ W g/\gC W g 0 vs/\ ∀(cs:Array Value) (t:TypeId) (mk:Nat×Nat),W.heap[g]?=some (.cells cs t mk)->cs.size=vs.length:=by
 have hc: ∀j v,vs[j]?=some v->W.cell? ⟨g,j,none⟩=some v:=fun j v hj=>by
  have hl:=(Oh.1 hj).1;have:=World.var?_cell hg h j;rw[this];simpa using hj
 refine⟨(Dia (hc 0 _ (Bs h0))).2,fun j v hj=>by rw[mH];exact hc j v hj,fun cs t mk cB=>?_⟩;unfold World.var? at h;rw[hg] at h;simp only[Adm,cB,Bc] at h;rw[h];simp
theorem DP :Tryz.prog.globalNamed "seedcorn/token.signs" =some 2:=Zf
theorem DO :Tryz.prog.globalNamed "seedcorn/token.words" =some 5:=Zf
def signL :List (List UInt8):=[[60,60],[62,62],[61,61],[38,38],[124,124],[40],[41],[123],[125],[91],[93],[59],[44],[61],[43],[45],[42],[47],[37],[38],[124],[94],[60],[33]]
def wordL :List (List UInt8):=[[118,97,114],[97,114,114,97,121],[102,117,110,99],[119,111,114,100],[105,102],[101,108,115,101],[119,104,105,108,101],[114,101,116,117,114,110],[112,117,116],[103,101,116]]
theorem gl_of {W:World}(h:laidMet Tryz.prog l W)(h2:("seedcorn/token.words",Rows.laid_seedcorn_token_words)∈l)(h3:("seedcorn/token.signs",Rows.laid_seedcorn_token_signs)∈l):tG (vZ W) W:=by
 have t2:=Md (t:=625) (e:=9) (n:=10) (bs:=wordL) DO Zf Zf Zf Zf Zf h h2 rfl;have t3:=Md (t:=558) (e:=9) (n:=24) (bs:=signL) DP Zf Zf Zf Zf Zf h h3 rfl;intro g vs hg;unfold tT at hg
 split at hg
 ·cases hg;exact DM t3 DP Zd
 ·cases hg;exact DM t2 DO Zd
 ·cases hg
mutual
def flatV :DataW Unit->List Value
 | .agg ds=>DW ds
 | .lit (.int k n)=>[.int k n]
 | .lit (.string bs)=>[.string ⟨⟨bs⟩⟩]
 | .lit (.bool b)=>[.bool b]
 |_=>[]
def DW :List (DataW Unit)->List Value
 |[]=>[]
 |d::r=>flatV d++DW r
end
def KX (d:DataW Unit):Obj->Obj
 | .cells _ t frozen=> .cells (flatV d).toArray t frozen
 |o=>o
noncomputable def KW (h:Array Obj)(e:String×DataW Unit):Array Obj:=match Tryz.prog.globalNamed e.1 with
 |some g=>h.modify g (KX e.2)
 |none=>h
noncomputable def pF (os:Os):World:=
 {World.holding Tryz.prog os ⟨#[],#[],[]⟩ with heap:=List.foldl KW (World.holding Tryz.prog os ⟨#[],#[],[]⟩).heap Rows.consoleMeansRow.laid}
theorem rd9 :Tryz.prog.readableRec 9=true:=Zf
theorem lt9 :9<Tryz.prog.types.size:=GP Zf
theorem want9 :Tryz.prog.wantsStandIn 9=false:=Zf
end
end Go.Proofs.YtggghdmdjpianaaGreatDoor
