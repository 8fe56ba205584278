/- A part of the proof: Br. -/
import Derived.Test.YtpmoibjpjlhcgaaGreatDoorT02
import Derived.Test.YtpmoibjpjlhcgaaGreatDoorRows
import Derived.WalkKit
import Derived.ProofKit
import Derived.OpenShut
import Derived.JoinedCond
set_option linter.unusedSimpArgs false
set_option linter.unusedVariables false
namespace Go.Proofs.YtpmoibjpjlhcgaaGreatDoor
section
open Go Go.Ab Go.ChangeShapes Go.WideShapes Go.ChangeAt Go.RowKit
section
variable {H:Type}{enc:TypeId×Value->H}{P:Program}{w:World}
abbrev There (w:World)(b:Nat):Prop:=b<w.heap.size
def Reads {α:Type}(H:Type)(enc:TypeId×Value->H)(P:Program)(w:World)(N:Nat)(t:TypeId)(row:α->List AV)(ok:α->Prop):Prop:=
 ∀fuel cs (x:DataW H×List MemPlace),DataW.trod enc P w 0 (fun _=>true) true fuel t cs=some x->Rows.uptoBulk x.1<=N-> ∃a,RepDL (There w) w (row a) cs/\ok a
theorem Fr {N:Nat}{t:TypeId}(ht:P.underlying t=some .string):Reads H enc P w N t (fun s:ByteArray=>[.sc (.string s)]) (fun s=>s.size<=N):=by
 intro fuel cs x h hb
 obtain⟨s,rfl,rfl,_⟩:=DataW.trod_string ht h
 refine⟨s,by simp[RepDL,RepD,Value.oneCell'],?_⟩
 simp[Rows.uptoBulk] at hb
 have:s.size=s.data.size:=rfl
 omega
theorem Dta {a:Addr}{v:Value}(h:w.cell? a=some v):a=⟨a.block,a.off,none⟩/\a.block<w.heap.size:=by
 unfold World.cell? at h
 split at h
 ·rename_i c t mk hb
  split at h
  ·cases h
  ·rename_i hs
   refine⟨?_,?_⟩
   ·obtain⟨b,o,s⟩:=a
    cases s with
    |none=>rfl
    |some _=>simp at hs
   ·exact(Array.getElem?_eq_some_iff.1 hb).1
 ·cases h
/-! ### what the claim says -/
theorem Jp (hl:laidOutB P=true){W W':World}(hb:Below W.heap.size W W'){sp:Nat->Bool}: ∀{ts:List TypeId} {vs:List Value} {ds:List (DataW H)} {ps:List MemPlace},(∀t∈ts,P.readableRec t=true/\t<P.types.size)->
  DataW.TrodAll enc P W 0 (fun _=>true) true ts vs ds ps->(∀p∈ps,p.block<W.heap.size/\sp p.block=true)->DataW.TrodAll enc P W' 0 sp true ts vs ds ps
 |[],_,_,_,_,h,_=>by
  obtain⟨rfl,rfl,rfl⟩:=trodAll_nil h
  exact rfl
 |t::ts,_,_,_,ht,h,hs=>by
  obtain⟨v,vs1,d,ds1,a,b,rfl,rfl,rfl,h1,h2⟩:=trodAll_cons h
  refine⟨a,b,WideElems.Trod_stays hl (ht t (List.mem_cons_self ..)).1 (ht t (List.mem_cons_self ..)).2 h1 (fun x hx=>hb.same (hs x (List.mem_append_left _ hx)).1) (fun x hx=>(hs x (List.mem_append_left _ hx)).2),?_,rfl⟩
  exact Jp hl hb (fun t h=>ht t (List.mem_cons_of_mem _ h)) h2 (fun p hp=>hs p (List.mem_append_right _ hp))
theorem K9a {f:Func}{s:ChangeSpec}{apart fresh handsOn again:Bool}{W W':World}{args:Array Value}{ds gs:List (DataW H)}{before:List MemPlace}{tb:TypeId}
  (hW:DataW.Whole enc P f.params.toList s.vars apart W args.toList ds gs before) (hv:s.vars=[]) (hl:laidOutB P=true) (ht: ∀t∈f.params.toList,P.readableRec t=true/\t<P.types.size)
  (hres:f.resultTypes= #[tb]) (htb:P.underlying tb=some .bool) (hfn:s.fn H (ds++gs)={results:=[.lit (.bool true)],args:=ds}) (hb:Below W.heap.size W W'):s.post enc P f apart fresh handsOn again W args (.bool true) W':=by
 have hlt: ∀p∈before,p.block<W.heap.size:=fun p hp=>hW.lt p hp
 obtain⟨p,q,hA,hV,rfl,hz,hn⟩:=hW
 have hW:DataW.Whole enc P f.params.toList s.vars apart W args.toList ds gs (p++q):=⟨p,q,hA,hV,rfl,hz,hn⟩
 rw[hv] at hV
 obtain⟨rfl,rfl⟩:=trodVars_none hV
 simp only[List.append_nil] at hfn hlt hz hn hW
 have hr: ∀(b:Nat) (sp:Nat->Bool) (hd:Bool),DataW.TrodAll enc P W' b sp hd f.resultTypes.toList ((Value.bool true).resultList f.resultTypes.size) [.lit (.bool true)] []:=by
  intro b sp hd
  rw[hres]
  exact trodAll_mk1 (shut_bool htb _)
 have ha: ∀sp:Nat->Bool,(∀x∈p,sp x.block=true)->DataW.TrodAll enc P W' 0 sp true f.params.toList args.toList ds p:=fun sp hs=>Jp hl hb ht hA (fun x hx=>⟨hlt x hx,hs x hx⟩)
 have hok: ∀(j:Nat) (t:TypeId) (r:Value),f.resultTypes[j]?=some t->((Value.bool true).resultList f.resultTypes.size)[j]?=some r->Value.okWide P W' .any 0 t r:=by
  exact ok_one hres rfl (okWide_bool_mk htb _)
 refine⟨ds,[],p,[],p,[],hW,by simp only[List.append_nil];rw[hfn];exact hr _ _ _,by simp only[List.append_nil];rw[hfn];exact ha _ (fun x hx=>by simpa using hlt x hx),by simp only[List.append_nil];rw[hv,hfn];exact rfl,hb.frame _,fun _=>?_⟩
 refine⟨hok,[.lit (.bool true)]++ds,[],p,⟨p,[],?_,by rw[hv];exact rfl,Zi,?_,hn⟩,fun x hx _=>hx⟩
 ·have:=trodAll_append (ha (fun _=>true) (fun _ _=>rfl)) (hr 0 (fun _=>true) true)
  simpa using this
 ·intro b off hp
  rw[hb.frozen (p:=⟨b,off,none⟩) (hlt _ hp)]
  exact hz b off hp
theorem O1 {I:Nat->Prop}{W W':World}{ts:List TypeId}{rs:List AV}{u:Value}(h:CallPost P I W ts rs u W'):Below W.heap.size W W':=⟨h.os,h.tape,h.output,h.size,fun k hk=>h.old k hk⟩
theorem Pw {I:Nat->Prop}{W W':World}{tb:TypeId}{u:Value}(htb:isAggB P tb=false)(h:CallPost P I W [tb] [.sc (.bool true)] u W'):u= .bool true:=by
 obtain⟨I',us,bs,rfl,_,_,_,_,_,hr⟩:=h.res
 simp only[RepResL] at hr
 obtain⟨v,us',b1,b2,rfl,_,h1,rfl,_⟩:=hr
 unfold RepRes at h1
 rw[if_neg (by simp[htb])] at h1
 simp only[RepH,RepD] at h1
 exact h1.2.1
end
end
end Go.Proofs.YtpmoibjpjlhcgaaGreatDoor
