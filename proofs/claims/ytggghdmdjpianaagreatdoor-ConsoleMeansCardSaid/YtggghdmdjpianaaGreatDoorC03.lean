/- A part of the proof: Br. -/
import Derived.Test.YtggghdmdjpianaaGreatDoorC02
import Derived.Test.YtggghdmdjpianaaGreatDoorRows
import Derived.WalkKit
import Derived.ProofKit
import Derived.OpenShut
import Derived.JoinedCond
set_option linter.unusedSimpArgs false
set_option linter.unusedVariables false
namespace Go.Proofs.YtggghdmdjpianaaGreatDoor
section
open Go Go.Ab Go.ChangeShapes Go.WideShapes Go.ChangeAt Go.RowKit
variable {I:Nat->Prop}{tb:TypeId}{u:Value}{W':World}
section
variable {H:Type}{enc:TypeId×Value->H}{P:Program}{w:World}
abbrev vZ (w:World)(b:Nat):Prop:=b<w.heap.size
def Reads {α:Type}(H:Type)(enc:TypeId×Value->H)(P:Program)(w:World)(N:Nat)(t:TypeId)(row:α->List AV)(ok:α->Prop):Prop:=
 ∀fuel cs (x:DataW H×List MemPlace),DataW.trod enc P w 0 (fun _=>true) true fuel t cs=some x->Rows.uptoBulk x.1<=N-> ∃a,aC (vZ w) w (row a) cs/\ok a
theorem Tc {N:Nat}{t:TypeId}(ht:P.underlying t=some .string):Reads H enc P w N t (fun s:ByteArray=>[.sc (.string s)]) (fun s=>s.size<=N):=by
 intro fuel cs x h hb;obtain⟨s,rfl,rfl,_⟩:=DataW.trod_string ht h;refine⟨s,by simp[aC,Iq,Value.oneCell'],?_⟩;simp[Rows.uptoBulk] at hb;have:s.size=s.data.size:=rfl;omega
theorem Dia {a:Addr}{v:Value}(h:w.cell? a=some v):a=⟨a.block,a.off,none⟩/\a.block<w.heap.size:=by
 unfold World.cell? at h
 split at h
 ·rename_i c t mk hb
  split at h
  ·cases h
  ·rename_i hs
   refine⟨?_,?_⟩
   ·obtain⟨b,o,s⟩:=a
    cases s with
    |none=>rfl
    |some _=>simp at hs
   ·exact(Xc.1 hb).1
 ·cases h
/-! ### what the claim says -/
theorem Jg (hl:laidOutB P=true){W W':World}(hb:Below W.heap.size W W'){sp:Nat->Bool}: ∀{ts:List TypeId} {vs:List Value} {ds:List (DataW H)} {ps:List MemPlace},(∀t∈ts,P.readableRec t=true/\t<P.types.size)->
  DataW.TrodAll enc P W 0 (fun _=>true) true ts vs ds ps->(∀p∈ps,p.block<W.heap.size/\sp p.block=true)->DataW.TrodAll enc P W' 0 sp true ts vs ds ps
 |[],_,_,_,_,h,_=>by
  obtain⟨rfl,rfl,rfl⟩:=trodAll_nil h;exact rfl
 |t::ts,_,_,_,ht,h,hs=>by
  obtain⟨v,vs1,d,ds1,a,b,rfl,rfl,rfl,h1,h2⟩:=trodAll_cons h;refine⟨a,b,WideElems.Trod_stays hl (ht t (Vc ..)).1 (ht t (Vc ..)).2 h1 (fun x hx=>hb.same (hs x (FI _ hx)).1) (fun x hx=>(hs x (FI _ hx)).2),?_,rfl⟩;exact Jg hl hb (fun t h=>ht t (T8 _ h)) h2 (fun p hp=>hs p (GK _ hp))
theorem H0a {f:Func}{s:ChangeSpec}{apart fresh MB again:Bool}{W:World}{args:Array Value}{ds gs:List (DataW H)}{before:List MemPlace}
  (hW:DataW.Whole enc P f.params.toList s.vars apart W args.toList ds gs before) (hv:s.vars=[]) (hl:laidOutB P=true) (ht: ∀t∈f.params.toList,P.readableRec t=true/\t<P.types.size)
  (sZ:f.resultTypes= #[tb]) (htb:P.underlying tb=some .bool) (kI:s.fn H (ds++gs)={results:=[.lit (.bool true)],args:=ds}) (hb:Below W.heap.size W W'):s.post enc P f apart fresh MB again W args (.bool true) W':=by
 have Ii: ∀p∈before,p.block<W.heap.size:=fun p hp=>hW.lt p hp
 obtain⟨p,q,hA,hV,rfl,hz,hn⟩:=hW;have hW:DataW.Whole enc P f.params.toList s.vars apart W args.toList ds gs (p++q):=⟨p,q,hA,hV,rfl,hz,hn⟩;rw[hv] at hV;obtain⟨rfl,rfl⟩:=trodVars_none hV;simp only[Acn] at kI Ii hz hn hW;have hr: ∀(b:Nat) (sp:Nat->Bool) (hd:Bool),DataW.TrodAll enc P W' b sp hd f.resultTypes.toList ((Value.bool true).resultList f.resultTypes.size) [.lit (.bool true)] []:=by
  intro b sp hd;rw[sZ];exact trodAll_mk1 (shut_bool htb _)
 have ha: ∀sp:Nat->Bool,(∀x∈p,sp x.block=true)->DataW.TrodAll enc P W' 0 sp true f.params.toList args.toList ds p:=fun sp hs=>Jg hl hb ht hA (fun x hx=>⟨Ii x hx,hs x hx⟩)
 have Uz: ∀(j:Nat) (t:TypeId) (r:Value),f.resultTypes[j]?=some t->((Value.bool true).resultList f.resultTypes.size)[j]?=some r->Value.okWide P W' .any 0 t r:=by
  exact ok_one sZ rfl (okWide_bool_mk htb _)
 refine⟨ds,[],p,[],p,[],hW,by simp only[Acn];rw[kI];exact hr _ _ _,by simp only[Acn];rw[kI];exact ha _ (fun x hx=>by simpa using Ii x hx),by simp only[Acn];rw[hv,kI];exact rfl,hb.frame _,fun _=>?_⟩;refine⟨Uz,[.lit (.bool true)]++ds,[],p,⟨p,[],?_,by rw[hv];exact rfl,Zi,?_,hn⟩,fun x hx _=>hx⟩
 ·have:=trodAll_append (ha (fun _=>true) (fun _ _=>rfl)) (hr 0 (fun _=>true) true)
  simpa using this
 ·intro b off hp
  rw[hb.frozen (p:=⟨b,off,none⟩) (Ii _ hp)];exact hz b off hp
theorem Pm{W:World}{ts:List TypeId}{rs:List AV}(h:aW P I W ts rs u W'):Below W.heap.size W W':=⟨h.os,h.tape,h.output,h.size,fun k hk=>h.old k hk⟩
theorem Qc{W:World}(htb:Iu P tb=false)(h:aW P I W [tb] [.sc (.bool true)] u W'):u= .bool true:=by
 obtain⟨I',us,bs,rfl,_,_,_,_,_,hr⟩:=h.res;simp only[aY] at hr;obtain⟨v,us',b1,b2,rfl,_,h1,rfl,_⟩:=hr;unfold gB at h1;rw[Jx (by simp[htb])] at h1;simp only[gH,Iq] at h1;exact h1.2.1
end
end
end Go.Proofs.YtggghdmdjpianaaGreatDoor
