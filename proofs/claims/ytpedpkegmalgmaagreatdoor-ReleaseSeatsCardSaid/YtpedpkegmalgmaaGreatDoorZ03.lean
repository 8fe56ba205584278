/- A part of the proof: Br. -/
import Derived.Test.YtpedpkegmalgmaaGreatDoorZ02
import Derived.Test.YtpedpkegmalgmaaGreatDoorRows
import Derived.WalkKit
import Derived.ProofKit
import Derived.OpenShut
import Derived.JoinedCond
set_option linter.unusedSimpArgs false
set_option linter.unusedVariables false
namespace Go.Proofs.YtpedpkegmalgmaaGreatDoor
section
open Go Go.Ab Go.ChangeShapes Go.WideShapes Go.ChangeAt Go.RowKit
section
variable {H:Type}{enc:TypeId×Value→H}{P:Program}{w:World}
abbrev There (w:World)(b:Nat):Prop:=b<w.heap.size
def Reads {α:Type}(H:Type)(enc:TypeId×Value→H)(P:Program)(w:World)(N:Nat)(t:TypeId)(row:α→List AV)(ok:α→Prop):Prop:=
 ∀fuel cs (x:DataW H×List MemPlace),DataW.trod enc P w 0 (fun _=>true) true fuel t cs=some x→Rows.uptoBulk x.1≤N→ ∃a,RepDL (There w) w (row a) cs∧ok a
theorem bulk_one (d:DataW H):1≤Rows.uptoBulk d:=by
 cases d with
 |lit l=>cases l<;>simp[Rows.uptoBulk]
 |_=>simp[Rows.uptoBulk]
theorem bulk_part {d:DataW H}{l:List (DataW H)}(h:d∈l):Rows.uptoBulk d≤Rows.uptoBulkAll l:=by
 induction l with
 |nil=>cases h
 |cons x r ih=>
  simp only[Rows.uptoBulkAll]
  cases List.mem_cons.1 h with
  |inl e=>subst e;omega
  |inr e=>have:=ih e;omega
theorem bulk_len (l:List (DataW H)):l.length≤Rows.uptoBulkAll l:=by
 induction l with
 |nil=>simp[Rows.uptoBulkAll]
 |cons x r ih=>have:=bulk_one x;simp only[Rows.uptoBulkAll,List.length_cons];omega
theorem reads_int {N:Nat}{t:TypeId}{k:IntKind}(ht:P.underlying t=some (.int k)):Reads H enc P w N t (fun n:Int=>[.sc (.int k n)]) (fun n=>(Lit.int k n).wf=true):=by
 intro fuel cs x h _
 obtain⟨n,rfl,rfl,hw⟩:=DataW.trod_int ht h
 exact⟨n,by simp[RepDL,RepD,Value.oneCell'],hw⟩
theorem reads_string {N:Nat}{t:TypeId}(ht:P.underlying t=some .string):Reads H enc P w N t (fun s:ByteArray=>[.sc (.string s)]) (fun s=>s.size≤N):=by
 intro fuel cs x h hb
 obtain⟨s,rfl,rfl,_⟩:=DataW.trod_string ht h
 refine⟨s,by simp[RepDL,RepD,Value.oneCell'],?_⟩
 simp[Rows.uptoBulk] at hb
 have:s.size=s.data.size:=rfl
 omega
theorem cells_some {a:Addr}{n:Nat}{us:List Value}(h:w.cells? 0 a n=some us):us.length=n∧ ∀i,i<n→w.cell? (a.add i)=us[i]?:=by
 unfold World.cells? at h
 rw[if_pos (Nat.zero_le _)] at h
 exact⟨by simpa using mapM_some_length h,fun i hi=>mapM_some_get h i i (by simp[hi])⟩
theorem rows_snoc {I:Nat→Prop}{sz:Nat}{r:List AV}{u:List Value}(hu:u.length=sz)(hr:RepDL I w r u): ∀{rows:List (List AV)} {us:List Value},RepRows I w sz rows us→RepRows I w sz (rows++[r]) (us++u)
 |[],us,h=>by
  simp only[RepRows] at h
  subst h
  simp only[List.nil_append,RepRows]
  exact⟨u,[],by simp,hu,hr,rfl⟩
 |r'::rs,us,h=>by
  simp only[RepRows,List.cons_append] at h⊢
  obtain⟨u1,u2,rfl,hl,h1,h2⟩:=h
  exact⟨u1,u2++u,by simp,hl,h1,rows_snoc hu hr h2⟩
theorem spot_none {a:Addr}{v:Value}(h:w.cell? a=some v):a=⟨a.block,a.off,none⟩∧a.block<w.heap.size:=by
 unfold World.cell? at h
 split at h
 ·rename_i c t mk hb
  split at h
  ·cases h
  ·rename_i hs
   refine⟨?_,?_⟩
   ·obtain⟨b,o,s⟩:=a
    cases s with
    |none=>rfl
    |some _=>simp at hs
   ·exact(Array.getElem?_eq_some_iff.1 hb).1
 ·cases h
theorem add_mk (b o j:Nat):(⟨b,o,none⟩:Addr).add j=⟨b,o+j,none⟩:=by
 unfold Addr.add
 split
 ·rename_i h;simp[h]
 ·rfl
theorem reads_slice {α:Type}{N sz:Nat}{t e:TypeId}{row:α→List AV}{ok:α→Prop}(ht:P.underlying t=some (.slice e))(hsz:P.cellsOf e=sz)(hp:0<sz)(hel:Reads H enc P w N e row ok):
  Reads H enc P w N t (fun l:List α=>[.sl false sz (l.map row)]) (fun l=>l.length≤N∧ ∀a∈l,ok a):=by
 intro fuel cs x h hb
 rcases DataW.trod_slice ht h with⟨rfl,rfl⟩|⟨a,len,cap,elems,rest,n,rfl,rfl,rfl,_,hle,hcap,hlen,hel',_,_⟩
 ·refine⟨[],?_,by simp,by simp⟩
  simp only[RepDL,RepD,List.map_nil,List.length_nil]
  exact⟨_,[],rfl,⟨none,0,rfl,Nat.le_refl _,by unfold maxLen;omega,by simp,.inl trivial⟩,rfl⟩
 ·simp only[Rows.uptoBulk] at hb
  have hbl:=bulk_len (elems.map (·.1))
  simp only[List.length_map] at hbl
  by_cases hl0:len=0
  ·subst hl0
   refine⟨[],?_,by simp,by simp⟩
   simp only[RepDL,RepD,List.map_nil,List.length_nil]
   exact⟨_,[],rfl,⟨some a,cap,rfl,hle,hcap,by simp,.inl trivial⟩,rfl⟩
  obtain⟨b,o,hbo,hbs⟩: ∃b o,a=⟨b,o,none⟩∧b<w.heap.size:=by
   have he:=hel' 0 (by omega)
   rw[List.getElem?_eq_getElem (by omega),Option.bind_eq_some_iff] at he
   obtain⟨u,hu,_⟩:=he
   obtain⟨c1,c2⟩:=cells_some hu
   have hc0:=c2 0 (by omega)
   rw[List.getElem?_eq_getElem (by omega)] at hc0
   have:=spot_none hc0
   simp only[Nat.zero_mul,Addr.add,if_true] at this
   exact⟨_,_,this.1,this.2⟩
  subst hbo
  have key: ∀k,k≤len→ ∃(l:List α) (us:List Value),l.length=k∧us.length=k*sz∧RepRows (There w) w sz (l.map row) us∧(∀j,j<k*sz→w.cell? ⟨b,o+j,none⟩=us[j]?)∧ ∀z∈l,ok z:=by
   intro k
   induction k with
   |zero=>intro _;exact⟨[],[],rfl,by simp,by simp[RepRows],by simp,by simp⟩
   |succ k ih=>
    intro hk
    obtain⟨l,us,h1,h2,h3,h4,h5⟩:=ih (by omega)
    have he:=hel' k (by omega)
    have hlt:k<elems.length:=by omega
    rw[List.getElem?_eq_getElem hlt,Option.bind_eq_some_iff] at he
    obtain⟨u,hu,hr⟩:=he
    obtain⟨c1,c2⟩:=cells_some hu
    have hbk:=bulk_part (d:=(elems[k]).1) (l:=elems.map (·.1)) (List.mem_map.2 ⟨_,List.getElem_mem hlt,rfl⟩)
    obtain⟨z,hz1,hz2⟩:=hel n u _ hr (by omega)
    rw[hsz] at c1 c2
    refine⟨l++[z],us++u,by simp[h1],by simp[h2,c1,Nat.succ_mul],?_,?_,?_⟩
    ·rw[List.map_append];exact rows_snoc c1 hz1 h3
    ·intro j hj
     rw[Nat.succ_mul] at hj
     by_cases hjk:j<k*sz
     ·rw[List.getElem?_append_left (by omega)];exact h4 j hjk
     ·rw[List.getElem?_append_right (by omega),h2,←c2 (j - k*sz) (by omega),add_mk,add_mk]
      rw[show o+k*sz+(j - k*sz)=o+j by omega]
    ·intro y hy
     rcases List.mem_append.1 hy with hy|hy
     ·exact h5 y hy
     ·rw[List.mem_singleton] at hy;subst hy;exact hz2
  obtain⟨l,us,h1,h2,h3,h4,h5⟩:=key len (Nat.le_refl _)
  refine⟨l,?_,by omega,h5⟩
  simp only[RepDL,RepD]
  refine⟨_,[],rfl,⟨some ⟨b,o,none⟩,cap,by simp[h1],by simp[h1,hle],hcap,by simp,?_⟩,rfl⟩
  right
  refine⟨b,o,us,rfl,hbs,?_,h3⟩
  intro j v hj
  have hjl:j<us.length:=(List.getElem?_eq_some_iff.1 hj).1
  have:=h4 j (by omega)
  rw[hj] at this
  exact this
theorem trod_fields {t:TypeId}{fs:Array Field}{fuel:Nat}{cs:List Value}{x:DataW H×List MemPlace}{N:Nat}(ht:P.underlying t=some (.struct fs))(h:DataW.trod enc P w 0 (fun _=>true) true fuel t cs=some x)(hb:Rows.uptoBulk x.1≤N):
  cs.length=P.cellsOf t∧ ∃n,∀(i:Nat) f,fs[i]?=some f→ ∃y,DataW.trod enc P w 0 (fun _=>true) true n f.type ((cs.drop f.offset).take (P.cellsOf f.type))=some y∧Rows.uptoBulk y.1≤N:=by
 obtain⟨xs,n,_,rfl,hl,hlx,hg⟩:=DataW.trod_struct ht h
 simp only[Rows.uptoBulk] at hb
 refine⟨hl,n,fun i f hf=>?_⟩
 have hlt:i<fs.size:=(Array.getElem?_eq_some_iff.1 hf).1
 have hg':=hg i f hf
 have hix:i<xs.length:=by omega
 rw[List.getElem?_eq_getElem hix] at hg'
 have hbk:=bulk_part (d:=(xs[i]).1) (l:=xs.map (·.1)) (List.mem_map.2 ⟨_,List.getElem_mem hix,rfl⟩)
 exact⟨_,hg',by omega⟩
theorem trod_items {t e:TypeId}{m:Nat}{fuel:Nat}{cs:List Value}{x:DataW H×List MemPlace}{N:Nat}(ht:P.underlying t=some (.array m e))(h:DataW.trod enc P w 0 (fun _=>true) true fuel t cs=some x)(hb:Rows.uptoBulk x.1≤N):
  cs.length=P.cellsOf t∧ ∃n,∀i,i<m→ ∃y,DataW.trod enc P w 0 (fun _=>true) true n e ((cs.drop (i*P.cellsOf e)).take (P.cellsOf e))=some y∧Rows.uptoBulk y.1≤N:=by
 obtain⟨xs,n,_,rfl,hl,hlx,hg⟩:=DataW.trod_array ht h
 simp only[Rows.uptoBulk] at hb
 refine⟨hl,n,fun i hi=>?_⟩
 have hg':=hg i hi
 have hix:i<xs.length:=by omega
 rw[List.getElem?_eq_getElem hix] at hg'
 have hbk:=bulk_part (d:=(xs[i]).1) (l:=xs.map (·.1)) (List.mem_map.2 ⟨_,List.getElem_mem hix,rfl⟩)
 exact⟨_,hg',by omega⟩
/-! ### what the claim says -/
theorem trodAll_stays (hl:laidOutB P=true){W W':World}(hb:Below W.heap.size W W'){sp:Nat→Bool}: ∀{ts:List TypeId} {vs:List Value} {ds:List (DataW H)} {ps:List MemPlace},(∀t∈ts,P.readableRec t=true∧t<P.types.size)→
  DataW.TrodAll enc P W 0 (fun _=>true) true ts vs ds ps→(∀p∈ps,p.block<W.heap.size∧sp p.block=true)→DataW.TrodAll enc P W' 0 sp true ts vs ds ps
 |[],_,_,_,_,h,_=>by
  obtain⟨rfl,rfl,rfl⟩:=trodAll_nil h
  exact rfl
 |t::ts,_,_,_,ht,h,hs=>by
  obtain⟨v,vs1,d,ds1,a,b,rfl,rfl,rfl,h1,h2⟩:=trodAll_cons h
  refine⟨a,b,WideElems.Trod_stays hl (ht t (List.mem_cons_self ..)).1 (ht t (List.mem_cons_self ..)).2 h1 (fun x hx=>hb.same (hs x (List.mem_append_left _ hx)).1) (fun x hx=>(hs x (List.mem_append_left _ hx)).2),?_,rfl⟩
  exact trodAll_stays hl hb (fun t h=>ht t (List.mem_cons_of_mem _ h)) h2 (fun p hp=>hs p (List.mem_append_right _ hp))
theorem law_post {f:Func}{s:ChangeSpec}{apart fresh handsOn again:Bool}{W W':World}{args:Array Value}{ds gs:List (DataW H)}{before:List MemPlace}{tb:TypeId}
  (hW:DataW.Whole enc P f.params.toList s.vars apart W args.toList ds gs before) (hv:s.vars=[]) (hl:laidOutB P=true) (ht: ∀t∈f.params.toList,P.readableRec t=true∧t<P.types.size)
  (hres:f.resultTypes= #[tb]) (htb:P.underlying tb=some .bool) (hfn:s.fn H (ds++gs)={results:=[.lit (.bool true)],args:=ds}) (hb:Below W.heap.size W W'):s.post enc P f apart fresh handsOn again W args (.bool true) W':=by
 have hlt: ∀p∈before,p.block<W.heap.size:=fun p hp=>hW.lt p hp
 obtain⟨p,q,hA,hV,rfl,hz,hn⟩:=hW
 have hW:DataW.Whole enc P f.params.toList s.vars apart W args.toList ds gs (p++q):=⟨p,q,hA,hV,rfl,hz,hn⟩
 rw[hv] at hV
 obtain⟨rfl,rfl⟩:=trodVars_none hV
 simp only[List.append_nil] at hfn hlt hz hn hW
 have hr: ∀(b:Nat) (sp:Nat→Bool) (hd:Bool),DataW.TrodAll enc P W' b sp hd f.resultTypes.toList ((Value.bool true).resultList f.resultTypes.size) [.lit (.bool true)] []:=by
  intro b sp hd
  rw[hres]
  exact trodAll_mk1 (shut_bool htb _)
 have ha: ∀sp:Nat→Bool,(∀x∈p,sp x.block=true)→DataW.TrodAll enc P W' 0 sp true f.params.toList args.toList ds p:=fun sp hs=>trodAll_stays hl hb ht hA (fun x hx=>⟨hlt x hx,hs x hx⟩)
 have hok: ∀(j:Nat) (t:TypeId) (r:Value),f.resultTypes[j]?=some t→((Value.bool true).resultList f.resultTypes.size)[j]?=some r→Value.okWide P W' .any 0 t r:=by
  exact ok_one hres rfl (okWide_bool_mk htb _)
 refine⟨ds,[],p,[],p,[],hW,by simp only[List.append_nil];rw[hfn];exact hr _ _ _,by simp only[List.append_nil];rw[hfn];exact ha _ (fun x hx=>by simpa using hlt x hx),by simp only[List.append_nil];rw[hv,hfn];exact rfl,hb.frame _,fun _=>?_⟩
 refine⟨hok,[.lit (.bool true)]++ds,[],p,⟨p,[],?_,by rw[hv];exact rfl,by simp,?_,hn⟩,fun x hx _=>hx⟩
 ·have:=trodAll_append (ha (fun _=>true) (fun _ _=>rfl)) (hr 0 (fun _=>true) true)
  simpa using this
 ·intro b off hp
  rw[hb.frozen (p:=⟨b,off,none⟩) (hlt _ hp)]
  exact hz b off hp
theorem callPost_below {I:Nat→Prop}{W W':World}{ts:List TypeId}{rs:List AV}{u:Value}(h:CallPost P I W ts rs u W'):Below W.heap.size W W':=⟨h.os,h.tape,h.output,h.size,fun k hk=>h.old k hk⟩
theorem callPost_true {I:Nat→Prop}{W W':World}{tb:TypeId}{u:Value}(htb:isAggB P tb=false)(h:CallPost P I W [tb] [.sc (.bool true)] u W'):u= .bool true:=by
 obtain⟨I',us,bs,rfl,_,_,_,_,_,hr⟩:=h.res
 simp only[RepResL] at hr
 obtain⟨v,us',b1,b2,rfl,_,h1,rfl,_⟩:=hr
 unfold RepRes at h1
 rw[if_neg (by simp[htb])] at h1
 simp only[RepH,RepD] at h1
 exact h1.2.1
end
end
end Go.Proofs.YtpedpkegmalgmaaGreatDoor
