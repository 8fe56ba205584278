/- A part of the proof: Ab8, Ab9, Ab10, Ab11, Ab12, Ab13, Ab35, Ab29, Ab31, Ab14. -/
import Derived.Test.YtpedpkegmalgmaaGreatDoorZ00
import Derived.Laws.IdiomStrings
import Derived.RangeFuncRecord
import Derived.Laws.StructEq
import Derived.ChangeKeysEq
import Derived.DeepKeys3
set_option linter.unusedSimpArgs false
set_option linter.unusedVariables false
namespace Go.Ab
section
open Go
section
variable {P:Program}{I K:Nat→Prop}{m:Mp}{hp hp':Hp}{w:World}{k:Nat}
theorem src_slice {b o n c size:Nat}{us:List Value}(hc:CellsAt w b o us)(hl:us.length=n*size):Src P w size n (.slice (some ⟨b,o,none⟩) n c) us where
 len:=fun w'=>rfl
 first:=fun w' hw=>by
  refine run_firstCells_some w' size n _ n c us hl fun j v hv=>?_
  rw[add_plain]
  have:=hc j v hv
  simpa[World.cell?,hw] using this
 length:=hl
theorem src_none {size c:Nat}{A:Option Addr}:Src P w size 0 (.slice A 0 c) [] where
 len:=fun w'=>rfl
 first:=fun w' _=>by
  cases A with
  |none=>simp[Builtin.firstCells]
  |some a=>simp[Builtin.firstCells,loadCells,loadCellsFrom]
 length:=by simp
theorem rows_ok (G:Gam I K m hp w){x:AV}{u:Value}{sz:Nat}{rows:List (List AV)}(hr:Rep k I m hp w x u)(h:(rowsP x).run hp=some ((sz,rows),hp')):
  hp'=hp∧ ∀size,(sz=size∨rows=[])→ ∃news,Src P w size rows.length u news∧AllR (RepD I w) rows.flatten news∧Even size rows:=by
 cases x with
 |sl f sz' rows'=>
  simp only[rowsP,Prog.run,Option.some.injEq,Prod.mk.injEq] at h
  obtain⟨⟨rfl,rfl⟩,rfl⟩:=h
  refine⟨rfl,fun size hsz=>?_⟩
  simp only[Rep,RepD] at hr
  obtain⟨A,cap,rfl,h1,h2,_,h4⟩:=hr
  rcases h4 with rfl|⟨b,o,us,rfl,hb,hc,hrr⟩
  ·exact⟨[],src_none,by simpa using AllR.nil,fun r hr=>by simp at hr⟩
  ·obtain⟨he,ha⟩:=(RepRows_iff _ _).1 hrr
   rcases hsz with rfl|rfl
   ·exact⟨us,src_slice hc (by rw[←ha.1,he.length]),ha,he⟩
   ·exact⟨[],src_none,by simpa using AllR.nil,fun r hr=>by simp at hr⟩
 |own y g n=>
  simp only[rowsP,Prog.run] at h
  cases hx:hp y with
  |no g'=>rw[hx] at h;simp[Prog.run] at h
  |map _ _ _ _ _=>rw[hx] at h;simp[Prog.run] at h
  |box g' c f=>rw[hx] at h;simp[Prog.run] at h
  |arr g' sz' e rows' f=>
   rw[hx] at h
   simp only at h
   split at h
   ·rename_i hc
    obtain⟨rfl,hn⟩:=hc
    simp only[Prog.run,Option.some.injEq,Prod.mk.injEq] at h
    obtain⟨⟨rfl,rfl⟩,rfl⟩:=h
    refine⟨rfl,fun size hsz=>?_⟩
    simp only[Rep] at hr
    obtain⟨_,_,hr⟩:=hr
    obtain⟨_,hr⟩:=hr sz' e rows' f hx
    rcases hr with⟨h0,rfl,rfl⟩|⟨b,cap,hm,rfl⟩
    ·exact⟨[],by simpa using src_none,by simpa using AllR.nil,fun r hr=>by simp at hr⟩
    ·by_cases hz:rows'.take n=[]
     ·have hn0:n=0:=by
       have:=congrArg List.length hz
       rw[List.length_take,List.length_nil] at this
       omega
      subst hn0
      exact⟨[],by simpa using src_none,by simpa using AllR.nil,fun r hr=>by simp at hr⟩
     ·have hsz':sz'=size:=hsz.resolve_right hz
      subst hsz'
      have ho:=G.obj y
      rw[hx] at ho
      rcases ho with⟨h1,_⟩|⟨b',cap',us,mk,h1,h2,h3,h4,h5,h6,h7,h8,h9⟩
      ·rw[h1] at hm;cases hm
      ·rw[h1] at hm;cases hm
       obtain⟨he,ha⟩:=(RepRows_iff _ _).1 h7
       have ha':=ha.take (n*sz')
       rw[List.take_take,Nat.min_eq_left (Nat.mul_le_mul_right _ hn),←he.flatten_take] at ha'
       have hlen:(rows'.take n).length=n:=by rw[List.length_take];omega
       refine⟨us.toList.take (n*sz'),?_,ha',he.take n⟩
       rw[hlen]
       refine src_slice (fun j v hv=>?_) (by rw[←ha'.1,(he.take n).length,hlen])
       rw[List.getElem?_take] at hv
       split at hv
       ·rw[Nat.zero_add,cell_of_row w b j us e mk h2]
        simpa using hv
       ·cases hv
   ·simp[Prog.run] at h
 |sc v=>
  simp only[Rep] at hr
  subst hr
  unfold rowsP at h
  split at h
  all_goals first|(simp[Prog.run] at h;done)|skip
  ·rename_i heq;simp at heq
  ·rename_i heq;simp at heq
  ·rename_i heq
   simp only[AV.sc.injEq] at heq
   subst heq
   simp only[Prog.run,Option.some.injEq,Prod.mk.injEq] at h
   obtain⟨⟨rfl,rfl⟩,rfl⟩:=h
   exact⟨rfl,fun size _=>⟨[],src_none,by simpa using AllR.nil,fun r hr=>by simp at hr⟩⟩
  ·rename_i s heq
   simp only[AV.sc.injEq] at heq
   subst heq
   simp only[Prog.run,Option.some.injEq,Prod.mk.injEq] at h
   obtain⟨⟨rfl,rfl⟩,rfl⟩:=h
   refine⟨rfl,fun size hsz=>?_⟩
   have hall:AllR (RepD I w) (s.data.toList.map fun b=>[AV.sc (.int .u8 b.toNat)]).flatten (s.data.toList.map fun b=>Value.int .u8 b.toNat):=by
    have e:(s.data.toList.map fun b=>[AV.sc (.int .u8 b.toNat)]).flatten=s.data.toList.map fun b=>AV.sc (.int .u8 b.toNat):=by
     induction s.data.toList with
     |nil=>rfl
     |cons b l ih=>simp[ih]
    rw[e]
    refine⟨by simp,fun i a u ha hu=>?_⟩
    rw[List.getElem?_map] at ha hu
    cases hb:s.data.toList[i]? with
    |none=>rw[hb] at ha;cases ha
    |some b=>
     rw[hb] at ha hu
     cases ha;cases hu
     simp[RepD,Value.oneCell']
   have hs1:size=1∨s.data.toList=[]:=by
    rcases hsz with h|h
    ·exact .inl h.symm
    ·exact .inr (by simpa using h)
   refine⟨_,⟨fun w'=>?_,fun w' _=>?_,?_⟩,hall,?_⟩
   ·show Result.ok s.size w'=Result.ok (List.length (s.data.toList.map _)) w'
    rw[List.length_map]
    rfl
   ·have e:s.extract 0 s.data.toList.length=s:=by
     apply ByteArray.ext
     simp
    simp only[Builtin.firstCells,List.length_map]
    rw[e]
    simp
    congr 1
    apply Array.ext'
    simp
   ·rcases hs1 with rfl|h0
    ·simp
    ·simp[h0]
   ·intro r hr
    rw[List.mem_map] at hr
    obtain⟨b,hb,rfl⟩:=hr
    rcases hs1 with rfl|h0
    ·rfl
    ·rw[h0] at hb;simp at hb
  ·rename_i heq;simp at heq
 |bsl x g sz' off n=>
  simp only[rowsP,Prog.run] at h
  cases hx:hp x with
  |no g'=>rw[hx] at h;simp[Prog.run] at h
  |map _ _ _ _ _=>rw[hx] at h;simp[Prog.run] at h
  |arr g' sz e rows f=>rw[hx] at h;simp[Prog.run] at h
  |box g' cells f=>
   rw[hx] at h
   simp only at h
   split at h
   case isFalse=>simp[Prog.run] at h
   rename_i hc
   obtain⟨rfl,hl,hdat⟩:=hc
   simp only[Prog.run,Option.some.injEq,Prod.mk.injEq] at h
   obtain⟨⟨rfl,rfl⟩,rfl⟩:=h
   refine⟨rfl,fun size hsz=>?_⟩
   obtain⟨b,c,cap,us,c1,c2,c3,rfl,c4,c5,c6,c7⟩:=bslD G hx hdat hr hl
   rcases hsz with rfl|h0
   ·obtain⟨he,ha⟩:=(RepRows_iff _ _).1 c5
    rw[c6]
    exact⟨us,src_slice c4 c7,ha,he⟩
   ·have hn0:n=0:=by rw[←c6,h0];rfl
    subst hn0
    exact⟨[],by simpa[chunks] using src_none,by simpa[chunks] using AllR.nil,fun r hr=>by simp[chunks] at hr⟩
 |any|ptr|eptr|dp|agg|tup|vec|fn|mp|dmp=>simp[rowsP,Prog.run] at h
theorem zok_ok {e:TypeId}(h:zok P e=true): ∃i z,P.info? e=some i∧i.zero=some z∧z.cells.size=i.size∧0<i.size∧P.cellsOf e=i.size∧P.bytesOf e=i.bytes:=by
 unfold zok zeros at h
 cases hi:P.info? e with
 |none=>simp[hi] at h
 |some i=>
  cases hz:i.zero with
  |none=>simp[hi,hz] at h
  |some z=>
   simp[hi,hz,Program.cellsOf] at h
   exact⟨i,z,rfl,hz,h.1,h.2,by simp[Program.cellsOf,hi],by simp[Program.bytesOf,hi]⟩
theorem srcT_ok {t:TypeId}(h:srcT P t=true):notInt P t:=by
 unfold srcT at h
 split at h
 ·rename_i e he;exact .inl ⟨e,he⟩
 ·rename_i he;exact .inr he
 ·cases h
theorem slel_ok {t e:TypeId}(h:slel P t=some e):P.underlying t=some (.slice e):=by
 unfold slel at h
 split at h
 ·rename_i e' he;cases h;exact he
 ·cases h
theorem grown_rows {sz n cap:Nat}{rows:List (List AV)}{olds rest:List Value}(he:Even sz rows)(ha:AllR (RepD I w) rows.flatten olds)(hn:rows.length=n)(hr:rest.length=(cap - n)*sz)(hc:n≤cap):
  RepRows I w sz rows ((olds++rest).take (rows.length*sz))∧(olds++rest).length=cap*sz:=by
 have hl:olds.length=rows.length*sz:=by rw[←ha.1,he.length]
 constructor
 ·rw[RepRows_iff]
  refine⟨he,?_⟩
  rw[List.take_left' hl]
  exact ha
 ·rw[List.length_append,hl,hr,hn,←Nat.add_mul]
  congr 1;omega
theorem append_core (G:Gam I K m hp w){y:Nm}(hy:y.d≤k){t t' ty e:TypeId}{s v:AV}{us ux:Value}(hrs:Rep k I m hp w s us)(ht:P.underlying t=some (.slice e)){i:TypeInfo}{z:Value}(hi:P.info? e=some i)(hzz:i.zero=some z)
  (hzc:z.cells.size=i.size) (hpos:0<i.size) (hci:P.cellsOf e=i.size) (hbi:P.bytesOf e=i.bytes) (hu:notInt P t') {src:List (List AV)} {news:List Value} (hS:Src P w i.size src.length ux news) (hN:AllR (RepD I w) src.flatten news) (hE:Even i.size src)
  (h2:(appR1 P y e src s).run hp=some (v,hp')):
  ∃u' w' m',(Builtin.append_ #[t,t'] ty #[us,ux]).run P w= .ok u' w'∧Gam I K m' hp' w'∧Ext I K m hp w I m' hp' w'∧Rep k I m' hp' w' v u':=by
 unfold appR1 at h2
 have fresh: ∀(x:Nm) (g:Nat) (olds:List Value) (rows:List (List AV)) (old:Nat),x.d≤k→(hp x).gen<g→Even i.size rows→AllR (RepD I w) rows.flatten olds→rows.length+src.length≤maxLen→
   ∃m',Gam I K m' (upd hp x (.arr g i.size e (rows++src) false)) (w.drew.alloc (.cells (olds.toArray++news.toArray++Builtin.zeroCells z.cells (grownCap w (rows.length+src.length) old e - (rows.length+src.length))) e))∧
    Ext I K m hp w I m' (upd hp x (.arr g i.size e (rows++src) false)) (w.drew.alloc (.cells (olds.toArray++news.toArray++Builtin.zeroCells z.cells (grownCap w (rows.length+src.length) old e - (rows.length+src.length))) e))∧
    Rep k I m' (upd hp x (.arr g i.size e (rows++src) false)) (w.drew.alloc (.cells (olds.toArray++news.toArray++Builtin.zeroCells z.cells (grownCap w (rows.length+src.length) old e - (rows.length+src.length))) e))
     (.own x g (rows.length+src.length)) (.slice (some ⟨w.heap.size,0,none⟩) (rows.length+src.length) (grownCap w (rows.length+src.length) old e)):=by
  intro x g olds rows old hxk hg hev hal hmax
  have hge:=grownCap_ge w (rows.length+src.length) old e
  have hle:=grownCap_le_maxLen w (rows.length+src.length) old e hmax
  obtain⟨a1,a2⟩:=grown_rows (rest:=(Builtin.zeroCells z.cells (grownCap w (rows.length+src.length) old e - (rows.length+src.length))).toList) (hev.append hE) (by rw[List.flatten_append];exact hal.append hN) (by rw[List.length_append])
   (by rw[Array.length_toList,size_zeroCells,hzc]) hge
  obtain⟨G2,E2⟩:=G.alloc (x:=x) (o:= .arr g i.size e (rows++src) false) (.cells (olds.toArray++news.toArray++Builtin.zeroCells z.cells (grownCap w (rows.length+src.length) old e - (rows.length+src.length))) e) (grownCap w (rows.length+src.length) old e) hg
   (fun w' m' hb hm E=> .inr ⟨w.heap.size,_,_,(0,0),hm,hb,noMark0 _,by have:=a2;simp at this⊢;omega,by rw[List.length_append];exact hge,hle,
    RepRows.mono E.isub (fun b hb=>E.keep b (.inl hb)) _ _ _ (by simpa using a1),fun h=>(by cases h),fun _=>G.fresh⟩) (.inr rfl)
  refine⟨_,G2,E2,?_⟩
  simp only[Rep]
  refine⟨hxk,by rw[upd_same];exact Nat.le_refl _,fun sz e' rows' fz hx=>?_⟩
  rw[upd_same] at hx
  cases hx
  exact⟨by rw[List.length_append];exact Nat.le_refl _,.inr ⟨_,_,upd_same _ _ _,rfl⟩⟩
 have onNil: ∀(x:Nm) (g:Nat),x.d≤k→(hp x).gen<g→src.length≤maxLen→src.length*i.bytes≤140737488355328→
   ∃u' w' m',(Builtin.append_ #[t,t'] ty #[.slice none 0 0,ux]).run P w= .ok u' w'∧Gam I K m' (upd hp x (.arr g i.size e src false)) w'∧Ext I K m hp w I m' (upd hp x (.arr g i.size e src false)) w'∧
    Rep k I m' (upd hp x (.arr g i.size e src false)) w' (.own x g src.length) u':=by
  intro x g hxk hg hmax hby
  by_cases h0:src.length=0
  ·have hs0:src=[]:=List.eq_nil_of_length_eq_zero h0
   subst hs0
   have hn0:news=[]:=List.eq_nil_of_length_eq_zero (by rw[hS.length];simp)
   subst hn0
   have hg':(hp x).gen<(AObj.arr g i.size e [] false).gen:=hg
   refine⟨_,w,upd m x none,append_nil0 w t t' ty e i ht hu hi ux hS,G.bump (.refl I K w) (fun _ h=>h) hg' (.inl ⟨upd_same _ _ _,rfl⟩) (fun _ _ _ _ _=>rfl) (fun _ _ _ _ _ _ h=>h) (fun _ r hr=>(by cases hr)) G.ilt G.ik,.bump (.refl I K w) (fun _ h=>h) hg',?_⟩
   simp only[Rep]
   refine⟨hxk,by rw[upd_same];exact Nat.le_refl _,fun sz e' rows' fz hx=>?_⟩
   rw[upd_same] at hx
   cases hx
   exact⟨Nat.le_refl _,.inl ⟨upd_same _ _ _,trivial,rfl⟩⟩
  ·have hm63:(src.length:Int)≤9223372036854775807:=by simp only[maxLen] at hmax;omega
   have hr:=append_nil w t t' ty e i z ht hu hi hzz ux src.length news hS (by omega) hm63 (by omega)
   obtain⟨m',G',E',R'⟩:=fresh x g [] [] 0 hxk hg (fun r hr=>by simp at hr) (by simpa using AllR.nil) (by simpa using hmax)
   simp only[List.length_nil,Nat.zero_add,List.nil_append] at G' E' R'
   refine⟨_,_,m',hr,?_,?_,?_⟩
   ·simpa using G'
   ·simpa using E'
   ·simpa using R'
 split at h2
 · -- onto what is owned
  rename_i zn g n
  simp only[Prog.run] at h2
  cases hx:hp zn with
  |no g'=>rw[hx] at h2;simp[Prog.run] at h2
  |map _ _ _ _ _=>rw[hx] at h2;simp[Prog.run] at h2
  |box g' c f=>rw[hx] at h2;simp[Prog.run] at h2
  |arr g' sz e' rows f=>
   rw[hx] at h2
   simp only at h2
   split at h2
   case isFalse=>simp[Prog.run] at h2
   rename_i hc
   obtain⟨rfl,rfl,rfl,⟨rfl,rfl⟩,hby,hmax⟩:=hc
   simp only[Prog.run,Option.some.injEq,Prod.mk.injEq] at h2
   obtain⟨rfl,rfl⟩:=h2
   simp only[Rep] at hrs
   obtain⟨hzd,_,hrs⟩:=hrs
   obtain⟨_,hrs⟩:=hrs _ e' rows false hx
   have hgen:(hp zn).gen<g'+1:=by rw[hx];simp[AObj.gen]
   have ho:=G.obj zn
   rw[hx] at ho
   rw[hci] at ho⊢
   rw[hbi] at hby
   rcases hrs with⟨h0,rfl,hn0⟩|⟨b,cap,hm,rfl⟩
   ·have hr0:rows=[]:=List.eq_nil_of_length_eq_zero hn0
    subst hr0
    simp only[List.length_nil,Nat.zero_add,List.nil_append] at hby hmax⊢
    exact onNil zn (g'+1) hzd hgen hmax hby
   ·rcases ho with⟨h1,_⟩|⟨b',cap',cur,mk,h1,h2,h3,h4,h5,h6,h7,h8,h9⟩
    ·rw[h1] at hm;cases hm
    ·rw[h1] at hm;cases hm
     obtain⟨hev,hal⟩:=(RepRows_iff _ _).1 h7
     have hold:(cur.toList.take (rows.length*i.size)).length=rows.length*i.size:=by rw[←hal.1,hev.length]
     by_cases hroom:rows.length+src.length≤cap
     ·have hnl:news.length=src.length*i.size:=hS.length
      have hfit:rows.length*i.size+news.length≤cur.size:=by rw[hnl,h4,←Nat.add_mul];exact Nat.mul_le_mul_right _ hroom
      have hr:=append_room w t t' ty e' i ht hu hi b rows.length cap cur mk h2 h3 ux src.length news hS hN.one hroom hfit
      obtain⟨hni,hnk⟩:=h9 rfl
      have hp':m zn=some (b,cap):=h1
      have em:upd m zn (some (b,cap))=m:=by funext q;by_cases hq:q=zn<;>simp[upd,hq,h1]
      have E2:Ext I K m hp w I (upd m zn (some (b,cap))) (upd hp zn (.arr (g'+1) i.size e' (rows++src) false)) (w.setRow b (cur.toList.take (rows.length*i.size)++news++cur.toList.drop (rows.length*i.size+news.length)).toArray):= .bump (.setRow hni hnk) (fun _ h=>h) hgen
      refine⟨_,_,upd m zn (some (b,cap)),hr,G.bump (.setRow hni hnk) (fun _ h=>h) hgen ?_ (fun q hq hl r hr=>setRow_other w b r.1 _ (fun e=>hq (G.inj q zn r (b,cap) hl (by rw[hx];rfl) hr h1 e))) (fun _ _ _ _ _ _ h=>h) ?_ (fun c hc=>by have:=G.ilt c hc;simpa[World.setRow] using this) G.ik,E2,?_⟩
      ·refine .inr ⟨b,cap,_,mk,upd_same _ _ _,setRow_heap w b cur _ e' mk h2,fun j hj=>h3 j ?_,?_,by rw[List.length_append];exact hroom,h6,?_,fun h=>(by cases h),fun _=>⟨hni,hnk⟩⟩
       ·simp at hj;omega
       ·simp;omega
       ·refine RepRows.mono E2.isub (fun b hb=>E2.keep b (.inl hb)) _ _ _ ((RepRows_iff _ _).2 ⟨hev.append hE,?_⟩)
        rw[List.flatten_append]
        have happ:=hal.append hN
        have hl2:(cur.toList.take (rows.length*i.size)++news).length=(rows++src).length*i.size:=by rw[List.length_append,hold,hnl,List.length_append,Nat.add_mul]
        rw[List.take_left' hl2]
        exact happ
      ·intro _ r hr q hq hl s hs e
       cases hr
       exact hq (G.inj q zn s (b,cap) hl (by rw[hx];rfl) hs h1 e.symm)
      ·simp only[Rep]
       refine⟨hzd,by rw[upd_same];exact Nat.le_refl _,fun sz e' rows' fz hx=>?_⟩
       rw[upd_same] at hx
       cases hx
       exact⟨by rw[List.length_append];exact Nat.le_refl _,.inr ⟨b,cap,upd_same _ _ _,rfl⟩⟩
     ·have hcell: ∀j v,(cur.toList.take (rows.length*i.size))[j]?=some v→w.cell? ((⟨b,0,none⟩:Addr).add j)=some v:=fun j v hv=>by
       rw[add_plain,Nat.zero_add,cell_of_row w b j cur e' mk h2]
       rw[List.getElem?_take] at hv
       split at hv
       ·simpa using hv
       ·cases hv
      have hm63:((rows.length+src.length:Nat):Int)≤9223372036854775807:=by simp only[maxLen] at hmax;omega
      have hr:=append_grow w t t' ty e' i z ht hu hi hzz ⟨b,0,none⟩ rows.length cap _ hold hcell ux src.length news hS (by omega) hm63 (growslice_fits (by omega) hby)
      obtain⟨m',G',E',R'⟩:=fresh zn (g'+1) _ rows cap hzd hgen hev hal hmax
      exact⟨_,_,m',hr,G',E',R'⟩
 · -- onto nil
  split at h2
  case isFalse=>simp[Prog.run] at h2
  rename_i hc
  simp only[newArr,Prog.run,Option.some.injEq,Prod.mk.injEq] at h2
  obtain⟨rfl,rfl⟩:=h2
  simp only[Rep] at hrs
  subst hrs
  rw[hci]
  rw[hbi] at hc
  exact onNil y ((hp y).gen+1) hy (Nat.lt_succ_self _) hc.2 hc.1
 · -- onto a list without spare room
  rename_i sz rows
  split at h2
  case isFalse=>simp[Prog.run] at h2
  rename_i hc
  obtain⟨rfl,h0,hby,hmax⟩:=hc
  simp only[newArr,Prog.run,Option.some.injEq,Prod.mk.injEq] at h2
  obtain⟨rfl,rfl⟩:=h2
  simp only[Rep,RepD] at hrs
  obtain⟨A,cap,rfl,h1,h2,h3,h4⟩:=hrs
  have hcap:cap=rows.length:=h3 trivial
  subst hcap
  rw[hci] at h4⊢
  rw[hbi] at hby
  have hm63:((rows.length+src.length:Nat):Int)≤9223372036854775807:=by simp only[maxLen] at hmax;omega
  rw[List.length_append]
  rcases h4 with rfl|⟨b,o,cur,rfl,hb,hcc,hrr⟩
  ·cases A with
   |none=>
    simp only[List.length_nil,Nat.zero_add,List.nil_append] at*
    exact onNil y ((hp y).gen+1) hy (Nat.lt_succ_self _) hmax hby
   |some ad=>
    obtain⟨m',G',E',R'⟩:=fresh y ((hp y).gen+1) [] [] 0 hy (Nat.lt_succ_self _) (fun r hr=>by simp at hr) (by simpa using AllR.nil) hmax
    have hr:=append_grow w t t' ty e i z ht hu hi hzz ad 0 0 [] (by simp) (by simp) ux src.length news hS (by omega) (by simpa using hm63) (growslice_fits (by omega) (by simpa using hby))
    exact⟨_,_,m',hr,G',E',R'⟩
  ·obtain⟨hev,hal⟩:=(RepRows_iff _ _).1 hrr
   obtain⟨m',G',E',R'⟩:=fresh y ((hp y).gen+1) cur rows rows.length hy (Nat.lt_succ_self _) hev hal hmax
   have hr:=append_grow w t t' ty e i z ht hu hi hzz ⟨b,o,none⟩ rows.length rows.length cur (by rw[←hal.1,hev.length]) (fun j v hv=>by rw[add_plain];exact hcc j v hv) ux src.length news hS (by omega) hm63 (growslice_fits (by omega) hby)
   exact⟨_,_,m',hr,G',E',R'⟩
 ·simp[Prog.run] at h2
theorem append_ok (G:Gam I K m hp w){y:Nm}(hy:y.d≤k){t t' ty:TypeId}{s x v:AV}{us ux:Value}(hrs:Rep k I m hp w s us)(hrx:Rep k I m hp w x ux)
  (h:(appendP P y t t' s x).run hp=some (v,hp')):
  ∃u' w' m',(Builtin.append_ #[t,t'] ty #[us,ux]).run P w= .ok u' w'∧Gam I K m' hp' w'∧Ext I K m hp w I m' hp' w'∧Rep k I m' hp' w' v u':=by
 unfold appendP at h
 split at h
 case h_2=>simp[Prog.run] at h
 rename_i e he
 have ht:=slel_ok he
 split at h
 case isFalse=>simp[Prog.run] at h
 rename_i hzs
 obtain⟨hz,hst⟩:=hzs
 obtain⟨i,z,hi,hzz,hzc,hpos,hci,hbi⟩:=zok_ok hz
 have hu:=srcT_ok hst
 obtain⟨⟨sz',src⟩,hp1,r1,h2⟩:=run_bind_some h
 clear h
 obtain⟨e1,hsrc⟩:=rows_ok (P:=P) G hrx r1
 rw[e1] at h2
 clear r1 e1
 simp only at h2
 split at h2
 case isFalse=>simp[Prog.run] at h2
 rename_i hsz
 obtain⟨news,hS,hN,hE⟩:=hsrc (P.cellsOf e) hsz
 rw[hci] at hS hE
 unfold appR at h2
 split at h2
 case h_2=>exact append_core G hy hrs ht hi hzz hzc hpos hci hbi hu hS hN hE h2
 rename_i zn g n
 simp only[Prog.run] at h2
 cases hx:hp zn with
 |no g'=>rw[hx] at h2;simp[Prog.run] at h2
 |map _ _ _ _ _=>rw[hx] at h2;simp[Prog.run] at h2
 |box g' c f=>rw[hx] at h2;simp[Prog.run] at h2
 |arr g' sz e' rows f=>
  rw[hx] at h2
  simp only at h2
  split at h2
  case isFalse=>exact append_core G hy hrs ht hi hzz hzc hpos hci hbi hu hS hN hE h2
  rename_i hc
  obtain⟨rfl,rfl,hlt⟩:=hc
  simp only[Prog.run] at h2
  have hrs0:=hrs
  simp only[Rep] at hrs0
  obtain⟨hzd,_,hrs0⟩:=hrs0
  obtain⟨_,hrs0⟩:=hrs0 _ e' rows false hx
  have hgen:(hp zn).gen<(AObj.arr (g'+1) sz e' (rows.take n) false).gen:=by rw[hx];simp[AObj.gen]
  have ho:=G.obj zn
  rw[hx] at ho
  rcases ho with⟨_,h1⟩|⟨b,cap,cur,mk,h1,hh2,h3,h4,h5,h6,h7,_,h9⟩
  ·rw[h1] at hlt;simp at hlt
  ·obtain⟨hni,hnk⟩:=h9 rfl
   have em:upd m zn (some (b,cap))=m:=by funext q;by_cases hq:q=zn<;>simp[upd,hq,h1]
   have hlen:(rows.take n).length=n:=by rw[List.length_take];omega
   have E2:Ext I K m hp w I (upd m zn (some (b,cap))) (upd hp zn (.arr (g'+1) sz e' (rows.take n) false)) w:= .bump (.refl I K w) (fun _ h=>h) hgen
   have G2:Gam I K (upd m zn (some (b,cap))) (upd hp zn (.arr (g'+1) sz e' (rows.take n) false)) w:=by
    refine G.bump (.refl I K w) (fun _ h=>h) hgen ?_ (fun _ _ _ _ _=>rfl) (fun _ _ _ _ _ _ h=>h) ?_ G.ilt G.ik
    ·obtain⟨hev,ha⟩:=(RepRows_iff _ _).1 h7
     have ha':=ha.take (n*sz)
     rw[List.take_take,Nat.min_eq_left (Nat.mul_le_mul_right _ (Nat.le_of_lt hlt)),←hev.flatten_take] at ha'
     exact .inr ⟨b,cap,cur,mk,upd_same _ _ _,hh2,h3,h4,by rw[hlen];omega,h6,by rw[hlen];exact(RepRows_iff _ _).2 ⟨hev.take n,ha'⟩,fun h=>(by cases h),fun _=>⟨hni,hnk⟩⟩
    ·intro _ r hr q hq hl s hs e
     cases hr
     exact hq (G.inj q zn s (b,cap) hl (by rw[hx];rfl) hs h1 e.symm)
   rw[em] at E2 G2
   have hrs2:Rep k I m (upd hp zn (.arr (g'+1) sz e' (rows.take n) false)) w (.own zn (g'+1) n) us:=by
    rcases hrs0 with⟨h0,_⟩|⟨b2,cap2,hm2,hus⟩
    ·rw[h0] at h1;cases h1
    ·simp only[Rep]
     refine⟨hzd,by rw[upd_same];exact Nat.le_refl _,fun sz' e'' rows' fz hx'=>?_⟩
     rw[upd_same] at hx'
     cases hx'
     exact⟨by rw[hlen];exact Nat.le_refl _,.inr ⟨b2,cap2,hm2,hus⟩⟩
   obtain⟨u',w',m',r1,r2,r3,r4⟩:=append_core G2 hy hrs2 ht hi hzz hzc hpos hci hbi hu hS hN hE h2
   exact⟨u',w',m',r1,r2,E2.trans r3,r4⟩
theorem copy_run {t t' ty e:TypeId}(ht:P.underlying t=some (.slice e)){i:TypeInfo}(hi:P.info? e=some i){b off n cap:Nat}{T:TypeId}{mk:Nat×Nat}{cur:Array Value}(hg:w.heap[b]?=some (.cells cur T mk))(hm:NoMark cur mk)
  {x:Value} {q:Nat} {news:List Value} (hs:Src P w i.size q x news) (h1: ∀v∈news,v.oneCell'=true) (hq:q≤n) (hfit:off+news.length≤cur.size):
  (Builtin.copy_ #[t,t'] ty #[.slice (some ⟨b,off,none⟩) n cap,x]).run P w= .ok (.int .i64 q) (w.setRow b (cur.toList.take off++news++cur.toList.drop (off+news.length)).toArray):=by
 have hst:=run_storeCells_mk (P:=P) b off T mk news 0 cur w hg hm (by simpa using hfit) h1
 simp only[Nat.add_zero] at hst
 have hmin:Nat.min q n=q:=Nat.min_eq_left hq
 simp[Builtin.copy_,run_underlying ht,sizeOf,typeInfo,hi,hs.len w,hmin,hs.first w rfl,hst,goInt]
theorem copy_run0 {t t' ty e:TypeId}(ht:P.underlying t=some (.slice e)){i:TypeInfo}(hi:P.info? e=some i)
  {x:Value} {news:List Value} (hs:Src P w i.size 0 x news):
  (Builtin.copy_ #[t,t'] ty #[.slice none 0 0,x]).run P w= .ok (.int .i64 0) w:=by
 have h0:=hs.len w
 have hf:=hs.first w rfl
 simp[Builtin.copy_,run_underlying ht,sizeOf,typeInfo,hi,h0,hf,goInt]
theorem copy_ok (G:Gam I K m hp w){t t' ty:TypeId}{d s v:AV}{ud us:Value}(hrd:Rep k I m hp w d ud)(hrs:Rep k I m hp w s us)(h:(copyP P t d s).run hp=some (v,hp')):
  ∃u' w',(Builtin.copy_ #[t,t'] ty #[ud,us]).run P w= .ok u' w'∧Gam I K m hp' w'∧Ext I K m hp w I m hp' w'∧Rep k I m hp' w' v u':=by
 unfold copyP at h
 split at h
 case h_2=>simp[Prog.run] at h
 rename_i e he
 have ht:=slel_ok he
 split at h
 case isFalse=>simp[Prog.run] at h
 rename_i htok
 simp only[tOk,Bool.and_eq_true] at htok
 obtain⟨i,hi⟩:=Option.isSome_iff_exists.1 htok.1
 have hci:P.cellsOf e=i.size:=by simp[Program.cellsOf,hi]
 obtain⟨⟨sz',src⟩,hp1,r1,h2⟩:=run_bind_some h
 clear h
 obtain⟨e1,hsrc⟩:=rows_ok (P:=P) G hrs r1
 rw[e1] at h2
 clear r1 e1
 simp only at h2
 split at h2
 case isFalse=>simp[Prog.run] at h2
 rename_i hsz
 obtain⟨news,hS,hN,hE⟩:=hsrc (P.cellsOf e) hsz
 rw[hci] at hS hE
 have hnl:src.flatten.length=news.length:=hN.1
 split at h2
 ·rename_i x g sz off n
  simp only[Prog.run] at h2
  cases hx:hp x with
  |no g'=>rw[hx] at h2;simp[Prog.run,AObj.head] at h2
  |map _ _ _ _ _=>rw[hx] at h2;simp[Prog.run,AObj.head] at h2
  |arr g' sz e' rows f=>rw[hx] at h2;simp[Prog.run,AObj.head] at h2
  |box g' cells f=>
   rw[hx] at h2
   simp only[AObj.head] at h2
   split at h2
   case isFalse=>simp[Prog.run] at h2
   rename_i hc
   obtain⟨rfl,rfl,rfl,hle,hfit⟩:=hc
   obtain⟨v1,hp2,p0,h3⟩:=run_bind_some h2
   obtain⟨hp3,p1,p2⟩:=run_putCs src.flatten off cells hp hx hfit
   rw[p1] at p0
   simp only[Option.some.injEq,Prod.mk.injEq] at p0
   obtain⟨rfl,rfl⟩:=p0
   subst p2
   simp only[Prog.run,Option.some.injEq,Prod.mk.injEq] at h3
   obtain⟨rfl,rfl⟩:=h3
   simp only[Rep] at hrd
   obtain⟨hd,_,hrd⟩:=hrd
   obtain⟨b,c,cap,hmx,_,_,rfl⟩:=hrd cells false hx
   have ho:=G.obj x
   rw[hx] at ho
   obtain⟨b',c',us',T,mk,o1,o2,o3,o4,o5,o6⟩:=ho
   rw[o1] at hmx;cases hmx
   have o4':=(RepL_iff _ _).1 o4
   have hfit2:off+news.length≤us'.size:=by have:=o4'.1;simp at this;omega
   have hrun:=copy_run (t':=t') (ty:=ty) (off:=off) (cap:=cap) ht hi o2 o3.1 hS hN.one hle hfit2
   have hk:SameKind (hp x) (.box g' (splice cells off src.flatten) false):=by rw[hx];exact⟨_,_,rfl⟩
   obtain⟨hni,hnk⟩:=o6 rfl
   have E2:Ext I K m hp w I m (upd hp x (.box g' (splice cells off src.flatten) false)) (w.setRow b (us'.toList.take off++news++us'.toList.drop (off+news.length)).toArray):= .same (.setRow hni hnk) (fun _ h=>h) hk
   refine⟨_,_,hrun,G.same (.setRow hni hnk) (fun _ h=>h) hk ?_ (fun y hy hl q hq=>setRow_other w b q.1 _ (fun e=>hy (G.inj y x q (b,c) hl (by rw[hx];rfl) hq o1 e))) (fun _ _ _ _ _ _ h=>h) (fun b hb=>by have:=G.ilt b hb;simpa[World.setRow] using this) G.ik,E2,by simp only[Rep]⟩
   refine⟨b,c,_,T,mk,o1,setRow_heap w b us' _ T mk o2,⟨fun j hj=>o3.1 j ?_,by have hz:=o3.2;simp;omega⟩,?_,fun h=>(by cases h),fun _=>⟨hni,hnk⟩⟩
   ·simp at hj;omega
   ·rw[RepL_iff]
    have hN':AllR (Rep x.d I m hp w) src.flatten news:=hN.imp fun a u h=>RepD.rep h
    have hsp:=(o4'.imp fun a u h=>Rep.mono E2 _ a u h).splice ((hN'.imp fun a u h=>Rep.mono E2 _ a u h)) off hfit
    have q1:=o4'.1
    have q2:=hN.1
    have q4:=hsp.1
    have hl2:(splice cells off src.flatten).length=cells.length:=by simp at q1 q2 q4 hfit;omega
    have hn:cells.length≤us'.toList.length:=by simp at q1⊢;omega
    have e:=take_splice (us:=us'.toList) (v:=news) (off:=off) (by omega) hn
    rw[hl2]
    rw[show(us'.toList.take off++news++us'.toList.drop (off+news.length)).toArray.toList=us'.toList.take off++news++us'.toList.drop (off+news.length) from rfl,e]
    simpa using hsp
 ·rename_i x g n
  simp only[Prog.run] at h2
  cases hx:hp x with
  |no g'=>rw[hx] at h2;simp[Prog.run] at h2
  |map _ _ _ _ _=>rw[hx] at h2;simp[Prog.run] at h2
  |box g' c f=>rw[hx] at h2;simp[Prog.run] at h2
  |arr g' sz e' rows f=>
   rw[hx] at h2
   simp only at h2
   split at h2
   case isFalse=>simp[Prog.run] at h2
   rename_i hc
   obtain⟨rfl,rfl,rfl,hle,hnr⟩:=hc
   simp only[Prog.run,Option.some.injEq,Prod.mk.injEq] at h2
   obtain⟨rfl,rfl⟩:=h2
   simp only[Rep] at hrd
   obtain⟨hd,_,hrd⟩:=hrd
   obtain⟨_,hrd⟩:=hrd _ e' rows false hx
   have ho:=G.obj x
   rw[hx] at ho
   have hk:SameKind (hp x) (.arr g' (P.cellsOf e) e' (src++rows.drop src.length) false):=by rw[hx];exact⟨_,_,rfl,by simp;omega⟩
   rcases hrd with⟨m0,rfl,rfl⟩|⟨b,cap,hmx,rfl⟩
   ·have hs0:src=[]:=List.eq_nil_of_length_eq_zero (by omega)
    subst hs0
    have hsame:upd hp x (.arr g' (P.cellsOf e) e' ([]++rows.drop ([]:List (List AV)).length) false)=hp:=by
     funext y;by_cases hy:y=x
     ·subst hy;simp[upd,hx]
     ·simp[upd,hy]
    rw[hsame]
    exact⟨_,w,copy_run0 ht hi hS,G,.refl _ _ _ _ _,by simp only[Rep];rfl⟩
   ·rcases ho with⟨o1,_⟩|⟨b',cap',cur,mk,o1,o2,o3,o4,o5,o6,o7,o8,o9⟩
    ·rw[o1] at hmx;cases hmx
    ·rw[o1] at hmx;cases hmx
     rw[hci] at*
     obtain⟨hev,hal⟩:=(RepRows_iff _ _).1 o7
     have hnl2:news.length=src.length*i.size:=hS.length
     have hb1:src.length*i.size≤rows.length*i.size:=Nat.mul_le_mul_right _ (by omega)
     have hb2:rows.length*i.size≤cur.size:=by rw[o4];exact Nat.mul_le_mul_right _ o5
     have hfit2:0+news.length≤cur.size:=by omega
     have hrun:=copy_run (t':=t') (ty:=ty) (off:=0) (cap:=cap) ht hi o2 o3 hS hN.one hle hfit2
     obtain⟨hni,hnk⟩:=o9 rfl
     have E2:Ext I K m hp w I m (upd hp x (.arr g' i.size e' (src++rows.drop src.length) false)) (w.setRow b (cur.toList.take 0++news++cur.toList.drop (0+news.length)).toArray):= .same (.setRow hni hnk) (fun _ h=>h) hk
     refine⟨_,_,hrun,G.same (.setRow hni hnk) (fun _ h=>h) hk ?_ (fun y hy hl q hq=>setRow_other w b q.1 _ (fun e=>hy (G.inj y x q (b,cap) hl (by rw[hx];rfl) hq o1 e))) (fun _ _ _ _ _ _ h=>h) (fun b hb=>by have:=G.ilt b hb;simpa[World.setRow] using this) G.ik,E2,by simp only[Rep]⟩
     refine .inr ⟨b,cap,_,mk,o1,setRow_heap w b cur _ e' mk o2,fun j hj=>o3 j ?_,?_,by simp;omega,o6,?_,fun h=>(by cases h),fun _=>⟨hni,hnk⟩⟩
     ·simp at hj;omega
     ·simp;omega
     ·refine RepRows.mono E2.isub (fun b hb=>E2.keep b (.inl hb)) _ _ _ ((RepRows_iff _ _).2 ⟨hE.append (hev.drop _),?_⟩)
      have hlen:(src++rows.drop src.length).length=rows.length:=by simp;omega
      rw[hlen,List.flatten_append,hev.flatten_drop]
      have a2:=hal.drop (src.length*i.size)
      have a3:=hN.append a2
      have e1:List.take (rows.length*i.size) ((cur.toList.take 0++news++cur.toList.drop (0+news.length)).toArray.toList)=news++List.drop (src.length*i.size) (List.take (rows.length*i.size) cur.toList):=by
       simp only[List.take_zero,List.nil_append,Nat.zero_add,List.toList_toArray]
       rw[List.take_append,List.take_of_length_le (by omega),hnl2,List.drop_take]
      rw[e1]
      exact a3
 ·simp[Prog.run] at h2
end
end
section
open Go
section
variable {P:Program}{I K:Nat→Prop}{m:Mp}{hp hp':Hp}{w:World}{k:Nat}
/-! ### addresses -/
theorem shift_ok {n:Nat}{a v:AV}{u:Value}(hr:Rep k I m hp w a u)(h:(shiftA n a).run hp=some (v,hp')):
  hp'=hp∧ ∃b o,u= .pointer (some ⟨b,o,none⟩)∧Rep k I m hp w v (.pointer (some ⟨b,o+n,none⟩)):=by
 cases a with
 |ptr x g off=>
  simp only[shiftA,Prog.run] at h
  cases hx:hp x with
  |no g'=>rw[hx] at h;simp[Prog.run,AObj.head] at h
  |map _ _ _ _ _=>rw[hx] at h;simp[Prog.run,AObj.head] at h
  |arr g' sz e rows f=>rw[hx] at h;simp[Prog.run,AObj.head] at h
  |box g' cells f=>
   rw[hx] at h
   simp only[AObj.head] at h
   split at h
   ·rename_i hg
    subst hg
    simp only[Prog.run,Option.some.injEq,Prod.mk.injEq] at h
    obtain⟨rfl,rfl⟩:=h
    simp only[Rep] at hr⊢
    obtain⟨h1,h2,h3⟩:=hr
    obtain⟨b,c,hm,rfl⟩:=h3 cells f hx
    exact⟨trivial,b,off,rfl,h1,h2,fun cells fz hx=>⟨b,c,hm,rfl⟩⟩
   ·simp[Prog.run] at h
 |eptr x g i off=>
  simp only[shiftA,Prog.run] at h
  cases hx:hp x with
  |no g'=>rw[hx] at h;simp[Prog.run,AObj.head] at h
  |map _ _ _ _ _=>rw[hx] at h;simp[Prog.run,AObj.head] at h
  |box g' cells f=>rw[hx] at h;simp[Prog.run,AObj.head] at h
  |arr g' sz e rows f=>
   rw[hx] at h
   simp only[AObj.head] at h
   split at h
   ·rename_i hg
    subst hg
    simp only[Prog.run,Option.some.injEq,Prod.mk.injEq] at h
    obtain⟨rfl,rfl⟩:=h
    simp only[Rep] at hr⊢
    obtain⟨h1,h2,h3⟩:=hr
    obtain⟨b,c,hm,rfl⟩:=h3 sz e rows f hx
    refine⟨trivial,b,_,rfl,h1,h2,fun sz' e' rows' fz' hx'=>⟨b,c,hm,?_⟩⟩
    rw[hx] at hx';cases hx'
    rw[Nat.add_assoc]
   ·simp[Prog.run] at h
 |dp cells off=>
  simp only[shiftA,Prog.run,Option.some.injEq,Prod.mk.injEq] at h
  obtain⟨rfl,rfl⟩:=h
  refine⟨rfl,?_⟩
  simp only[Rep,RepD] at hr⊢
  obtain⟨b,o,us,rfl,hb,hc,hl⟩:=hr
  exact⟨b,_,rfl,b,o,us,by rw[Nat.add_assoc],hb,hc,hl⟩
 |any|sc|sl|own|agg|tup|vec|fn|bsl|mp|dmp=>simp[shiftA,Prog.run] at h
theorem info_of_cells {t:TypeId}(h:P.cellsOf t≠0): ∃i,P.info? t=some i∧P.cellsOf t=i.size:=by
 unfold Program.cellsOf at h
 cases hi:P.info? t with
 |none=>simp[hi] at h
 |some i=>exact⟨i,rfl,by simp[Program.cellsOf,hi]⟩
theorem field_ok {s:TypeId}{f:Nat}{a v:AV}{u:Value}(hr:Rep k I m hp w a u)(h:(fieldP P s a f).run hp=some (v,hp')):
  hp'=hp∧ ∃u',(Instr.fieldAt s u f).run P w= .ok u' w∧Rep k I m hp w v u':=by
 unfold fieldP at h
 split at h
 ·rename_i off sz ft hf
  split at h
  ·simp[Prog.run] at h
  ·rename_i hz
   obtain⟨e1,b,o,rfl,h2⟩:=shift_ok hr h
   refine⟨e1,_,?_,h2⟩
   unfold flds at hf
   split at hf
   ·rename_i fs hu
    rw[List.getElem?_map] at hf
    cases hfs:fs.toList[f]? with
    |none=>rw[hfs] at hf;cases hf
    |some fl=>
     rw[hfs] at hf
     simp only[Option.map_some,Option.some.injEq,Prod.mk.injEq] at hf
     obtain⟨rfl,rfl,rfl⟩:=hf
     obtain⟨i,hi,hs⟩:=info_of_cells hz
     have hfs':fs[f]?=some fl:=by simpa using hfs
     rw[hs] at hz
     simp[Instr.fieldAt,run_underlying hu,hfs',Instr.sureAddr,fieldPlace,sizeOf,typeInfo,hi,hz,add_plain]
   ·simp at hf
 ·simp[Prog.run] at h
theorem index_ok {t:TypeId}{a i v:AV}{u ui:Value}(hr:Rep k I m hp w a u)(hri:Rep k I m hp w i ui)(h:(indexP P t a i).run hp=some (v,hp')):
  hp'=hp∧ ∃u',(Instr.indexAt t u ui).run P w= .ok u' w∧Rep k I m hp w v u':=by
 cases i with
 |sc vi=>
  cases vi with
  |int kd n=>
   simp only[Rep] at hri
   subst hri
   simp only[indexP] at h
   split at h
   case isFalse=>simp[Prog.run] at h
   rename_i hn
   split at h
   · -- data
    rename_i f sz rows
    split at h
    ·rename_i e he
     have ht:=slel_ok he
     split at h
     case isFalse=>simp[Prog.run] at h
     rename_i hc
     obtain⟨rfl,hinfo⟩:=hc
     simp only[tOk,Bool.and_eq_true] at hinfo
     obtain⟨i,hi⟩:=Option.isSome_iff_exists.1 hinfo.1
     split at h
     ·rename_i r hrow
      simp only[Prog.run,Option.some.injEq,Prod.mk.injEq] at h
      obtain⟨rfl,rfl⟩:=h
      refine⟨rfl,?_⟩
      simp only[Rep,RepD] at hr
      obtain⟨A,cap,rfl,h1,h2,h3,h4⟩:=hr
      have hlt:n.toNat<rows.length:=(List.getElem?_eq_some_iff.1 hrow).1
      rcases h4 with rfl|⟨b,o,us,rfl,hb,hcc,hrr⟩
      ·simp at hlt
      ·obtain⟨hev,hal⟩:=(RepRows_iff _ _).1 hrr
       refine⟨.pointer (some ⟨b,o+n.toNat*P.cellsOf e,none⟩),?_,?_⟩
       ·have hlt':n<(rows.length:Int):=by omega
        simp[Instr.indexAt,run_underlying ht,asIntOf,sizeOf,typeInfo,hi,hn,hlt',add_plain,Program.cellsOf]
       ·simp only[Rep,RepD]
        refine⟨b,o+n.toNat*P.cellsOf e,(us.drop (n.toNat*P.cellsOf e)).take (P.cellsOf e),rfl,hb,fun j v hv=>?_,?_⟩
        ·rw[List.getElem?_take] at hv
         split at hv
         ·rw[List.getElem?_drop] at hv
          have:=hcc _ v hv
          rwa [←Nat.add_assoc] at this
         ·cases hv
        ·rw[RepDL_iff]
         have:=(hal.drop (n.toNat*P.cellsOf e)).take (P.cellsOf e)
         rwa [hev.row hrow] at this
     ·simp[Prog.run] at h
    ·simp[Prog.run] at h
   · -- what is owned
    rename_i x g len
    split at h
    ·rename_i e he
     have ht:=slel_ok he
     simp only[Prog.run] at h
     cases hx:hp x with
     |no g'=>rw[hx] at h;simp[Prog.run,AObj.head] at h
     |map _ _ _ _ _=>rw[hx] at h;simp[Prog.run,AObj.head] at h
     |box g' c f=>rw[hx] at h;simp[Prog.run,AObj.head] at h
     |arr g' sz e' rows f=>
      rw[hx] at h
      simp only[AObj.head] at h
      split at h
      case isFalse=>simp[Prog.run] at h
      rename_i hc
      obtain⟨rfl,rfl,hinfo,hlt⟩:=hc
      simp only[tOk,Bool.and_eq_true] at hinfo
      obtain⟨i,hi⟩:=Option.isSome_iff_exists.1 hinfo.1
      simp only[Prog.run,Option.some.injEq,Prod.mk.injEq] at h
      obtain⟨rfl,rfl⟩:=h
      refine⟨rfl,?_⟩
      simp only[Rep] at hr
      obtain⟨h1,h2,h3⟩:=hr
      obtain⟨h4,h5⟩:=h3 _ e' rows f hx
      rcases h5 with⟨_,_,h0⟩|⟨b,cap,hm,rfl⟩
      ·omega
      ·refine⟨.pointer (some ⟨b,n.toNat*P.cellsOf e,none⟩),?_,?_⟩
       ·have hlt':n<(len:Int):=by omega
        simp[Instr.indexAt,run_underlying ht,asIntOf,sizeOf,typeInfo,hi,hn,hlt',add_plain,Program.cellsOf]
       ·simp only[Rep]
        refine⟨h1,h2,fun sz e rows fz hx'=>⟨b,cap,hm,?_⟩⟩
        rw[hx] at hx';cases hx';rfl
    ·simp[Prog.run] at h
   · -- a box's part
    rename_i x g sz off len
    split at h
    ·rename_i e he
     have ht:=slel_ok he
     simp only[Prog.run] at h
     cases hx:hp x with
     |no g'=>rw[hx] at h;simp[Prog.run,AObj.head] at h
     |map _ _ _ _ _=>rw[hx] at h;simp[Prog.run,AObj.head] at h
     |arr g' sz e' rows f=>rw[hx] at h;simp[Prog.run,AObj.head] at h
     |box g' c f=>
      rw[hx] at h
      simp only[AObj.head] at h
      split at h
      case isFalse=>simp[Prog.run] at h
      rename_i hc
      obtain⟨rfl,rfl,hinfo,hlt⟩:=hc
      simp only[tOk,Bool.and_eq_true] at hinfo
      obtain⟨i,hi⟩:=Option.isSome_iff_exists.1 hinfo.1
      simp only[Prog.run,Option.some.injEq,Prod.mk.injEq] at h
      obtain⟨rfl,rfl⟩:=h
      refine⟨rfl,?_⟩
      simp only[Rep] at hr
      obtain⟨h1,h2,h3⟩:=hr
      obtain⟨b,c',cap,hm,h4,h5,rfl⟩:=h3 _ f hx
      refine⟨.pointer (some ⟨b,off+n.toNat*P.cellsOf e,none⟩),?_,?_⟩
      ·have hlt':n<(len:Int):=by omega
       simp[Instr.indexAt,run_underlying ht,asIntOf,sizeOf,typeInfo,hi,hn,hlt',add_plain,Program.cellsOf]
      ·simp only[Rep]
       exact⟨h1,h2,fun cells fz hx'=>⟨b,c',hm,rfl⟩⟩
    ·simp[Prog.run] at h
   ·split at h
    ·rename_i len e he
     split at h
     case isFalse=>simp[Prog.run] at h
     rename_i hc
     obtain⟨hlt,hinfo⟩:=hc
     simp only[tOk,Bool.and_eq_true] at hinfo
     obtain⟨i,hi⟩:=Option.isSome_iff_exists.1 hinfo.1
     obtain⟨e1,b,o,rfl,h2⟩:=shift_ok hr h
     refine⟨e1,_,?_,h2⟩
     have ht:P.underlying t=some (.array len e):=by
      unfold arrOf at he
      split at he
      ·rename_i n' e' he';cases he;exact he'
      ·cases he
     have hlt':n<(len:Int):=by omega
     simp[Instr.indexAt,run_underlying ht,asIntOf,Instr.sureAddr,sizeOf,typeInfo,hi,hn,hlt',add_plain,Program.cellsOf]
    ·simp[Prog.run] at h
  |_=>simp[indexP,Prog.run] at h
 |any|sl|dp|own|ptr|eptr|agg|tup|vec|fn|bsl|mp|dmp=>simp[indexP,Prog.run] at h
/-! ### parts of a value -/
theorem part_ok {t:TypeId}{cs:List AV}{us:List Value}{off:Nat}{v:AV}(hr:AllR (Rep k I m hp w) cs us)(h:(partA P t cs off).run hp=some (v,hp')):
  hp'=hp∧ ∃u',(part t ⟨us⟩ off).run P w= .ok u' w∧Rep k I m hp w v u':=by
 unfold partA at h
 split at h
 ·simp[Prog.run] at h
 rename_i htok
 simp only[Bool.not_eq_true,Bool.not_eq_false',tOk,Bool.and_eq_true] at htok
 obtain⟨hinfo,hu⟩:=htok
 obtain⟨i,hi⟩:=Option.isSome_iff_exists.1 hinfo
 obtain⟨d,hd⟩:=Option.isSome_iff_exists.1 hu
 split at h
 ·rename_i hagg
  split at h
  ·rename_i hle
   simp only[Prog.run,Option.some.injEq,Prod.mk.injEq] at h
   obtain⟨rfl,rfl⟩:=h
   refine⟨rfl,.agg ⟨(us.drop off).take (P.cellsOf t)⟩,?_,?_⟩
   ·have hrun:(isAgg t).run P w= .ok true w:=by
     unfold isAggB at hagg
     rw[hd] at hagg
     unfold isAgg
     rw[Sem.run_bind,run_underlying hd]
     cases d<;>simp at hagg<;>rfl
    have e:(#[].extract 0 0:Array Value)= #[]:=rfl
    simp only[part,Sem.run_bind,hrun,Result.andThen_ok,if_true,sizeOf,typeInfo,run_program,hi,Sem.run_pure]
    congr 2
    apply Array.ext'
    simp[Program.cellsOf,hi,List.take_drop]
   ·simp only[Rep]
    exact⟨_,rfl,(RepL_iff _ _).2 ((hr.drop off).take _)⟩
  ·simp[Prog.run] at h
 ·rename_i hagg
  split at h
  ·rename_i v' hv
   simp only[Prog.run,Option.some.injEq,Prod.mk.injEq] at h
   obtain⟨rfl,rfl⟩:=h
   obtain⟨u',hu',h1⟩:=hr.get hv
   refine⟨rfl,u',?_,h1⟩
   have hrun:(isAgg t).run P w= .ok false w:=by
    unfold isAggB at hagg
    rw[hd] at hagg
    unfold isAgg
    rw[Sem.run_bind,run_underlying hd]
    cases d<;>simp at hagg<;>rfl
   have hu2:(⟨us⟩:Array Value)[off]?=some u':=by simpa using hu'
   simp[part,Sem.run_bind,hrun,hu2]
  ·simp[Prog.run] at h
theorem fieldV_ok {t:TypeId}{x v:AV}{u:Value}{f:Nat}(hr:Rep k I m hp w x u)(h:(fieldVP P t x f).run hp=some (v,hp')):
  hp'=hp∧ ∃u',(Instr.field t u f).run P w= .ok u' w∧Rep k I m hp w v u':=by
 unfold fieldVP at h
 split at h
 ·rename_i off sz ft cs hf
  simp only[Rep] at hr
  obtain⟨us,rfl,hr⟩:=hr
  obtain⟨e1,u',h3,h4⟩:=part_ok ((RepL_iff _ _).1 hr) h
  refine⟨e1,u',?_,h4⟩
  unfold flds at hf
  split at hf
  ·rename_i fs hu
   rw[List.getElem?_map] at hf
   cases hfs:fs.toList[f]? with
   |none=>rw[hfs] at hf;cases hf
   |some fl=>
    rw[hfs] at hf
    simp only[Option.map_some,Option.some.injEq,Prod.mk.injEq] at hf
    obtain⟨rfl,rfl,rfl⟩:=hf
    have hfs':fs[f]?=some fl:=by simpa using hfs
    simp[Instr.field,run_underlying hu,hfs',asAgg,h3]
  ·simp at hf
 ·simp[Prog.run] at h
theorem indexV_ok {t:TypeId}{x i v:AV}{u ui:Value}(hr:Rep k I m hp w x u)(hri:Rep k I m hp w i ui)(h:(indexVP P t x i).run hp=some (v,hp')):
  hp'=hp∧ ∃u',(Instr.index t u ui).run P w= .ok u' w∧Rep k I m hp w v u':=by
 cases i with
 |sc vi=>
  cases vi with
  |int kd n=>
   simp only[Rep] at hri
   subst hri
   simp only[indexVP] at h
   split at h
   case isFalse=>simp[Prog.run] at h
   rename_i hn
   split at h
   ·rename_i cs
    split at h
    ·rename_i len e he
     split at h
     case isFalse=>simp[Prog.run] at h
     rename_i hc
     obtain⟨hlt,hinfo⟩:=hc
     simp only[tOk,Bool.and_eq_true] at hinfo
     obtain⟨i,hi⟩:=Option.isSome_iff_exists.1 hinfo.1
     simp only[Rep] at hr
     obtain⟨us,rfl,hr⟩:=hr
     obtain⟨e1,u',h3,h4⟩:=part_ok ((RepL_iff _ _).1 hr) h
     have ht:P.underlying t=some (.array len e):=by
      unfold arrOf at he
      split at he
      ·rename_i n' e' he';cases he;exact he'
      ·cases he
     have hlt':n<(len:Int):=by omega
     refine⟨e1,u',?_,h4⟩
     simp[Instr.index,run_underlying ht,asIntOf,sizeOf,typeInfo,hi,hn,hlt']
     simpa[Program.cellsOf,hi] using h3
    ·simp[Prog.run] at h
   ·rename_i s
    split at h
    ·rename_i hs
     split at h
     ·rename_i b hb
      simp only[Prog.run,Option.some.injEq,Prod.mk.injEq] at h
      obtain⟨rfl,rfl⟩:=h
      simp only[Rep] at hr
      subst hr
      refine⟨rfl,.int .u8 b.toNat,?_,by simp only[Rep]⟩
      have ht:P.underlying t=some .string:=by
       unfold strB at hs
       split at hs
       ·rename_i he';exact he'
       ·cases hs
      have hb':s[n.toNat]?=some b:=by
       have hlt:n.toNat<s.data.size:=(Array.getElem?_eq_some_iff.1 hb).1
       have:n.toNat<s.size:=hlt
       rw[getElem?_pos s n.toNat this]
       rw[getElem?_pos s.data n.toNat hlt] at hb
       exact hb
      simp[Instr.index,run_underlying ht,asIntOf,hn,hb']
     ·simp[Prog.run] at h
    ·simp[Prog.run] at h
   ·simp[Prog.run] at h
  |_=>simp[indexVP,Prog.run] at h
 |any|sl|dp|own|ptr|eptr|agg|tup|vec|fn|bsl|mp|dmp=>simp[indexVP,Prog.run] at h
theorem strB_ok {t:TypeId}(h:strB P t=true):P.underlying t=some .string:=by
 unfold strB at h
 split at h
 ·rename_i he';exact he'
 ·cases h
theorem slel_some {t:TypeId}(h:(slel P t).isSome): ∃e,P.underlying t=some (.slice e):=by
 obtain⟨e,he⟩:=Option.isSome_iff_exists.1 h
 exact⟨e,slel_ok he⟩
theorem len_run (w:World){t e ty:TypeId}(ht:P.underlying t=some (.slice e))(A:Option Addr)(n c:Nat):(Builtin.len_ #[t] ty #[.slice A n c]).run P w= .ok (.int .i64 n) w:=by
 simp[Builtin.len_,run_underlying ht,goInt]
theorem len_ok {t ty:TypeId}{x v:AV}{u:Value}(hr:Rep k I m hp w x u)(h:(lenP P t x).run hp=some (v,hp')):
  hp'=hp∧ ∃u',(Builtin.len_ #[t] ty #[u]).run P w= .ok u' w∧Rep k I m hp w v u':=by
 cases x with
 |sc vi=>
  simp only[Rep] at hr
  subst hr
  unfold lenP at h
  split at h
  all_goals first|(simp[Prog.run] at h;done)|(rename_i heq;simp at heq;done)|skip
  ·rename_i s heq
   simp only[AV.sc.injEq] at heq
   subst heq
   split at h
   ·rename_i hs
    simp only[Prog.run,Option.some.injEq,Prod.mk.injEq] at h
    obtain⟨rfl,rfl⟩:=h
    exact⟨rfl,.int .i64 s.size,by simp[Builtin.len_,run_underlying (strB_ok hs),goInt],by simp only[Rep]⟩
   ·simp[Prog.run] at h
  ·rename_i heq
   simp only[AV.sc.injEq] at heq
   subst heq
   split at h
   ·rename_i hs
    obtain⟨e,he⟩:=slel_some hs
    simp only[Prog.run,Option.some.injEq,Prod.mk.injEq] at h
    obtain⟨rfl,rfl⟩:=h
    exact⟨rfl,.int .i64 0,len_run w he none 0 0,by simp only[Rep]⟩
   ·simp[Prog.run] at h
 |sl f sz rows=>
  simp only[lenP] at h
  split at h
  ·rename_i hs
   obtain⟨e,he⟩:=slel_some hs
   simp only[Prog.run,Option.some.injEq,Prod.mk.injEq] at h
   obtain⟨rfl,rfl⟩:=h
   simp only[Rep,RepD] at hr
   obtain⟨A,cap,rfl,_⟩:=hr
   exact⟨rfl,_,len_run w he A _ cap,by simp only[Rep]⟩
  ·simp[Prog.run] at h
 |own x g n=>
  simp only[lenP] at h
  split at h
  case isFalse=>simp[Prog.run] at h
  rename_i hs
  obtain⟨e,he⟩:=slel_some hs
  simp only[Prog.run] at h
  cases hx:hp x with
  |no g'=>rw[hx] at h;simp[Prog.run,AObj.head] at h
  |map _ _ _ _ _=>rw[hx] at h;simp[Prog.run,AObj.head] at h
  |box g' cells f=>rw[hx] at h;simp[Prog.run,AObj.head] at h
  |arr g' sz e rows f=>
   rw[hx] at h
   simp only[AObj.head] at h
   split at h
   ·rename_i hg
    subst hg
    simp only[Prog.run,Option.some.injEq,Prod.mk.injEq] at h
    obtain⟨rfl,rfl⟩:=h
    simp only[Rep] at hr
    obtain⟨_,_,hr⟩:=hr
    obtain⟨_,hr⟩:=hr sz e rows f hx
    rcases hr with⟨_,rfl,rfl⟩|⟨b,cap,_,rfl⟩
    ·exact⟨rfl,_,len_run w he none 0 0,by simp only[Rep]⟩
    ·exact⟨rfl,_,len_run w he _ n cap,by simp only[Rep]⟩
   ·simp[Prog.run] at h
 |bsl x g sz off n=>
  simp only[lenP] at h
  split at h
  case isFalse=>simp[Prog.run] at h
  rename_i hs
  obtain⟨e,he⟩:=slel_some hs
  simp only[Prog.run] at h
  cases hx:hp x with
  |no g'=>rw[hx] at h;simp[Prog.run,AObj.head] at h
  |map _ _ _ _ _=>rw[hx] at h;simp[Prog.run,AObj.head] at h
  |arr g' sz e rows f=>rw[hx] at h;simp[Prog.run,AObj.head] at h
  |box g' cells f=>
   rw[hx] at h
   simp only[AObj.head] at h
   split at h
   ·rename_i hg
    subst hg
    simp only[Prog.run,Option.some.injEq,Prod.mk.injEq] at h
    obtain⟨rfl,rfl⟩:=h
    simp only[Rep] at hr
    obtain⟨_,_,hr⟩:=hr
    obtain⟨b,c',cap,hm,h4,h5,rfl⟩:=hr cells f hx
    exact⟨rfl,_,len_run w he _ n cap,by simp only[Rep]⟩
   ·simp[Prog.run] at h
 |any|ptr|eptr|dp|agg|tup|vec|fn|mp|dmp=>simp[lenP,Prog.run] at h
/-! ### scalars -/
theorem evInt_ok {op:BinOp}{kd:IntKind}{a b:Int}{v:Value}(h:evInt op kd a b=some v)(t:TypeId)(hs:op≠ .shl∧op≠ .shr):
  (binOp op t (.int kd a) (.int kd b)).run P w= .ok v w:=by
 cases op<;>simp only[evInt,Option.some.injEq,reduceCtorEq] at h<;>first
  |(exact absurd rfl hs.1)
  |(exact absurd rfl hs.2)
  |(subst h;simp[binOp,Op.intArith,Op.intBits,Op.intCmp];done)
  |(split at h
    ·cases h
    ·rename_i hb
     simp only[Option.some.injEq] at h
     subst h
     simp[binOp,Op.intDiv,hb])
theorem evStr_ok {op:BinOp}{a b:ByteArray}{v:Value}(h:evStr op a b=some v)(t:TypeId):(binOp op t (.string a) (.string b)).run P w= .ok v w:=by
 have e: ∀x y:ByteArray,(x.toList==y.toList)=decide (x=y):=fun x y=>by
  rw[ByteArray.toList_eq,ByteArray.toList_eq]
  by_cases hxy:x=y
  ·subst hxy;simp
  ·have hd:x.data≠y.data:=fun h=>hxy (ByteArray.ext h)
   simp[hd,hxy]
 cases op<;>simp only[evStr,Option.some.injEq,reduceCtorEq] at h
 case add=>
  split at h
  ·rename_i hc
   simp only[Option.some.injEq] at h
   subst h
   have hc': ¬(9223372036854775807<((a.size:Int)+(b.size:Int))):=by omega
   simp[binOp,Op.stringOp,IntKind.max,IntKind.signed,IntKind.bits,hc']
  ·cases h
 case eql=>subst h;simp[binOp,Op.stringOp,e]
 case neq=>subst h;simp[binOp,Op.stringOp,e]
 case lss=>subst h;simp[binOp,Op.stringOp]
end
end
section
open Go
section
variable {P:Program}{I K:Nat→Prop}{m:Mp}{hp hp':Hp}{w:World}{k:Nat}
/-! ### cut -/
def oRep (k:Nat)(I:Nat→Prop)(m:Mp)(hp:Hp)(w:World):Option AV→Option Value→Prop
 |none,none=>True
 |some a,some u=>Rep k I m hp w a u
 |_,_=>False
theorem bound_some {d n:Nat}{a:Option AV}{u:Option Value}(h:bound d a=some n)(hr:oRep k I m hp w a u):
  (a=none∧u=none∧n=d)∨ ∃kd x,u=some (.int kd x)∧0≤x∧n=x.toNat:=by
 cases a with
 |none=>cases u with
  |none=>simp[bound] at h;exact .inl ⟨rfl,rfl,h.symm⟩
  |some u=>simp[oRep] at hr
 |some a=>
  cases u with
  |none=>simp[oRep] at hr
  |some u=>
   unfold bound at h
   split at h
   ·rename_i heq;cases heq
   ·rename_i kd x heq
    cases heq
    split at h
    ·rename_i hx
     cases h
     simp only[oRep,Rep] at hr
     subst hr
     exact .inr ⟨kd,x,rfl,hx,rfl⟩
    ·cases h
   ·cases h
theorem run_bound (w:World){kd:IntKind}{x:Int}{y:Nat}{c:BoundsCode}(h0:0≤x)(hy:x.toNat≤y):(Instr.sliceBound (.int kd x) y c).run P w= .ok x.toNat w:=by
 have:x≤(y:Int):=by omega
 simp[Instr.sliceBound,asIntOf,h0,this]
theorem run_bounds2 (w:World)(isSlice:Bool){len cap l h:Nat}{lo hi:Option AV}{ul uh:Option Value}(rl:oRep k I m hp w lo ul)(rh:oRep k I m hp w hi uh)(hl:bound 0 lo=some l)(hh:bound len hi=some h)
  (h1:l≤h) (h2:h≤len) (h3:len≤cap):(Instr.sliceBounds isSlice len cap ul uh none).run P w= .ok (l,h,cap) w:=by
 rcases bound_some hl rl with⟨_,rfl,rfl⟩|⟨kd,x,rfl,hx,rfl⟩<;>rcases bound_some hh rh with⟨_,rfl,rfl⟩|⟨kd',y,rfl,hy,rfl⟩
 ·simp[Instr.sliceBounds]
 ·simp[Instr.sliceBounds,run_bound w hy (show y.toNat≤cap by omega)]
 ·simp[Instr.sliceBounds,run_bound w hx (show x.toNat≤h by omega)]
 ·simp[Instr.sliceBounds,run_bound w hy (show y.toNat≤cap by omega),run_bound w hx h1]
theorem run_bounds3 (w:World){len cap l h q:Nat}{lo hi mx:Option AV}{ul uh um:Option Value}(rl:oRep k I m hp w lo ul)(rh:oRep k I m hp w hi uh)(rm:oRep k I m hp w mx um)(hl:bound 0 lo=some l)(hh:bound len hi=some h)(hm:bound 0 mx=some q)
  (h1:l≤h) (h2:h≤q) (h3:q≤cap) (hs:hi.isSome) (ms:mx.isSome):(Instr.sliceBounds true len cap ul uh um).run P w= .ok (l,h,q) w:=by
 rcases bound_some hm rm with⟨rfl,_,_⟩|⟨kz,z,rfl,hz,rfl⟩
 ·simp at ms
 rcases bound_some hh rh with⟨rfl,_,_⟩|⟨kd',y,rfl,hy,rfl⟩
 ·simp at hs
 rcases bound_some hl rl with⟨_,rfl,rfl⟩|⟨kd,x,rfl,hx,rfl⟩
 ·simp[Instr.sliceBounds,run_bound w hz h3,run_bound w hy h2]
 ·simp[Instr.sliceBounds,run_bound w hz h3,run_bound w hy h2,run_bound w hx h1]
theorem RepD.cut {J:Nat→Prop}{f f':Bool}{sz l h cap c':Nat}{rows:List (List AV)}{A:Option Addr}(hr:RepD J w (.sl f sz rows) (.slice A rows.length cap))(h1:l≤h)(h2:h≤rows.length)(hc:h≤c')(hcc:c'≤cap)(hf:f'=true→c'=h):
  RepD J w (.sl f' sz ((rows.take h).drop l)) (.slice (if c'=l then A else A.map (·.add (l*sz))) (h - l) (c' - l)):=by
 simp only[RepD] at hr⊢
 obtain⟨A',cap',he,h3,h4,h5,h6⟩:=hr
 simp only[Value.slice.injEq] at he
 obtain⟨rfl,_,rfl⟩:=he
 have hlen:((rows.take h).drop l).length=h - l:=by rw[List.length_drop,List.length_take];omega
 refine⟨_,_,by rw[hlen],by rw[hlen];omega,by omega,fun hft=>by rw[hlen,hf hft],?_⟩
 by_cases hlh:h=l
 ·left
  apply List.eq_nil_of_length_eq_zero
  rw[hlen];omega
 ·rcases h6 with rfl|⟨b,o,us,rfl,hb,hcc',hrr⟩
  ·simp at h2;omega
  ·right
   obtain⟨hev,hal⟩:=(RepRows_iff _ _).1 hrr
   refine⟨b,o+l*sz,(us.take (h*sz)).drop (l*sz),?_,hb,fun j v hv=>?_,?_⟩
   ·rw[if_neg (by omega)]
    simp[add_plain]
   ·rw[List.getElem?_drop,List.getElem?_take] at hv
    split at hv
    ·have:=hcc' _ v hv
     rwa [←Nat.add_assoc] at this
    ·cases hv
   ·rw[RepRows_iff]
    refine⟨(hev.take h).drop l,?_⟩
    rw[(hev.take h).flatten_drop,hev.flatten_take]
    exact(hal.take _).drop _
theorem slice_run (w:World){t e:TypeId}(ht:P.underlying t=some (.slice e)){i:TypeInfo}(hi:P.info? e=some i){A:Option Addr}{len cap l h q:Nat}{ul uh um:Option Value}(hb:(Instr.sliceBounds true len cap ul uh um).run P w= .ok (l,h,q) w):
  (Instr.sliceAt t (.slice A len cap) ul uh um).run P w= .ok (.slice (if q=l then A else A.map (·.add (l*i.size))) (h - l) (q - l)) w:=by
 simp[Instr.sliceAt,Instr.slice,run_underlying ht,hb,sizeOf,typeInfo,hi]
theorem tOk_ok {t:TypeId}(h:tOk P t=true):(∃i,P.info? t=some i∧P.cellsOf t=i.size)∧(P.underlying t).isSome:=by
 simp only[tOk,Bool.and_eq_true] at h
 obtain⟨i,hi⟩:=Option.isSome_iff_exists.1 h.1
 exact⟨⟨i,hi,by simp[Program.cellsOf,hi]⟩,h.2⟩
theorem arrOf_ok {t e:TypeId}{n:Nat}(h:arrOf P t=some (n,e)):P.underlying t=some (.array n e):=by
 unfold arrOf at h
 split at h
 ·rename_i n' e' he';cases h;exact he'
 ·cases h
theorem oRep_none {u:Option Value}(h:oRep k I m hp w none u):u=none:=by cases u<;>simp_all[oRep]
theorem slice_ok (G:Gam I K m hp w){t:TypeId}{x v:AV}{lo hi mx:Option AV}{u:Value}{ul uh um:Option Value}(hr:Rep k I m hp w x u)(rl:oRep k I m hp w lo ul)(rh:oRep k I m hp w hi uh)(rm:oRep k I m hp w mx um)
  (h:(sliceP P t x lo hi mx).run hp=some (v,hp')):
  ∃I' u',(Instr.sliceAt t u ul uh um).run P w= .ok u' w∧Gam I' K m hp' w∧Ext I K m hp w I' m hp' w∧Rep k I' m hp' w v u':=by
 cases x with
 |sc vi=>
  simp only[Rep] at hr
  subst hr
  unfold sliceP at h
  split at h
  all_goals first|(simp[Prog.run] at h;done)|(rename_i heq;simp at heq;done)|skip
  rename_i s heq
  simp only[AV.sc.injEq] at heq
  subst heq
  split at h
  ·rename_i l hh _ _ _
   split at h
   ·rename_i hc
    simp only[Prog.run,Option.some.injEq,Prod.mk.injEq] at h
    obtain⟨rfl,rfl⟩:=h
    have hum:=oRep_none rm
    subst hum
    have hb:=run_bounds2 (P:=P) w false rl rh ‹bound 0 lo=_› ‹bound s.size hi=_› hc.1 hc.2 (Nat.le_refl _)
    refine⟨I,.string (s.extract l hh),?_,G,.refl _ _ _ _ _,by simp only[Rep]⟩
    simp[Instr.sliceAt,Instr.slice,run_underlying (strB_ok ‹strB P t=true›),hb]
   ·simp[Prog.run] at h
  ·simp[Prog.run] at h
 |sl f sz rows=>
  simp only[sliceP] at h
  have hr0:=hr
  simp only[Rep,RepD] at hr0
  obtain⟨A,cap,rfl,h1,h2,h3,h4⟩:=hr0
  simp only[Rep] at hr
  split at h
  ·rename_i e l hh _ _ _
   split at h
   case isFalse=>simp[Prog.run] at h
   rename_i hc
   obtain⟨c1,c2,rfl,c4⟩:=hc
   simp only[Prog.run,Option.some.injEq,Prod.mk.injEq] at h
   obtain⟨rfl,rfl⟩:=h
   have hum:=oRep_none rm
   subst hum
   obtain⟨⟨i,hi,hsz⟩,_⟩:=tOk_ok c4
   have hb:=run_bounds2 (P:=P) w true rl rh ‹bound 0 lo=_› ‹bound rows.length _=_› c1 c2 h1
   refine⟨I,_,slice_run w (slel_ok ‹slel P t=_›) hi hb,G,.refl _ _ _ _ _,?_⟩
   simp only[Rep]
   rw[←hsz]
   exact hr.cut c1 c2 (by omega) (Nat.le_refl _) (by simp)
  ·rename_i e l hh mm _ _ _
   split at h
   ·rename_i q _
    split at h
    case isFalse=>simp[Prog.run] at h
    rename_i hc
    obtain⟨c1,rfl,c2,rfl,c3,c4⟩:=hc
    simp only[Prog.run,Option.some.injEq,Prod.mk.injEq] at h
    obtain⟨rfl,rfl⟩:=h
    obtain⟨⟨i,hi,hsz⟩,_⟩:=tOk_ok c4
    have hb:=run_bounds3 (P:=P) (len:=rows.length) (cap:=cap) w rl rh rm ‹bound 0 lo=_› ‹bound rows.length _=_› ‹bound 0 (some mm)=_› c1 (Nat.le_refl _) (by omega) c3 rfl
    refine⟨I,_,slice_run w (slel_ok ‹slel P t=_›) hi hb,G,.refl _ _ _ _ _,?_⟩
    simp only[Rep]
    rw[←hsz]
    exact hr.cut c1 c2 (Nat.le_refl _) (by omega) (fun _=>rfl)
   ·simp[Prog.run] at h
  ·simp[Prog.run] at h
 |own x g n=>
  simp only[sliceP,Prog.run] at h
  cases hx:hp x with
  |no g'=>rw[hx] at h;simp[Prog.run] at h
  |map _ _ _ _ _=>rw[hx] at h;simp[Prog.run] at h
  |box g' c f=>rw[hx] at h;simp[Prog.run] at h
  |arr g' sz e' rows f=>
   rw[hx] at h
   simp only at h
   split at h
   ·rename_i e l hh _ _ _
    split at h
    case isFalse=>simp[Prog.run] at h
    rename_i hc
    obtain⟨rfl,c1,c2,rfl,c4⟩:=hc
    have hum:=oRep_none rm
    subst hum
    obtain⟨⟨i,hi,hsz⟩,_⟩:=tOk_ok c4
    obtain⟨hn,_,hd⟩:=G.ownRows hx hr
    have hr0:=hr
    simp only[Rep] at hr0
    obtain⟨r1,r2,r3⟩:=hr0
    obtain⟨r4,r5⟩:=r3 _ e' rows f hx
    split at h
    ·rename_i hl0
     subst hl0
     simp only[Prog.run,Option.some.injEq,Prod.mk.injEq] at h
     obtain⟨rfl,rfl⟩:=h
     rcases r5 with⟨m0,rfl,rfl⟩|⟨b,cap,hm,rfl⟩
     ·have hb:=run_bounds2 (P:=P) w true (cap:=0) rl rh ‹bound 0 lo=_› ‹bound 0 _=_› c1 c2 (Nat.le_refl _)
      refine⟨I,_,slice_run w (slel_ok ‹slel P t=_›) hi hb,G,.refl _ _ _ _ _,?_⟩
      simp only[Rep]
      refine⟨r1,r2,fun sz e rows' fz hx'=>⟨by omega,.inl ⟨m0,?_,by omega⟩⟩⟩
      have:hh=0:=by omega
      subst this;simp
     ·have hcap:n≤cap:=by
       have ho:=G.obj x
       rw[hx] at ho
       rcases ho with⟨h1,_⟩|⟨b',cap',us,mk,h1,h2,h3,h4,h5,h6,h7,h8,h9⟩
       ·rw[h1] at hm;cases hm
       ·rw[h1] at hm;cases hm;omega
      have hb:=run_bounds2 (P:=P) w true (cap:=cap) rl rh ‹bound 0 lo=_› ‹bound n _=_› c1 c2 hcap
      refine⟨I,_,slice_run w (slel_ok ‹slel P t=_›) hi hb,G,.refl _ _ _ _ _,?_⟩
      simp only[Rep]
      refine⟨r1,r2,fun sz e rows' fz hx'=>?_⟩
      rw[hx] at hx';cases hx'
      refine⟨by omega,.inr ⟨b,cap,hm,?_⟩⟩
      simp[add_plain]
    ·simp only[Prog.run,Option.some.injEq,Prod.mk.injEq] at h
     obtain⟨rfl,rfl⟩:=h
     obtain⟨I',G',E',hb'⟩:=G.freeze hx
     have hdat:=hd I' E'.isub hb'
     have hlen:(rows.take n).length=n:=by rw[List.length_take];omega
     have hu: ∃A cap,u= .slice A (rows.take n).length cap∧n≤cap:=by
      have:=hdat
      simp only[RepD] at this
      obtain⟨A,cap,e1,e2,_⟩:=this
      exact⟨A,cap,e1,by omega⟩
     obtain⟨A,cap,rfl,hcap⟩:=hu
     rw[hlen] at hdat⊢
     have hb:=run_bounds2 (P:=P) w true (cap:=cap) rl rh ‹bound 0 lo=_› ‹bound n _=_› c1 c2 hcap
     refine⟨I',_,slice_run w (slel_ok ‹slel P t=_›) hi hb,G',E',?_⟩
     simp only[Rep]
     rw[←hsz]
     have hcut:=RepD.cut (rows:=rows.take n) (f':=false) (c':=cap) (l:=l) (h:=hh) (cap:=cap) (A:=A) (by rw[hlen];exact hdat) c1 (by rw[hlen];exact c2) (by omega) (Nat.le_refl _) (by simp)
     rwa [List.take_take,Nat.min_eq_left c2] at hcut
   ·rename_i e l hh mm _ _ _
    split at h
    ·rename_i q _
     split at h
     case isFalse=>simp[Prog.run] at h
     rename_i hc
     obtain⟨rfl,c1,rfl,c2,rfl,c3,c4⟩:=hc
     simp only[Prog.run,Option.some.injEq,Prod.mk.injEq] at h
     obtain⟨rfl,rfl⟩:=h
     obtain⟨⟨i,hi,hsz⟩,_⟩:=tOk_ok c4
     obtain⟨hn,_,hd⟩:=G.ownRows hx hr
     obtain⟨I',G',E',hb'⟩:=G.freeze hx
     have hdat:=hd I' E'.isub hb'
     have hlen:(rows.take n).length=n:=by rw[List.length_take];omega
     have hu: ∃A cap,u= .slice A (rows.take n).length cap∧n≤cap:=by
      have:=hdat
      simp only[RepD] at this
      obtain⟨A,cap,e1,e2,_⟩:=this
      exact⟨A,cap,e1,by omega⟩
     obtain⟨A,cap,rfl,hcap⟩:=hu
     rw[hlen] at hdat⊢
     have hb:=run_bounds3 (P:=P) (len:=n) (cap:=cap) w rl rh rm ‹bound 0 lo=_› ‹bound n _=_› ‹bound 0 (some mm)=_› c1 (Nat.le_refl _) (by omega) c3 rfl
     refine⟨I',_,slice_run w (slel_ok ‹slel P t=_›) hi hb,G',E',?_⟩
     simp only[Rep]
     rw[←hsz]
     have hcut:=RepD.cut (rows:=rows.take n) (f':=true) (c':=hh) (l:=l) (h:=hh) (cap:=cap) (A:=A) (by rw[hlen];exact hdat) c1 (by rw[hlen];exact c2) (Nat.le_refl _) (by omega) (fun _=>rfl)
     rwa [List.take_take,Nat.min_eq_left c2] at hcut
    ·simp[Prog.run] at h
   ·split at h<;>simp[Prog.run] at h
 |ptr x g off=>
  simp only[sliceP] at h
  split at h
  case h_2=>simp[Prog.run] at h
  rename_i n e l _ _
  split at h
  case h_2=>simp[Prog.run] at h
  rename_i hh _
  simp only[Prog.run] at h
  cases hx:hp x with
  |no g'=>rw[hx] at h;simp[Prog.run,AObj.head] at h
  |map _ _ _ _ _=>rw[hx] at h;simp[Prog.run,AObj.head] at h
  |arr g' sz e' rows f=>rw[hx] at h;simp[Prog.run,AObj.head] at h
  |box g' cells f=>
   rw[hx] at h
   simp only[AObj.head] at h
   split at h
   case isFalse=>simp[Prog.run] at h
   rename_i hc
   obtain⟨rfl,hmax,hl,c1,c2,hok⟩:=hc
   simp only[Prog.run,Option.some.injEq,Prod.mk.injEq] at h
   obtain⟨rfl,rfl⟩:=h
   have h3:=oRep_none rm
   subst h3
   obtain⟨⟨i,hi,hsz⟩,_⟩:=tOk_ok hok
   simp only[Rep] at hr
   obtain⟨hd,hg,hr⟩:=hr
   obtain⟨b',c',hm,rfl⟩:=hr cells f hx
   have hb:=run_bounds2 (P:=P) w false rl rh ‹bound 0 lo=_› ‹bound n _=_› c1 c2 (Nat.le_refl _)
   refine⟨I,.slice (some (if n=l then⟨b',off,none⟩ else(⟨b',off,none⟩:Addr).add (l*i.size))) (hh - l) (n - l),?_,G,.refl _ _ _ _ _,?_⟩
   ·simp[Instr.sliceAt,run_underlying (arrOf_ok ‹arrOf P t=_›),Instr.sureAddr,hb,sizeOf,typeInfo,hi]
   ·simp only[Rep]
    have hroom:off+n*P.cellsOf e≤c':=by
     have ho:=G.obj x
     rw[hx] at ho
     obtain⟨b2,c2',us2,T2,mk2,o1,_,o3,o4,_,_⟩:=ho
     rw[o1] at hm
     cases hm
     have q:=((RepL_iff _ _).1 o4).1
     have q2:=o3.2
     have q3:cells.length≤us2.size:=Nat.le_trans (Nat.le_of_eq q) (by rw[List.length_take,Array.length_toList];exact Nat.min_le_right ..)
     rw[←q2]
     omega
    have hroom2:(if n=l then off else off+l*P.cellsOf e)+(n - l)*P.cellsOf e≤c':=by
     have hln:l≤n:=by omega
     obtain⟨d,rfl⟩:=Nat.exists_eq_add_of_le hln
     rw[Nat.add_mul] at hroom
     rw[Nat.add_sub_cancel_left]
     split
     ·have:d=0:=by omega
      subst this
      omega
     ·omega
    refine⟨hd,hg,fun cells' fz' hx'=>⟨b',c',n - l,hm,by omega,⟨by omega,hroom2⟩,?_⟩⟩
    rw[hsz]
    by_cases hnl:n=l
    ·simp[hnl]
    ·simp[hnl,add_plain]
 |dp cells off=>
  simp only[sliceP] at h
  split at h
  ·rename_i n e _
   split at h
   case isFalse=>simp[Prog.run] at h
   rename_i hc
   obtain⟨hl,hok,hmax⟩:=hc
   simp only[Prog.run,Option.some.injEq,Prod.mk.injEq] at h
   obtain⟨rfl,rfl⟩:=h
   have h1:=oRep_none rl
   have h2:=oRep_none rh
   have h3:=oRep_none rm
   subst h1 h2 h3
   obtain⟨⟨i,hi,hsz⟩,_⟩:=tOk_ok hok
   simp only[Rep,RepD] at hr
   obtain⟨b,o,us,rfl,hb,hcc,hl'⟩:=hr
   obtain⟨q1,q2,q3⟩:=chunks_flat (P.cellsOf e) n (cells.drop off) hl
   refine⟨I,.slice (some (if n=0 then⟨b,o+off,none⟩ else(⟨b,o+off,none⟩:Addr).add (0*i.size))) n n,?_,G,.refl _ _ _ _ _,?_⟩
   ·simp[Instr.sliceAt,run_underlying (arrOf_ok ‹arrOf P t=_›),Instr.sureAddr,Instr.sliceBounds,sizeOf,typeInfo,hi]
   ·simp only[Rep,RepD]
    refine⟨_,n,by rw[q3],by rw[q3];exact Nat.le_refl _,hmax,fun _=>q3.symm,.inr ⟨b,o+off,(us.drop off).take (n*P.cellsOf e),?_,hb,fun j v hv=>?_,?_⟩⟩
    ·simp[Addr.add]
    ·rw[List.getElem?_take] at hv
     split at hv
     ·rw[List.getElem?_drop] at hv
      have:=hcc _ v hv
      rwa [←Nat.add_assoc] at this
     ·cases hv
    ·rw[RepRows_iff,q1]
     exact⟨q2,(((RepDL_iff _ _).1 hl').drop off).take _⟩
  ·simp[Prog.run] at h
 |any|eptr|agg|tup|vec|fn|bsl|mp|dmp=>simp[sliceP,Prog.run] at h
end
end
section
open Go
section
variable {P:Program}{I K:Nat→Prop}{m:Mp}{hp hp':Hp}{w:World}{k:Nat}
theorem zdat_ok {ct:TypeId}{v:Value}(h:v.oneCell'=true):RepD I w (zdat P ct v) v:=by
 unfold zdat
 split
 ·simp only[RepD]
  exact⟨none,0,rfl,Nat.le_refl _,by simp[maxLen],by simp,.inl trivial⟩
 ·simp only[RepD]
  exact⟨trivial,h⟩
theorem zrow_ok {t:TypeId}{z:List AV}(h:zrow P t=some z)(hl:z.length=P.cellsOf t)(hz:zok P t=true): ∃i v,P.info? t=some i∧i.zero=some v∧v.cells.size=i.size∧0<i.size∧P.cellsOf t=i.size∧P.bytesOf t=i.bytes∧AllR (RepD I w) z v.cells.toList:=by
 obtain⟨i,v,h1,h2,h3,h4,h5,h6⟩:=zok_ok hz
 refine⟨i,v,h1,h2,h3,h4,h5,h6,?_⟩
 unfold zrow at h
 have hzs:zeros P t=some v.cells.toList:=by simp[zeros,h1,h2]
 rw[hzs] at h
 simp only at h
 split at h
 ·rename_i hall
  simp only[Option.some.injEq] at h
  subst h
  have hlen:(List.zipWith (zdat P) (tcs P t) v.cells.toList).length=v.cells.toList.length:=by rw[hl,h5,Array.length_toList,h3]
  refine⟨hlen,fun j a u ha hu=>?_⟩
  have hone:u.oneCell'=true:=List.all_eq_true.1 hall u (List.mem_of_getElem? hu)
  rw[List.getElem?_zipWith] at ha
  cases hc:(tcs P t)[j]? with
  |none=>rw[hc] at ha;cases ha
  |some c=>
   rw[hc,hu] at ha
   cases ha
   exact zdat_ok hone
 ·cases h
theorem rep_flat {α:Type}(r:List α): ∀(n j:Nat),(List.replicate n r).flatten[j]?=if j<n*r.length then r[j%r.length]? else none
 |0,j=>by simp
 |n+1,j=>by
  rw[List.replicate_succ,List.flatten_cons,List.getElem?_append]
  split
  ·rename_i hj
   have:j<(n+1)*r.length:=by rw[Nat.add_mul];omega
   rw[if_pos this,Nat.mod_eq_of_lt hj]
  ·rename_i hj
   rw[rep_flat r n (j - r.length)]
   by_cases hc:j - r.length<n*r.length
   ·rw[if_pos hc,if_pos (by rw[Nat.add_mul];omega)]
    congr 1
    exact(Nat.mod_eq_sub_mod (by omega)).symm
   ·rw[if_neg hc,if_neg (by rw[Nat.add_mul];omega)]
theorem made_rows {z:List AV}{zc:Array Value}(h:AllR (RepD I w) z zc.toList)(hpos:0<zc.size)(l n:Nat)(hn:l*zc.size≤n):
  RepRows I w zc.size (List.replicate l z) ((madeCells zc n).toList.take ((List.replicate l z).length*zc.size)):=by
 rw[RepRows_iff]
 have hzl:z.length=zc.size:=by rw[h.1,Array.length_toList]
 refine⟨fun r hr=>by rw[(List.mem_replicate.1 hr).2];exact hzl,?_,fun j a u ha hu=>?_⟩
 ·have e1:(List.replicate l z).flatten.length=l*zc.size:=by simp[hzl]
  have e2:(madeCells zc n).toList.length=n:=by simp[size_madeCells]
  rw[e1,List.length_take,e2,List.length_replicate]
  omega
 ·rw[rep_flat] at ha
  rw[hzl] at ha
  split at ha
  ·rename_i hj
   rw[List.getElem?_take] at hu
   split at hu
   ·have hjn:j<n:=by omega
    simp only[madeCells] at hu
    have hmod:j%zc.size<zc.size:=Nat.mod_lt _ hpos
    rw[Array.getElem?_toList,Array.getElem?_map,Array.getElem?_range] at hu
    simp only[hjn,if_true,Option.map_some,Option.some.injEq] at hu
    refine h.2 (j%zc.size) a u ha ?_
    rw[←hu,Array.getElem?_toList,getElem!_pos zc (j%zc.size) hmod]
    exact Array.getElem?_eq_getElem hmod
   ·cases hu
  ·cases ha
theorem make_ok (G:Gam I K m hp w){y:Nm}(hy:y.d≤k){t:TypeId}{l c v:AV}{ul uc:Value}(hl:Rep k I m hp w l ul)(hc:Rep k I m hp w c uc)(h:(makeP P y t l c).run hp=some (v,hp')):
  ∃u' w' m',(Instr.makeSlice t ul uc).run P w= .ok u' w'∧Gam I K m' hp' w'∧Ext I K m hp w I m' hp' w'∧Rep k I m' hp' w' v u':=by
 unfold makeP at h
 split at h
 ·rename_i kl nl kc nc
  simp only[Rep] at hl hc
  subst hl hc
  split at h
  ·rename_i e he
   split at h
   ·rename_i z hz
    split at h
    case isFalse=>simp[Prog.run] at h
    rename_i hcond
    obtain⟨h0,h1,h2,h3,h4,h5⟩:=hcond
    obtain⟨i,zv,hi,hzz,hsz,hpos,hcs,hbs,hall⟩:=zrow_ok (I:=I) (w:=w) hz h4 h5
    have hcn:(0:Int)≤nc:=by omega
    obtain⟨C,rfl⟩:=Int.eq_ofNat_of_zero_le hcn
    obtain⟨L,rfl⟩:=Int.eq_ofNat_of_zero_le h0
    have hb:(i.bytes:Int)*(C:Int)≤281474976710656:=by
     rw[hbs] at h3
     rw[Int.mul_comm]
     omega
    have hr:=run_make (P:=P) w t e i zv (slel_ok he) hi hzz kl kc L C (by omega) (by omega) hb (by omega)
    simp only[Int.toNat_natCast] at hr h
    have hLC:L≤C:=by omega
    rw[hcs] at h
    have hmk:=made_rows (I:=I) (w:=w) hall (by rw[hsz];exact hpos) L (C*i.size) (by rw[hsz];exact Nat.mul_le_mul_right _ hLC)
    rw[hsz] at hmk
    have hmax:C≤maxLen:=by simp only[maxLen];omega
    obtain⟨m',G',E',R'⟩:=newArr_ok (us:=(madeCells zv.cells (C*i.size)).toList) (cap:=C) (mk:=(0,0)) (w1:=w.alloc (.cells (madeCells zv.cells (C*i.size)) e)) G hy (noMark0 _) (by simp[size_madeCells]) (by simpa using hLC) hmax hmk h (.inl rfl)
    refine⟨_,_,m',hr,G',E',?_⟩
    simpa using R'
   ·simp[Prog.run] at h
  ·simp[Prog.run] at h
 ·simp[Prog.run] at h
theorem makeB_ok (G:Gam I K m hp w){j:Nat}{t:TypeId}{l c v:AV}{ul uc:Value}(hl:Rep k I m hp w l ul)(hc:Rep k I m hp w c uc)(h:(makeBP P ⟨k,j,0⟩ t l c).run hp=some (v,hp')):
  ∃u' w' m',(Instr.makeSlice t ul uc).run P w= .ok u' w'∧Gam I K m' hp' w'∧Ext I K m hp w I m' hp' w'∧Rep k I m' hp' w' v u':=by
 unfold makeBP at h
 split at h
 ·rename_i kl nl kc nc
  simp only[Rep] at hl hc
  subst hl hc
  split at h
  ·rename_i e he
   split at h
   ·rename_i z hz
    split at h
    case isFalse=>simp[Prog.run] at h
    rename_i hcond
    obtain⟨h0,rfl,h2,h3,h4,h5⟩:=hcond
    obtain⟨i,zv,hi,hzz,hsz,hpos,hcs,hbs,hall⟩:=zrow_ok (I:=I) (w:=w) hz h4 h5
    obtain⟨C,rfl⟩:=Int.eq_ofNat_of_zero_le h0
    have hb:(i.bytes:Int)*(C:Int)≤281474976710656:=by
     rw[hbs] at h3
     rw[Int.mul_comm]
     omega
    have hr:=run_make (P:=P) w t e i zv (slel_ok he) hi hzz kl kc C C (by omega) (by omega) hb (by omega)
    simp only[Int.toNat_natCast] at hr h
    have hmk:=made_rows (I:=I) (w:=w) hall (by rw[hsz];exact hpos) C (C*i.size) (by rw[hsz];exact Nat.le_refl _)
    rw[hsz,RepRows_iff,List.length_replicate] at hmk
    have hfull:(madeCells zv.cells (C*i.size)).toList.take (C*i.size)=(madeCells zv.cells (C*i.size)).toList:=List.take_of_length_le (by simp[size_madeCells])
    rw[hfull] at hmk
    have hmax:C≤maxLen:=by simp only[maxLen];omega
    simp only[Prog.run,Option.some.injEq,Prod.mk.injEq] at h
    obtain⟨rfl,rfl⟩:=h
    obtain⟨G2,E2⟩:=G.alloc (x:=⟨k,j,0⟩) (o:= .box ((hp ⟨k,j,0⟩).gen+1) (List.replicate C z).flatten false) (.cells (madeCells zv.cells (C*i.size)) e) (C*i.size) (by simp[AObj.gen])
     (fun w' m' hb hm E=>⟨w.heap.size,C*i.size,_,e,(0,0),hm,hb,⟨noMark0 _,by simp[size_madeCells]⟩,by rw[take_all hmk.2];exact(RepL_iff _ _).2 (hmk.2.imp fun a u h=>Rep.mono E _ a u (RepD.rep h)),fun h=>(by cases h),fun _=>G.fresh⟩) (.inl rfl)
    refine⟨_,_,_,hr,by simpa using G2,by simpa using E2,?_⟩
    simp only[Rep]
    exact⟨Nat.le_refl _,by rw[upd_same];exact Nat.le_refl _,fun cells fz hx=>⟨w.heap.size,C*i.size,C,upd_same _ _ _,Nat.le_refl _,⟨hmax,by rw[hcs];omega⟩,by simp⟩⟩
   ·simp[Prog.run] at h
  ·simp[Prog.run] at h
 ·simp[Prog.run] at h
/-! ### built -/
theorem fold_set (vs:List Value)(off:Nat): ∀(n:Nat) (cells:Array Value),off+n+vs.length≤cells.size→
  ((vs.zipIdx n).foldl (fun cs (c,j)=>cs.setIfInBounds (off+j) c) cells).toList=cells.toList.take (off+n)++vs++cells.toList.drop (off+n+vs.length):=by
 induction vs with
 |nil=>intro n cells _;simp
 |cons v vs ih=>
  intro n cells h
  simp only[List.length_cons] at h
  rw[List.zipIdx_cons,List.foldl_cons,ih (n+1) _ (by simp;omega)]
  have e:=list_seg_step cells.toList (off+n) v vs (by simp;omega)
  simpa[Array.toList_setIfInBounds,Nat.add_assoc] using e
theorem fill_step {place:Nat→Option (Nat×Nat)}{cells:Array Value}{i:Nat}{v:Value}{rest:List (Nat×Value)}{off size:Nat}(hp:place i=some (off,size))(hs:v.cells.size=size)(hl:off+v.cells.size≤cells.size):
  Instr.fill place cells ((i,v)::rest)=Instr.fill place (cells.toList.take off++v.cells.toList++cells.toList.drop (off+v.cells.size)).toArray rest:=by
 simp only[Instr.fill,hp]
 rw[if_neg (by simp;omega)]
 congr 1
 apply Array.ext'
 have:=fold_set v.cells.toList off 0 cells (by simpa using hl)
 simp only[Nat.add_zero,Array.length_toList] at this
 rw[←this,←Array.foldl_toList]
 simp
def PartsR (k:Nat)(I:Nat→Prop)(m:Mp)(hp:Hp)(w:World):List (Nat×AV)→List (Nat×Value)→Prop
 |[],[]=>True
 |(i,a)::as,(j,u)::us=>i=j∧AllR (Rep k I m hp w) (cellsA a) u.cells.toList∧PartsR k I m hp w as us
 |_,_=>False
theorem fill_ok {place:Nat→Option (Nat×Nat)}: ∀{parts:List (Nat×AV)} {us:List (Nat×Value)} {cells out:List AV} {cs:Array Value},PartsR k I m hp w parts us→AllR (Rep k I m hp w) cells cs.toList→fillA place cells parts=some out→
  ∃cs',Instr.fill place cs us=some cs'∧AllR (Rep k I m hp w) out cs'.toList
 |[],[],cells,out,cs,_,hc,h=>by
  simp only[fillA,Option.some.injEq] at h
  subst h
  exact⟨cs,rfl,hc⟩
 |[],_::_,_,_,_,hp,_,_=>by simp[PartsR] at hp
 |(i,a)::as,[],_,_,_,hp,_,_=>by simp[PartsR] at hp
 |(i,a)::as,(j,u)::us,cells,out,cs,hpr,hc,h=>by
  obtain⟨rfl,h1,h2⟩:=hpr
  simp only[fillA] at h
  split at h
  ·cases h
  ·rename_i off size hpl
   split at h
   ·rename_i hcond
    obtain⟨hs,hl⟩:=hcond
    have hl1:=h1.1
    have hl2:=hc.1
    simp only[Array.length_toList] at hl1 hl2
    obtain⟨cs',h3,h4⟩:=fill_ok (cs:=(cs.toList.take off++u.cells.toList++cs.toList.drop (off+u.cells.size)).toArray) h2 (by
     have:=hc.splice h1 off hl
     simpa using this) h
    exact⟨cs',by rw[fill_step hpl (by omega) (by omega)];exact h3,h4⟩
   ·cases h
theorem build_ok {t:TypeId}{parts:List (Nat×AV)}{us:Array (Nat×Value)}{v:AV}(hr:PartsR k I m hp w parts us.toList)(h:(buildP P t parts).run hp=some (v,hp')):
  hp'=hp∧ ∃u',(Instr.build t us).run P w= .ok u' w∧Rep k I m hp w v u':=by
 unfold buildP at h
 split at h
 case isFalse=>simp[Prog.run] at h
 rename_i hok
 simp only[bldOk,Bool.and_eq_true] at hok
 obtain⟨hz,hok⟩:=hok
 obtain⟨zl,hzl⟩:=Option.isSome_iff_exists.1 hz
 unfold zeros at hzl
 cases hi:P.info? t with
 |none=>simp[hi] at hzl
 |some it=>
  cases hzz:it.zero with
  |none=>simp[hi,hzz] at hzl
  |some z=>
   have hzl':zeros P t=some z.cells.toList:=by simp[zeros,hi,hzz]
   split at h
   case h_2=>simp[Prog.run] at h
   rename_i cs hf
   simp only[Prog.run,Option.some.injEq,Prod.mk.injEq] at h
   obtain⟨rfl,rfl⟩:=h
   refine⟨rfl,?_⟩
   rw[hzl'] at hf
   simp only[Option.getD_some] at hf
   have hz0:AllR (Rep k I m hp w) (z.cells.toList.map .sc) z.cells.toList:=by
    refine⟨by simp,fun j a u ha hu=>?_⟩
    rw[List.getElem?_map,hu] at ha
    cases ha
    simp only[Rep]
   obtain⟨cs',h1,h2⟩:=fill_ok hr hz0 hf
   have fin:P.built t us.toList=some cs'→ ∃u',(Instr.build t us).run P w= .ok u' w∧Rep k I m hp w (.agg cs) u':=fun hb=>
    ⟨.agg cs',run_build w t us cs' hb,by simp only[Rep];exact⟨cs'.toList,rfl,(RepL_iff _ _).2 h2⟩⟩
   cases hu:P.underlying t with
   |none=>rw[hu] at hok;simp at hok
   |some d=>
    rw[hu] at hok
    cases d with
    |array n e=>
     simp only at hok
     obtain⟨ie,hie⟩:=Option.isSome_iff_exists.1 hok
     have ha:arrOf P t=some (n,e):=by simp[arrOf,hu]
     rw[ha] at h1
     refine fin ?_
     simp only[Program.built,hi,hu,hzz,hie]
     rw[←h1]
     congr 1
     funext i
     simp[Program.cellsOf,hie]
    |struct fs=>
     simp only at hok
     have ha:arrOf P t=none:=by simp[arrOf,hu]
     rw[ha] at h1
     refine fin ?_
     have hm: ∀l:List Field,(l.all fun f=>(P.info? f.type).isSome)=true→l.mapM (fun f=>(P.info? f.type).map fun i=>(f.offset,i.size))=some (l.map fun f=>(f.offset,P.cellsOf f.type)):=by
      intro l hl
      induction l with
      |nil=>rfl
      |cons f l ih=>
       simp only[List.all_cons,Bool.and_eq_true] at hl
       obtain⟨ii,hii⟩:=Option.isSome_iff_exists.1 hl.1
       rw[List.mapM_cons,ih hl.2,hii]
       simp[Program.cellsOf,hii]
     simp only[Program.built,hi,hu,hzz,hm _ hok]
     rw[←h1]
     congr 1
     funext i
     simp[flds,hu]
     cases fs[i]?<;>rfl
    |_=>simp at hok
/-! ### equal structs -/
def EqLaw (P:Program)(E:TypeId→Bool):Prop:=
 ∀t,E t=true→ ∀(w:World) (x y:Operand) (us vs:List Value) (b:Bool),fitsL P (tcs P t) (us.map .sc)=true→fitsL P (tcs P t) (vs.map .sc)=true→eqL (us.map .sc) (vs.map .sc)=some b→
  (do eqGuard .eql t x y (.agg ⟨us⟩) (.agg ⟨vs⟩);binOp .eql t (.agg ⟨us⟩) (.agg ⟨vs⟩):Sem Value).run P w= .ok (.bool b) w∧
  (do eqGuard .neq t x y (.agg ⟨us⟩) (.agg ⟨vs⟩);binOp .neq t (.agg ⟨us⟩) (.agg ⟨vs⟩):Sem Value).run P w= .ok (.bool (!b)) w
theorem eqV_sc {a b:AV}{r:Bool}(h:eqV a b=some r): ∃u v,a= .sc u∧b= .sc v:=by
 unfold eqV at h
 split at h
 ·exact⟨_,_,rfl,rfl⟩
 ·exact⟨_,_,rfl,rfl⟩
 ·exact⟨_,_,rfl,rfl⟩
 ·cases h
theorem eqL_sc : ∀{xs ys:List AV} {us vs:List Value} {b:Bool},eqL xs ys=some b→AllR (Rep k I m hp w) xs us→AllR (Rep k I m hp w) ys vs→xs=us.map .sc∧ys=vs.map .sc
 |[],[],us,vs,b,_,h1,h2=>by
  have e1:us=[]:=List.eq_nil_of_length_eq_zero (by rw[←h1.1];rfl)
  have e2:vs=[]:=List.eq_nil_of_length_eq_zero (by rw[←h2.1];rfl)
  subst e1 e2
  exact⟨rfl,rfl⟩
 |[],_::_,us,vs,b,h,_,_=>by simp[eqL] at h
 |_::_,[],us,vs,b,h,_,_=>by simp[eqL] at h
 |x::xs,y::ys,us,vs,b,h,h1,h2=>by
  obtain⟨u,us',rfl,a1,a2⟩:=h1.cons_inv
  obtain⟨v,vs',rfl,b1,b2⟩:=h2.cons_inv
  simp only[eqL] at h
  split at h
  ·rename_i r s hv hl
   obtain⟨e1,e2⟩:=eqL_sc hl a2 b2
   obtain⟨u',v',rfl,rfl⟩:=eqV_sc hv
   simp only[Rep] at a1 b1
   subst a1 b1
   exact⟨by rw[e1];rfl,by rw[e2];rfl⟩
  ·cases h
theorem guard_int (w:World)(op:BinOp)(t:TypeId)(x y:Operand)(kd kd':IntKind)(n n':Int):(eqGuard op t x y (.int kd n) (.int kd' n')).run P w= .ok () w:=by
 cases op<;>simp[eqGuard]
theorem guard_string (w:World)(op:BinOp)(t:TypeId)(x y:Operand)(s s':ByteArray):(eqGuard op t x y (.string s) (.string s')).run P w= .ok () w:=by
 cases op<;>simp[eqGuard]
theorem guard_bool (w:World)(op:BinOp)(t:TypeId)(x y:Operand)(p q:Bool):(eqGuard op t x y (.bool p) (.bool q)).run P w= .ok () w:=by
 cases op<;>simp[eqGuard]
theorem run_equalIn_map (w:World)(d:Nat)(p:Option Nat){t kt et:TypeId}(hu:P.underlying t=some (.map kt et)):(Op.equalIn (d+1) t (.map p) (.map none)).run P w= .ok p.isNone w:=by
 cases p<;>simp[Op.equalIn,run_underlying hu]
theorem run_equalIn_slice (w:World)(d:Nat)(a:Addr)(n c:Nat){t et:TypeId}(hu:P.underlying t=some (.slice et)):(Op.equalIn (d+1) t (.slice (some a) n c) (.slice none 0 0)).run P w= .ok false w:=by
 simp[Op.equalIn,run_underlying hu]
def ELaw (P:Program)(E:Cfg):Prop:=EqLaw P E.eq∧ ∀l,E.yl l=false
theorem ELaw.dry {P:Program}{E:Cfg}(h:EqLaw P E.eq):ELaw P E.dry:=⟨h,fun _=>rfl⟩
theorem bin_ok {E:TypeId→Bool}(hE:EqLaw P E){op:BinOp}{t:TypeId}{x y:Operand}{a b v:AV}{u u':Value}(ha:Rep k I m hp w a u)(hb:Rep k I m hp w b u')(h:evBin P E op t a b=some v):
  ∃r,(do eqGuard op t x y u u';binOp op t u u':Sem Value).run P w= .ok r w∧Rep k I m hp w v r:=by
 unfold evBin at h
 split at h
 ·rename_i kd n kd' n'
  simp only[Rep] at ha hb
  subst ha hb
  have hg:=guard_int (P:=P) w op t x y kd kd' n n'
  split at h
  ·split at h
   ·cases h
   ·rename_i hn
    simp only[Option.some.injEq] at h
    subst h
    refine⟨.int kd (kd.wrap (n*2^min n'.toNat kd.bits)),?_,by simp only[Rep]⟩
    simp[hg,binOp,Op.shift,hn]
  ·split at h
   ·cases h
   ·rename_i hn
    simp only[Option.some.injEq] at h
    subst h
    refine⟨.int kd (n.fdiv (2^min n'.toNat kd.bits)),?_,by simp only[Rep]⟩
    simp[hg,binOp,Op.shift,hn]
  ·rename_i h1 h2
   split at h
   ·rename_i hk
    subst hk
    cases hv:evInt op kd n n' with
    |none=>rw[hv] at h;cases h
    |some r=>
     rw[hv] at h
     simp only[Option.map_some,Option.some.injEq] at h
     subst h
     exact⟨r,by simp[Sem.run_bind,hg,evInt_ok hv t ⟨h1,h2⟩],by simp only[Rep]⟩
   ·cases h
 ·rename_i s s'
  simp only[Rep] at ha hb
  subst ha hb
  have hg:=guard_string (P:=P) w op t x y s s'
  cases hv:evStr op s s' with
  |none=>rw[hv] at h;cases h
  |some r=>
   rw[hv] at h
   simp only[Option.map_some,Option.some.injEq] at h
   subst h
   exact⟨r,by simp[Sem.run_bind,hg,evStr_ok hv t],by simp only[Rep]⟩
 ·rename_i p q
  simp only[Rep] at ha hb
  subst ha hb
  have hg:=guard_bool (P:=P) w op t x y p q
  split at h
  ·rename_i hbl
   have hu:P.underlying t=some .bool:=by
    unfold bolB at hbl
    split at hbl
    ·rename_i he;exact he
    ·cases hbl
   split at h<;>simp only[Option.some.injEq,reduceCtorEq] at h
   ·subst h
    refine⟨.bool (p==q),?_,by simp only[Rep]⟩
    simp only[Sem.run_bind,hg,Result.andThen_ok,binOp]
    simp[Op.equal,Op.maxDepth,run_equalIn_bool' (P:=P) w 9999 t p q hu]
   ·subst h
    refine⟨.bool (p !=q),?_,by simp only[Rep]⟩
    simp only[Sem.run_bind,hg,Result.andThen_ok,binOp]
    simp[Op.equal,Op.maxDepth,run_equalIn_bool' (P:=P) w 9999 t p q hu]
    cases p<;>cases q<;>rfl
  ·cases h
 ·rename_i p
  simp only[Rep] at ha hb
  subst ha hb
  have hg:(eqGuard op t x y (.map p) (.map none)).run P w= .ok () w:=by cases op<;>simp[eqGuard]
  split at h
  ·rename_i hbl
   obtain⟨kt,et,hu⟩: ∃kt et,P.underlying t=some (.map kt et):=by
    unfold mapB at hbl
    split at hbl
    ·rename_i he;exact⟨_,_,he⟩
    ·cases hbl
   have hq:(Op.equal t (.map p) (.map none)).run P w= .ok p.isNone w:=by
    exact run_equalIn_map w 9999 p hu
   split at h<;>simp only[Option.some.injEq,reduceCtorEq] at h
   ·subst h
    refine⟨.bool p.isNone,?_,by simp only[Rep]⟩
    simp only[Sem.run_bind,hg,Result.andThen_ok,binOp]
    simp[hq]
   ·subst h
    refine⟨.bool p.isSome,?_,by simp only[Rep]⟩
    simp only[Sem.run_bind,hg,Result.andThen_ok,binOp]
    simp[hq]
  ·cases h
 ·rename_i f sz r0 rs0
  simp only[Rep,RepD] at ha hb
  subst hb
  obtain⟨A,cap,rfl,_,_,_,ha⟩:=ha
  obtain⟨b0,o0,us0,rfl,_⟩: ∃b o us,A=some ⟨b,o,none⟩∧True:=by
   rcases ha with ha|⟨b,o,us,h1,_⟩
   ·cases ha
   ·exact⟨b,o,us,h1,trivial⟩
  generalize (r0::rs0).length=nl at*
  have hg:(eqGuard op t x y (.slice (some ⟨b0,o0,none⟩) nl cap) (.slice none 0 0)).run P w= .ok () w:=by cases op<;>simp[eqGuard]
  split at h
  ·rename_i hbl
   obtain⟨et,hu⟩: ∃et,P.underlying t=some (.slice et):=by
    unfold slel at hbl
    split at hbl
    ·rename_i he;exact⟨_,he⟩
    ·cases hbl
   have hq:(Op.equal t (.slice (some ⟨b0,o0,none⟩) nl cap) (.slice none 0 0)).run P w= .ok false w:=by
    exact run_equalIn_slice w 9999 _ _ _ hu
   split at h<;>simp only[Option.some.injEq,reduceCtorEq] at h
   ·subst h
    refine⟨.bool false,?_,by simp only[Rep]⟩
    simp only[Sem.run_bind,hg,Result.andThen_ok,binOp]
    simp[hq]
   ·subst h
    refine⟨.bool true,?_,by simp only[Rep]⟩
    simp only[Sem.run_bind,hg,Result.andThen_ok,binOp]
    simp[hq]
  ·cases h
 ·rename_i xs ys
  simp only[Rep] at ha hb
  obtain⟨us,rfl,ha⟩:=ha
  obtain⟨vs,rfl,hb⟩:=hb
  split at h
  ·rename_i hEt
   obtain⟨hEt,hf1,hf2⟩:=hEt
   split at h
   ·rename_i r he
    simp only[Option.some.injEq] at h
    subst h
    obtain⟨e1,e2⟩:=eqL_sc he ((RepL_iff _ _).1 ha) ((RepL_iff _ _).1 hb)
    rw[e1,e2] at he
    rw[e1] at hf1
    rw[e2] at hf2
    exact⟨_,(hE t hEt w x y us vs r hf1 hf2 he).1,by simp only[Rep]⟩
   ·rename_i r he
    simp only[Option.some.injEq] at h
    subst h
    obtain⟨e1,e2⟩:=eqL_sc he ((RepL_iff _ _).1 ha) ((RepL_iff _ _).1 hb)
    rw[e1,e2] at he
    rw[e1] at hf1
    rw[e2] at hf2
    exact⟨_,(hE t hEt w x y us vs r hf1 hf2 he).2,by simp only[Rep]⟩
   ·cases h
  ·cases h
 ·cases h
theorem un_ok {op:UnOp}{a v:AV}{u:Value}(ha:Rep k I m hp w a u)(h:evUn op a=some v): ∃r,(Op.unary op u).run P w= .ok r w∧Rep k I m hp w v r:=by
 unfold evUn at h
 split at h
 ·simp only[Rep] at ha
  subst ha
  split at h<;>simp only[Option.some.injEq,reduceCtorEq] at h<;>subst h
  ·exact⟨_,rfl,by simp only[Rep]⟩
  ·exact⟨_,rfl,by simp only[Rep]⟩
 ·simp only[Rep] at ha
  subst ha
  split at h<;>simp only[Option.some.injEq,reduceCtorEq] at h
  subst h
  exact⟨_,rfl,by simp only[Rep]⟩
 ·cases h
/-! ### lists that are built -/
theorem PartsR.mono {I':Nat→Prop}{m':Mp}{w':World}(E:Ext I K m hp w I' m' hp' w'): ∀{as:List (Nat×AV)} {us:List (Nat×Value)},PartsR k I m hp w as us→PartsR k I' m' hp' w' as us
 |[],[],_=>trivial
 |[],_::_,h=>by simp[PartsR] at h
 |(_,_)::_,[],h=>by simp[PartsR] at h
 |(_,_)::_,(_,_)::_,⟨h1,h2,h3⟩=>⟨h1,h2.imp fun a u h=>Rep.mono E k a u h,h3.mono E⟩
theorem rowsOfParts_ok {e:TypeId}{ie:TypeInfo}(hie:P.info? e=some ie): ∀{parts:List (Nat×AV)} {us:List (Nat×Value)} {I:Nat→Prop} {hp hp':Hp} {rows rows':List (List AV)} {cs:Array Value},Gam I K m hp w→PartsR k I m hp w parts us→
  Even ie.size rows→AllR (RepD I w) rows.flatten cs.toList→(rowsOfParts P e parts rows).run hp=some (rows',hp')→
  ∃I' cs',Gam I' K m hp' w∧Ext I K m hp w I' m hp' w∧Instr.fill (fun i=>some (i*ie.size,ie.size)) cs us=some cs'∧Even ie.size rows'∧AllR (RepD I' w) rows'.flatten cs'.toList∧rows'.length=rows.length
 |[],[],I,hp,hp',rows,rows',cs,G,_,he,ha,h=>by
  simp only[rowsOfParts,Prog.run,Option.some.injEq,Prod.mk.injEq] at h
  obtain⟨rfl,rfl⟩:=h
  exact⟨I,cs,G,.refl _ _ _ _ _,rfl,he,ha,rfl⟩
 |[],_::_,_,_,_,_,_,_,_,hp,_,_,_=>by simp[PartsR] at hp
 |(i,a)::as,[],_,_,_,_,_,_,_,hp,_,_,_=>by simp[PartsR] at hp
 |(i,a)::as,(j,u)::us,I,hp,hp',rows,rows',cs,G,hpr,he,ha,h=>by
  obtain⟨rfl,h1,h2⟩:=hpr
  have hcs:P.cellsOf e=ie.size:=by simp[Program.cellsOf,hie]
  simp only[rowsOfParts] at h
  split at h
  case isFalse=>simp[Prog.run] at h
  rename_i hc
  obtain⟨hl,hi⟩:=hc
  obtain⟨r,hp1,r1,h3⟩:=run_bind_some h
  obtain⟨I1,G1,E1,d1⟩:=toDatL_frz G h1 r1
  have hlen:u.cells.size=ie.size:=by have:=h1.1;simp at this;omega
  have hrl:r.length=ie.size:=by have:=d1.1;simp at this;omega
  have hle:i*ie.size+ie.size≤rows.length*ie.size:=by
   have:=Nat.mul_le_mul_right ie.size (show i+1≤rows.length from hi)
   rw[Nat.add_mul,Nat.one_mul] at this;exact this
  have hcl:cs.size=rows.length*ie.size:=by have:=ha.1;rw[he.length] at this;simpa using this.symm
  have ha1:AllR (RepD I1 w) rows.flatten cs.toList:=ha.imp fun a u h=>RepD.mono E1.isub (fun _ _=>rfl) _ _ h
  have hset:AllR (RepD I1 w) (rows.set i r).flatten (cs.toList.take (i*ie.size)++u.cells.toList++cs.toList.drop (i*ie.size+u.cells.size)):=by
   rw[flatten_set he hi]
   have a5:=((ha1.take (i*ie.size)).append d1).append (ha1.drop (i*ie.size+ie.size))
   rwa [hlen]
  have hpr2:PartsR k I1 m hp1 w as us:=h2.mono E1
  obtain⟨I2,cs',G2,E2,f1,f2,f3,f4⟩:=rowsOfParts_ok hie (cs:=(cs.toList.take (i*ie.size)++u.cells.toList++cs.toList.drop (i*ie.size+u.cells.size)).toArray) G1 hpr2 (he.set hrl) (by simpa using hset) h3
  refine⟨I2,cs',G2,E1.trans E2,?_,f2,f3,by rw[f4,List.length_set]⟩
  rw[fill_step (off:=i*ie.size) (size:=ie.size) rfl hlen (by omega)]
  exact f1
theorem buildSlice_ok (G:Gam I K m hp w){y:Nm}(hy:y.d≤k){t:TypeId}{len:Nat}{parts:List (Nat×AV)}{us:Array (Nat×Value)}{v:AV}(hr:PartsR k I m hp w parts us.toList)(h:(buildSliceP P y t len parts).run hp=some (v,hp')):
  ∃u' w' I' m',(Instr.buildSlice t len us).run P w= .ok u' w'∧Gam I' K m' hp' w'∧Ext I K m hp w I' m' hp' w'∧Rep k I' m' hp' w' v u':=by
 unfold buildSliceP at h
 split at h
 ·rename_i e he
  split at h
  ·rename_i z hz
   split at h
   case isFalse=>simp[Prog.run] at h
   rename_i hc
   obtain⟨hzl,hzo,hsz,hmax⟩:=hc
   obtain⟨i,zv,hi,hzz,hzs,hpos,hcs,hbs,hall⟩:=zrow_ok (I:=I) (w:=w) hz hzl hzo
   obtain⟨rows,hp1,r1,h2⟩:=run_bind_some h
   clear h
   have hmk:=made_rows (I:=I) (w:=w) hall (by rw[hzs];exact hpos) len (len*i.size) (by rw[hzs];exact Nat.le_refl _)
   rw[hzs,RepRows_iff,List.length_replicate] at hmk
   have hfull:(madeCells zv.cells (len*i.size)).toList.take (len*i.size)=(madeCells zv.cells (len*i.size)).toList:=List.take_of_length_le (by simp[size_madeCells])
   rw[hfull] at hmk
   obtain⟨I1,cs',G1,E1,f1,f2,f3,f4⟩:=rowsOfParts_ok hi G hr hmk.1 hmk.2 r1
   rw[List.length_replicate] at f4
   rw[hcs] at h2 hsz
   have hcsz:cs'.size=len*i.size:=by have:=f3.1;rw[f2.length,f4] at this;simpa using this.symm
   obtain⟨m',G',E',R'⟩:=newArr_ok (us:=cs'.toList) (cap:=len) (mk:=(0,0)) (w1:=w.alloc (.cells cs' e)) G1 hy (noMark0 _) (by simpa using hcsz) (by omega) hmax
    (by rw[RepRows_iff,f4,List.take_of_length_le (by simp[hcsz])];exact⟨f2,f3⟩) h2 (.inl rfl)
   rw[f4] at R'
   refine⟨_,_,I1,m',?_,G',E1.trans E',R'⟩
   have hlim: ¬(16777216<len*i.size):=by omega
   have hfill:Instr.fill (fun j=>some (j*i.size,i.size)) (Array.map (fun x=>zv.cells[x%zv.cells.size]!) (Array.range (len*i.size))) us.toList=some cs':=f1
   by_cases h0:len*i.size=0
   ·have h00:Array.map (fun x=>zv.cells[x%zv.cells.size]!) (Array.range (len*i.size))= #[]:=by rw[h0];apply Array.ext';simp
    rw[h00] at hfill
    have h0':len=0∨i.size=0:=Nat.mul_eq_zero.1 h0
    simp[Instr.buildSlice,run_underlying (slel_ok he),sizeOf,typeInfo,hi,h0,newRow,Array.range_zero',hfill]
   ·simp[Instr.buildSlice,run_underlying (slel_ok he),sizeOf,typeInfo,zeroValue,hi,hzz,hlim,h0,newRow,hfill]
  ·simp[Prog.run] at h
 ·simp[Prog.run] at h
end
end
section
open Go
section
variable {P:Program}{I K:Nat→Prop}{m:Mp}{hp hp':Hp}{w:World}{k:Nat}
theorem bytesOfRows_ok : ∀{rows:List (List AV)} {l:List UInt8} {news:List Value},bytesOfRows rows=some l→AllR (RepD I w) rows.flatten news→ ∃ns:List Int,news=ns.map (Value.int .u8)∧l=ns.map fun n=>UInt8.ofNat n.toNat
 |[],l,news,h,ha=>by
  simp only[bytesOfRows,Option.some.injEq] at h
  subst h
  have:news=[]:=List.eq_nil_of_length_eq_zero (by rw[←ha.1];rfl)
  exact⟨[],this,rfl⟩
 |r::rs,l,news,h,ha=>by
  unfold bytesOfRows at h
  split at h
  ·rename_i heq;cases heq
  ·rename_i n rs' heq
   cases heq
   cases hr:bytesOfRows rs with
   |none=>rw[hr] at h;cases h
   |some l'=>
    rw[hr] at h
    simp only[Option.map_some,Option.some.injEq] at h
    obtain⟨v,vs,rfl,h1,h2⟩:=AllR.cons_inv (show AllR (RepD I w) (.sc (.int .u8 n)::rs.flatten) news by simpa using ha)
    obtain⟨ns,e1,e2⟩:=bytesOfRows_ok hr h2
    simp only[RepD] at h1
    exact⟨n::ns,by rw[h1.1,e1];rfl,by rw[←h,e2];rfl⟩
  ·cases h
theorem rows_slice {x:AV}{u:Value}{sz:Nat}{rows:List (List AV)}(hx0: ∀s,x≠ .sc (.string s))(hr:Rep k I m hp w x u)(h:(rowsP x).run hp=some ((sz,rows),hp')):
  ∃A cap,u= .slice A rows.length cap∧(A=none→rows=[]):=by
 cases x with
 |sl f sz' rows'=>
  simp only[rowsP,Prog.run,Option.some.injEq,Prod.mk.injEq] at h
  obtain⟨⟨rfl,rfl⟩,rfl⟩:=h
  simp only[Rep,RepD] at hr
  obtain⟨A,cap,rfl,h1,h2,_,h4⟩:=hr
  refine⟨A,cap,rfl,fun hA=>?_⟩
  rcases h4 with h4|⟨b,o,us,hb,_⟩
  ·exact h4
  ·rw[hb] at hA;cases hA
 |own y g n=>
  simp only[rowsP,Prog.run] at h
  cases hx:hp y with
  |no g'=>rw[hx] at h;simp[Prog.run] at h
  |map _ _ _ _ _=>rw[hx] at h;simp[Prog.run] at h
  |box g' c f=>rw[hx] at h;simp[Prog.run] at h
  |arr g' sz' e rows' f=>
   rw[hx] at h
   simp only at h
   split at h
   ·rename_i hc
    obtain⟨rfl,hn⟩:=hc
    simp only[Prog.run,Option.some.injEq,Prod.mk.injEq] at h
    obtain⟨⟨rfl,rfl⟩,rfl⟩:=h
    simp only[Rep] at hr
    obtain⟨_,_,hr⟩:=hr
    obtain⟨_,hr⟩:=hr sz' e rows' f hx
    have hl:(rows'.take n).length=n:=by rw[List.length_take];omega
    rcases hr with⟨h0,rfl,rfl⟩|⟨b,cap,hm,rfl⟩
    ·exact⟨none,0,by simp,fun _=>by simp⟩
    ·exact⟨_,cap,by rw[hl],fun hA=>(by cases hA)⟩
   ·simp[Prog.run] at h
 |sc v=>
  simp only[Rep] at hr
  subst hr
  unfold rowsP at h
  split at h
  all_goals first|(simp[Prog.run] at h;done)|skip
  ·rename_i heq;simp at heq
  ·rename_i heq;simp at heq
  ·rename_i heq
   simp only[AV.sc.injEq] at heq
   subst heq
   simp only[Prog.run,Option.some.injEq,Prod.mk.injEq] at h
   obtain⟨⟨rfl,rfl⟩,rfl⟩:=h
   exact⟨none,0,rfl,fun _=>rfl⟩
  ·rename_i s heq
   exact absurd heq (hx0 s)
  ·rename_i heq;simp at heq
 |bsl x g sz' off n=>
  simp only[rowsP,Prog.run] at h
  cases hx:hp x with
  |no g'=>rw[hx] at h;simp[Prog.run] at h
  |map _ _ _ _ _=>rw[hx] at h;simp[Prog.run] at h
  |arr g' sz e rows f=>rw[hx] at h;simp[Prog.run] at h
  |box g' cells f=>
   rw[hx] at h
   simp only at h
   split at h
   case isFalse=>simp[Prog.run] at h
   rename_i hc
   obtain⟨rfl,hl,hdat⟩:=hc
   simp only[Prog.run,Option.some.injEq,Prod.mk.injEq] at h
   obtain⟨⟨rfl,rfl⟩,rfl⟩:=h
   simp only[Rep] at hr
   obtain⟨_,_,hr⟩:=hr
   obtain⟨b,c',cap,hm,h4,h5,rfl⟩:=hr cells f hx
   obtain⟨_,_,q3⟩:=chunks_flat sz' n (cells.drop off) (by rw[List.length_drop];omega)
   exact⟨_,cap,by rw[q3],by simp⟩
 |any|dp|ptr|eptr|agg|tup|vec|fn|mp|dmp=>simp[rowsP,Prog.run] at h
theorem intK_ok {t:TypeId}{kd:IntKind}(h:intK P t=some kd):P.underlying t=some (.int kd):=by
 unfold intK at h
 split at h
 ·rename_i k' he;cases h;exact he
 ·cases h
theorem grown_bytes (s:ByteArray)(cap:Nat)(h:s.size≤cap):
  RepRows I w 1 (s.data.toList.map fun b=>[.sc (.int .u8 b.toNat)]) ((bytesRow s cap).toList.take ((s.data.toList.map fun b=>[AV.sc (.int .u8 b.toNat)]).length*1))∧(bytesRow s cap).toList.length=cap*1:=by
 have hf: ∀l:List UInt8,(l.map fun b=>[AV.sc (.int .u8 b.toNat)]).flatten=l.map fun b=>AV.sc (.int .u8 b.toNat):=by
  intro l;induction l with
  |nil=>rfl
  |cons a l ih=>simp[ih]
 have ha:AllR (RepD I w) (s.data.toList.map fun b=>AV.sc (.int .u8 b.toNat)) (s.data.toList.map fun b=>Value.int .u8 b.toNat):=by
  refine⟨by simp,fun j a u h1 h2=>?_⟩
  rw[List.getElem?_map] at h1 h2
  cases hc:s.data.toList[j]? with
  |none=>rw[hc] at h1;cases h1
  |some b=>rw[hc] at h1 h2;cases h1;cases h2;simp only[RepD];exact⟨trivial,rfl⟩
 have hsz:s.data.size=s.size:=rfl
 have hrow:(bytesRow s cap).toList=(s.data.toList.map fun b=>Value.int .u8 b.toNat)++List.replicate (cap - s.size) (.int .u8 0):=by simp[bytesRow]
 rw[hrow]
 constructor
 ·rw[RepRows_iff,hf]
  refine⟨fun r hr=>?_,?_⟩
  ·obtain⟨b,_,rfl⟩:=List.mem_map.1 hr;rfl
  ·rw[List.take_left' (by simp)];exact ha
 ·simp[hsz];omega
theorem convert_ok (G:Gam I K m hp w){y:Nm}(hy:y.d≤k){src dst:TypeId}{x v:AV}{u:Value}(hr:Rep k I m hp w x u)(h:(convertP P y src dst x).run hp=some (v,hp')):
  ∃u' w' m',(convert src dst u).run P w= .ok u' w'∧Gam I K m' hp' w'∧Ext I K m hp w I m' hp' w'∧Rep k I m' hp' w' v u':=by
 unfold convertP at h
 split at h
 ·rename_i kd n
  simp only[Rep] at hr
  subst hr
  split at h
  ·rename_i kd' hk
   split at h
   ·rename_i hs
    simp only[Prog.run,Option.some.injEq,Prod.mk.injEq] at h
    obtain⟨rfl,rfl⟩:=h
    obtain⟨d,hd⟩:=Option.isSome_iff_exists.1 hs
    refine⟨.int kd' (kd'.wrap n),w,m,?_,G,.refl _ _ _ _ _,by simp only[Rep]⟩
    simp[convert,run_underlying hd,run_underlying (intK_ok hk),Conv.intToInt]
   ·simp[Prog.run] at h
  ·simp[Prog.run] at h
 ·rename_i s
  simp only[Rep] at hr
  subst hr
  split at h
  case isFalse=>simp[Prog.run] at h
  rename_i hs
  split at h
  ·rename_i hd
   simp only[Prog.run,Option.some.injEq,Prod.mk.injEq] at h
   obtain⟨rfl,rfl⟩:=h
   refine⟨.string s,w,m,?_,G,.refl _ _ _ _ _,by simp only[Rep]⟩
   simp[convert,run_underlying (strB_ok hs),run_underlying (strB_ok hd)]
  ·split at h
   ·rename_i e he
    split at h
    ·rename_i hc
     obtain⟨h1,h2,h3⟩:=hc
     have hrun:=run_bytes_of_string (P:=P) w src dst e s (strB_ok hs) (slel_ok he) (intK_ok h1)
     have hge:=grownCap_ge w s.size 0 e
     have hle:=grownCap_le_maxLen w s.size 0 e h3
     obtain⟨a1,a2⟩:=grown_bytes (I:=I) (w:=w) s (grownCap w s.size 0 e) hge
     have hlen:(s.data.toList.map fun b=>[AV.sc (.int .u8 b.toNat)]).length=s.size:=by simp
     obtain⟨m',G',E',R'⟩:=newArr_ok (w:=w) (us:=(bytesRow s (grownCap w s.size 0 e)).toList) (cap:=grownCap w s.size 0 e) (mk:=((bytesRow s (grownCap w s.size 0 e)).size,(bytesRow s (grownCap w s.size 0 e)).size+1))
      G hy (fun j hj=>by simp only[Array.toArray_toList] at hj;simp;omega) a2 (by rw[hlen];exact hge) hle a1 h (.inr rfl)
     rw[hlen] at R'
     exact⟨_,_,m',hrun,G',E',R'⟩
    ·simp[Prog.run] at h
   ·simp[Prog.run] at h
 ·rename_i hn1 hn2
  split at h
  case h_2=>simp[Prog.run] at h
  rename_i e he
  split at h
  case isFalse=>simp[Prog.run] at h
  rename_i hc
  obtain⟨hd,h8⟩:=hc
  obtain⟨⟨sz,rows⟩,hp1,r1,h2⟩:=run_bind_some h
  clear h
  obtain⟨rfl,hsrc⟩:=rows_ok (P:=P) G hr r1
  obtain⟨A,cap,rfl,hA⟩:=rows_slice hn2 hr r1
  simp only at h2
  split at h2
  case h_2=>simp[Prog.run] at h2
  rename_i l hl
  split at h2
  case isFalse=>simp[Prog.run] at h2
  rename_i hsz
  simp only[Prog.run,Option.some.injEq,Prod.mk.injEq] at h2
  obtain⟨rfl,rfl⟩:=h2
  obtain⟨news,hS,hN,hE⟩:=hsrc 1 hsz
  obtain⟨ns,rfl,rfl⟩:=bytesOfRows_ok hl hN
  refine⟨.string ⟨⟨ns.map fun n=>UInt8.ofNat n.toNat⟩⟩,w,m,?_,G,.refl _ _ _ _ _,by simp only[Rep]⟩
  rw[run_convert_bytes_string w src dst e A rows.length cap (slel_ok he) (intK_ok h8) (strB_ok hd)]
  have hfold: ∀(ns:List Int) (r:ByteArray),ns.foldl (fun r n=>r.push (UInt8.ofNat n.toNat)) r=⟨r.data++(ns.map fun n=>UInt8.ofNat n.toNat).toArray⟩:=by
   intro ns;induction ns with
   |nil=>intro r;simp
   |cons n ns ih=>intro r;rw[List.foldl_cons,ih];simp[ByteArray.push]
  have he0:ByteArray.empty.data= #[]:=rfl
  cases A with
  |none=>
   have hr0:rows=[]:=hA rfl
   subst hr0
   have:ns=[]:=by have:=hS.length;simpa using this
   subst this
   simp[Conv.bytesToString]
   rfl
  |some a=>
   have hf:=hS.first w rfl
   have hl2:(loadCells a rows.length).run P w= .ok (ns.map (Value.int .u8)).toArray w:=by simpa[Builtin.firstCells] using hf
   rw[run_bytesToString w a rows.length cap ns hl2,hfold,he0]
   simp
end
end
section
open Go
def RepA (I:Nat→Prop)(w:World)(a:AV)(u:Value):Prop:=match a with
 | .agg cs=> ∃us,u= .agg ⟨us⟩∧RepDL I w cs us
 |a=>RepD I w a u
def RepRes (P:Program)(I:Nat→Prop)(w:World)(t:TypeId)(a:AV)(u:Value)(bs:List Nat):Prop:=
 if isAggB P t then∃cs us,a= .agg cs∧u= .agg ⟨us⟩∧RepHL P I (fun _=>False) w (tcs P t) cs us bs else RepH P I (fun _=>False) w t a u bs
def RepResL (P:Program)(I:Nat→Prop)(w:World):List TypeId→List AV→List Value→List Nat→Prop
 |[],[],us,bs=>us=[]∧bs=[]
 |t::ts,a::as,us,bs=> ∃u us' b1 b2,us=u::us'∧bs=b1++b2∧RepRes P I w t a u b1∧RepResL P I w ts as us' b2
 |_,_,_,_=>False
def retV :List Value→Value
 |[v]=>v
 |vs=> .tuple ⟨vs⟩
section
variable {P:Program}{I K:Nat→Prop}{m:Mp}{hp hp':Hp}{w:World}{k:Nat}
theorem chk_same {v:AV}{x:Unit}(h:(chk v).run hp=some (x,hp')):hp'=hp:=by
 unfold chk at h
 split at h
 all_goals first|(simp[Prog.run] at h;done)|skip
 ·simp only[Prog.run] at h
  split at h
  ·split at h
   ·simp only[Prog.run,Option.some.injEq,Prod.mk.injEq] at h;exact h.2.symm
   ·simp[Prog.run] at h
  ·simp[Prog.run] at h
 ·simp only[Prog.run] at h
  split at h
  ·split at h
   ·simp only[Prog.run,Option.some.injEq,Prod.mk.injEq] at h;exact h.2.symm
   ·simp[Prog.run] at h
  ·simp[Prog.run] at h
 ·simp only[Prog.run] at h
  split at h
  ·split at h
   ·simp only[Prog.run,Option.some.injEq,Prod.mk.injEq] at h;exact h.2.symm
   ·simp[Prog.run] at h
  ·simp[Prog.run] at h
 ·simp only[Prog.run] at h
  split at h
  ·split at h
   ·simp only[Prog.run,Option.some.injEq,Prod.mk.injEq] at h;exact h.2.symm
   ·simp[Prog.run] at h
  ·simp[Prog.run] at h
 ·simp only[Prog.run,Option.some.injEq,Prod.mk.injEq] at h;exact h.2.symm
theorem cells_ok {v:AV}{u:Value}{x:Unit}(hn:(chk v).run hp=some (x,hp'))(hr:Rep k I m hp w v u):hp'=hp∧AllR (Rep k I m hp w) (cellsA v) u.cells.toList∧ ∃us,u=(if aggA v then .agg ⟨us⟩ else u)∧(aggA v=false→u.cells.toList=[u]):=by
 refine⟨chk_same hn,?_⟩
 have h0:=hr
 cases v with
 |any=>simp[chk,Prog.run] at hn
 |bsl x g sz off n=>
  simp only[chk,Prog.run] at hn
  cases hx:hp x with
  |no g'=>rw[hx] at hn;simp[Prog.run,AObj.head] at hn
  |map _ _ _ _ _=>rw[hx] at hn;simp[Prog.run,AObj.head] at hn
  |arr g' sz e rows f=>rw[hx] at hn;simp[Prog.run,AObj.head] at hn
  |box g' c f=>
   rw[hx] at hn
   simp only[AObj.head] at hn
   split at hn
   ·rename_i hg
    subst hg
    simp only[Rep] at hr
    obtain⟨_,_,hr⟩:=hr
    obtain⟨b,c',cap,_,_,_,rfl⟩:=hr c f hx
    exact⟨.cons h0 .nil,[],rfl,fun _=>rfl⟩
   ·simp[Prog.run] at hn
 |ptr x g o=>
  simp only[chk,Prog.run] at hn
  cases hx:hp x with
  |no g'=>rw[hx] at hn;simp[Prog.run,AObj.head] at hn
  |map _ _ _ _ _=>rw[hx] at hn;simp[Prog.run,AObj.head] at hn
  |arr g' sz e rows f=>rw[hx] at hn;simp[Prog.run,AObj.head] at hn
  |box g' c f=>
   rw[hx] at hn
   simp only[AObj.head] at hn
   split at hn
   ·rename_i hg
    subst hg
    simp only[Rep] at hr
    obtain⟨_,_,hr⟩:=hr
    obtain⟨b,c',_,rfl⟩:=hr c f hx
    exact⟨.cons h0 .nil,[],rfl,fun _=>rfl⟩
   ·simp[Prog.run] at hn
 |eptr x g i o=>simp[chk,Prog.run] at hn
 |dmp ag ks rows=>
  simp only[Rep,RepD] at hr
  obtain⟨b,es,clock,rfl,_⟩:=hr
  exact⟨.cons h0 .nil,[],rfl,fun _=>rfl⟩
 |mp x g=>
  simp only[chk,Prog.run] at hn
  cases hx:hp x with
  |no g'=>rw[hx] at hn;simp[Prog.run,AObj.head] at hn
  |arr g' sz e rows f=>rw[hx] at hn;simp[Prog.run,AObj.head] at hn
  |box g' c f=>rw[hx] at hn;simp[Prog.run,AObj.head] at hn
  |map g' ag ks rows f=>
   rw[hx] at hn
   simp only[AObj.head] at hn
   split at hn
   ·rename_i hg
    subst hg
    simp only[Rep] at hr
    obtain⟨_,_,hr⟩:=hr
    obtain⟨b,c',_,rfl⟩:=hr ag ks rows f hx
    exact⟨.cons h0 .nil,[],rfl,fun _=>rfl⟩
   ·simp[Prog.run] at hn
 |sc x=>
  simp only[Rep] at hr
  subst hr
  cases u with
  |agg us=>
   refine⟨⟨by simp[cellsA,Value.cells],fun j a v h1 h2=>?_⟩,us.toList,by simp[aggA],fun h=>by simp[aggA] at h⟩
   simp only[cellsA,List.getElem?_map] at h1
   simp only[Value.cells] at h2
   rw[h2] at h1
   cases h1
   simp only[Rep]
  |_=>exact⟨.cons (by simp only[Rep]) .nil,[],rfl,fun _=>rfl⟩
 |sl f sz rows=>
  simp only[Rep,RepD] at hr
  obtain⟨A,cap,rfl,_⟩:=hr
  exact⟨.cons h0 .nil,[],rfl,fun _=>rfl⟩
 |dp c o=>
  simp only[Rep,RepD] at hr
  obtain⟨b,o,us,rfl,_⟩:=hr
  exact⟨.cons h0 .nil,[],rfl,fun _=>rfl⟩
 |agg cs=>
  simp only[Rep] at hr
  obtain⟨us,rfl,hr⟩:=hr
  exact⟨(RepL_iff _ _).1 hr,us,rfl,fun h=>by simp[aggA] at h⟩
 |tup cs=>
  simp only[Rep] at hr
  obtain⟨us,rfl,hr⟩:=hr
  exact⟨.cons h0 .nil,[],rfl,fun _=>rfl⟩
 |fn f cs=>
  simp only[Rep] at hr
  obtain⟨us,rfl,hr⟩:=hr
  exact⟨.cons h0 .nil,[],rfl,fun _=>rfl⟩
 |vec sz rows=>simp[Rep] at hr
 |own x g n=>
  simp only[chk,Prog.run] at hn
  cases hx:hp x with
  |no g'=>rw[hx] at hn;simp[Prog.run,AObj.head] at hn
  |map _ _ _ _ _=>rw[hx] at hn;simp[Prog.run,AObj.head] at hn
  |box g' c f=>rw[hx] at hn;simp[Prog.run,AObj.head] at hn
  |arr g' sz e rows f=>
   rw[hx] at hn
   simp only[AObj.head] at hn
   split at hn
   ·rename_i hg
    subst hg
    simp only[Rep] at hr
    obtain⟨_,_,hr⟩:=hr
    obtain⟨_,hr⟩:=hr sz e rows f hx
    rcases hr with⟨_,rfl,_⟩|⟨b,cap,_,rfl⟩
    ·exact⟨.cons h0 .nil,[],rfl,fun _=>rfl⟩
    ·exact⟨.cons h0 .nil,[],rfl,fun _=>rfl⟩
   ·simp[Prog.run] at hn
/-! ### arguments -/
theorem arg_of {J:Nat→Prop}{t:TypeId}{v:AV}{u:Value}{us:List Value}{cs:List AV}{hp1:Hp}{a:AV}(ha:aggA v=isAggB P t)(hu:u=(if aggA v then .agg ⟨us⟩ else u))(hu2:aggA v=false→u.cells.toList=[u])
  (hd:AllR (RepD J w) cs u.cells.toList) (h:(oneV (isAggB P t) cs).run hp1=some (a,hp')):hp'=hp1∧RepA J w a u:=by
 rw[←ha] at h
 unfold oneV at h
 cases hb:aggA v with
 |true=>
  rw[hb] at h hu
  simp only[if_true,Prog.run,Option.some.injEq,Prod.mk.injEq] at h hu
  obtain⟨rfl,rfl⟩:=h
  refine⟨rfl,us,hu,?_⟩
  rw[RepDL_iff]
  rw[hu] at hd
  exact hd
 |false=>
  rw[hb] at h
  rw[hu2 hb] at hd
  simp only[Bool.false_eq_true,if_false] at h
  split at h
  ·simp only[Prog.run,Option.some.injEq,Prod.mk.injEq] at h
   obtain⟨rfl,rfl⟩:=h
   obtain⟨v1,vs,e1,h1,_⟩:=hd.cons_inv
   cases e1
   refine⟨rfl,?_⟩
   unfold RepA
   split
   ·simp[RepD] at h1
   ·exact h1
  ·simp[Prog.run] at h
theorem repA_of {J:Nat→Prop}{a:AV}{u:Value}(h:RepD J w a u):RepA J w a u:=by
 unfold RepA
 split
 ·simp[RepD] at h
 ·exact h
theorem args_frz : ∀{ts:List TypeId} {as as':List AV} {us:List Value} {I:Nat→Prop} {hp hp':Hp},Gam I K m hp w→AllR (Rep k I m hp w) as us→(argsP P true ts as).run hp=some (as',hp')→
  ∃I',Gam I' K m hp' w∧Ext I K m hp w I' m hp' w∧AllR (RepA I' w) as' us
 |[],[],as',us,I,hp,hp',G,hr,h=>by
  simp only[argsP,Prog.run,Option.some.injEq,Prod.mk.injEq] at h
  obtain⟨rfl,rfl⟩:=h
  have:us=[]:=List.eq_nil_of_length_eq_zero (by rw[←hr.1];rfl)
  subst this
  exact⟨I,G,.refl _ _ _ _ _,.nil⟩
 |[],v::vs,as',us,I,hp,hp',G,hr,h=>by
  obtain⟨u,us',rfl,h1,h2⟩:=hr.cons_inv
  simp only[argsP] at h
  obtain⟨a,hp1,r1,h3⟩:=run_bind_some h
  clear h
  obtain⟨r,hp2,r2,h4⟩:=run_bind_some h3
  clear h3
  simp only[Prog.run,Option.some.injEq,Prod.mk.injEq] at h4
  obtain⟨rfl,rfl⟩:=h4
  obtain⟨I1,G1,E1,d1,_⟩:=capD_frz G h1 r1
  obtain⟨I2,G2,E2,d2⟩:=args_frz G1 (h2.imp fun a u h=>Rep.mono E1 k a u h) r2
  exact⟨I2,G2,E1.trans E2,.cons (repA_of (RepD.mono E2.isub (fun _ _=>rfl) _ _ d1)) d2⟩
 |_::_,[],_,_,_,_,_,_,_,h=>by simp[argsP,Prog.run] at h
 |t::ts,v::vs,as',us,I,hp,hp',G,hr,h=>by
  obtain⟨u,us',rfl,h1,h2⟩:=hr.cons_inv
  simp only[argsP] at h
  split at h
  case isFalse=>simp[Prog.run] at h
  rename_i hc
  obtain⟨hl,ha⟩:=hc
  obtain⟨x,hp0,r0,h3⟩:=run_bind_some h
  clear h
  obtain⟨rfl,hcl,us1,hu1,hu2⟩:=cells_ok r0 h1
  obtain⟨cs,hp1,r1,h4⟩:=run_bind_some h3
  clear h3
  obtain⟨r,hp2,r2,h5⟩:=run_bind_some h4
  clear h4
  obtain⟨I1,G1,E1,d1⟩:=toDatL_frz G hcl r1
  obtain⟨I2,G2,E2,d2⟩:=args_frz G1 (h2.imp fun a u h=>Rep.mono E1 k a u h) r2
  obtain⟨a,hp3,r3,h6⟩:=run_bind_some h5
  clear h5
  simp only[Prog.run,Option.some.injEq,Prod.mk.injEq] at h6
  obtain⟨rfl,ha2⟩:=arg_of ha hu1 hu2 (d1.imp fun a u h=>RepD.mono E2.isub (fun _ _=>rfl) _ _ h) r3
  obtain⟨rfl,rfl⟩:=h6
  exact⟨I2,G2,E1.trans E2,.cons ha2 d2⟩
theorem args_bor : ∀{ts:List TypeId} {as as':List AV} {us:List Value} {hp':Hp},Gam I K m hp w→AllR (Rep k I m hp w) as us→(argsP P false ts as).run hp=some (as',hp')→
  hp'=hp∧AllR (RepA (fun b=>I b∨LiveB m hp b) w) as' us
 |[],[],as',us,hp',G,hr,h=>by
  simp only[argsP,Prog.run,Option.some.injEq,Prod.mk.injEq] at h
  obtain⟨rfl,rfl⟩:=h
  have:us=[]:=List.eq_nil_of_length_eq_zero (by rw[←hr.1];rfl)
  subst this
  exact⟨rfl,.nil⟩
 |[],v::vs,as',us,hp',G,hr,h=>by
  obtain⟨u,us',rfl,h1,h2⟩:=hr.cons_inv
  simp only[argsP] at h
  obtain⟨a,hp1,r1,h3⟩:=run_bind_some h
  clear h
  obtain⟨r,hp2,r2,h4⟩:=run_bind_some h3
  clear h3
  simp only[Prog.run,Option.some.injEq,Prod.mk.injEq] at h4
  obtain⟨rfl,rfl⟩:=h4
  obtain⟨e1,d1⟩:=capD_bor G h1 r1
  rw[e1] at r2
  obtain⟨e2,d2⟩:=args_bor G h2 r2
  exact⟨e2,.cons (repA_of d1) d2⟩
 |_::_,[],_,_,_,_,_,h=>by simp[argsP,Prog.run] at h
 |t::ts,v::vs,as',us,hp',G,hr,h=>by
  obtain⟨u,us',rfl,h1,h2⟩:=hr.cons_inv
  simp only[argsP] at h
  split at h
  case isFalse=>simp[Prog.run] at h
  rename_i hc
  obtain⟨hl,ha⟩:=hc
  obtain⟨x,hp0,r0,h3⟩:=run_bind_some h
  clear h
  obtain⟨e0,hcl,us1,hu1,hu2⟩:=cells_ok r0 h1
  obtain⟨cs,hp1,r1,h4⟩:=run_bind_some h3
  clear h3
  obtain⟨r,hp2,r2,h5⟩:=run_bind_some h4
  clear h4
  rw[e0] at r1
  obtain⟨e1,d1⟩:=toDatL_bor G hcl r1
  rw[e1] at r2
  obtain⟨e2,d2⟩:=args_bor G h2 r2
  obtain⟨a,hp3,r3,h6⟩:=run_bind_some h5
  clear h5
  simp only[Prog.run,Option.some.injEq,Prod.mk.injEq] at h6
  obtain⟨e3,ha2⟩:=arg_of ha hu1 hu2 d1 r3
  obtain⟨rfl,rfl⟩:=h6
  rw[e2] at e3
  refine⟨e3,?_⟩
  exact .cons ha2 d2
/-! ### what came of a call -/
theorem takeCell_ok (G:Gam I K m hp w){y:Nm}(hy:y.d≤k){ct:TypeId}{a v:AV}{u:Value}{bs:List Nat}(hr:RepH P I K w ct a u bs)(hb: ∀b∈bs,¬LiveB m hp b)
  (h:(takeCell P ct y a).run hp=some (v,hp')):
  ∃m',Gam I K m' hp' w∧Ext I K m hp w I m' hp' w∧Rep k I m' hp' w v u∧(∀b,LiveB m' hp' b→LiveB m hp b∨b∈bs):=by
 have same: ∀(v:AV),RepD I w v u→hp'=hp→ ∃m',Gam I K m' hp' w∧Ext I K m hp w I m' hp' w∧Rep k I m' hp' w v u∧(∀b,LiveB m' hp' b→LiveB m hp b∨b∈bs):=
  fun v hd e=>by subst e;exact⟨m,G,.refl _ _ _ _ _,hd.rep,fun _ h=> .inl h⟩
 cases a with
 |vec sz rows=>
  simp only[takeCell] at h
  split at h
  ·rename_i e he
   simp only[Prog.run,Option.some.injEq,Prod.mk.injEq] at h
   obtain⟨rfl,rfl⟩:=h
   have hg:(hp y).gen<(AObj.arr ((hp y).gen+1) sz e rows false).gen:=by simp[AObj.gen]
   have live: ∀(p:Option (Nat×Nat)),(∀q,p=some q→q.1∈bs)→ ∀b,LiveB (upd m y p) (upd hp y (.arr ((hp y).gen+1) sz e rows false)) b→LiveB m hp b∨b∈bs:=by
    rintro p hp2 b ⟨x,q,hx,hq,rfl⟩
    by_cases hxy:x=y
    ·subst hxy;rw[upd_same] at hq;exact .inr (hp2 q hq)
    ·rw[upd_other _ _ hxy] at hx hq;exact .inl ⟨x,q,hx,hq,rfl⟩
   rcases hr with⟨rfl,rfl,rfl⟩|⟨b,cap,us,mk,e',rfl,rfl,h3,h4,h5,h6,h7,h8,h9,h10,h11⟩
   ·obtain⟨G2,E2⟩:=G.virt y sz e
    refine⟨_,G2,E2,?_,live none (fun q hq=>by cases hq)⟩
    simp only[Rep]
    refine⟨hy,by rw[upd_same];exact Nat.le_refl _,fun sz e' rows' fz hx=>?_⟩
    rw[upd_same] at hx
    cases hx
    exact⟨Nat.le_refl _,.inl ⟨upd_same _ _ _,trivial,rfl⟩⟩
   ·rw[he] at h3
    cases h3
    have hW:WX I K w w:= .refl I K w
    refine⟨upd m y (some (b,cap)),G.bump hW (fun _ h=>h) hg (.inr ⟨b,cap,us,mk,upd_same _ _ _,h4,h5,h6,h7,h8,h9,fun h=>(by cases h),fun _=>⟨h10,h11⟩⟩) (fun _ _ _ _ _=>rfl) (fun _ _ _ _ _ _ h=>h) ?_ G.ilt G.ik,.bump hW (fun _ h=>h) hg,?_,live _ (fun q hq=>by cases hq;simp)⟩
    ·intro _ r hr2 x hx hl q hq e2
     cases hr2
     exact hb b (by simp) ⟨x,q,hl,hq,e2.symm⟩
    ·simp only[Rep]
     refine⟨hy,by rw[upd_same];exact Nat.le_refl _,fun sz e' rows' fz hx=>?_⟩
     rw[upd_same] at hx
     cases hx
     exact⟨Nat.le_refl _,.inr ⟨_,_,upd_same _ _ _,rfl⟩⟩
  ·simp[Prog.run] at h
 |sc x=>
  simp only[takeCell,Prog.run,Option.some.injEq,Prod.mk.injEq] at h
  obtain⟨rfl,rfl⟩:=h
  exact same _ hr.2 rfl
 |sl f sz rows=>
  simp only[takeCell,Prog.run,Option.some.injEq,Prod.mk.injEq] at h
  obtain⟨rfl,rfl⟩:=h
  exact same _ hr.2 rfl
 |dp c o=>
  simp only[takeCell,Prog.run,Option.some.injEq,Prod.mk.injEq] at h
  obtain⟨rfl,rfl⟩:=h
  exact same _ hr.2 rfl
 |fn f caps=>
  simp only[takeCell,Prog.run,Option.some.injEq,Prod.mk.injEq] at h
  obtain⟨rfl,rfl⟩:=h
  exact same _ hr.2 rfl
 |dmp ag ks rows=>
  simp only[takeCell,Prog.run,Option.some.injEq,Prod.mk.injEq] at h
  obtain⟨rfl,rfl⟩:=h
  exact same _ hr.2 rfl
 |any|ptr|eptr|agg|tup|own|bsl|mp=>simp[takeCell,Prog.run] at h
theorem takeL_ok {d:Nat}: ∀{c:Nat} {cts:List TypeId} {as as':List AV} {us:List Value} {bs:List Nat} {m:Mp} {hp hp':Hp},Gam I K m hp w→RepHL P I K w cts as us bs→bs.Nodup→(∀b∈bs,¬LiveB m hp b)→
  (takeL P k d c cts as).run hp=some (as',hp')→
  ∃m',Gam I K m' hp' w∧Ext I K m hp w I m' hp' w∧AllR (Rep k I m' hp' w) as' us∧(∀b,LiveB m' hp' b→LiveB m hp b∨b∈bs)
 |c,cts,[],as',us,bs,m,hp,hp',G,hr,hn,hb,h=>by
  have e:us=[]∧bs=[]:=by cases cts<;>simpa[RepHL] using hr
  obtain⟨rfl,rfl⟩:=e
  cases cts<;>simp only[takeL,Prog.run,Option.some.injEq,Prod.mk.injEq] at h<;>obtain⟨rfl,rfl⟩:=h<;>exact⟨m,G,.refl _ _ _ _ _,.nil,fun _ h=> .inl h⟩
 |c,[],a::as,_,_,_,_,_,_,_,_,_,_,h=>by simp[takeL,Prog.run] at h
 |c,t::ts,a::as,as',us,bs,m,hp,hp',G,hr,hn,hb,h=>by
  simp only[RepHL] at hr
  obtain⟨u,us',b1,b2,rfl,rfl,h1,h2⟩:=hr
  simp only[takeL] at h
  obtain⟨v1,hp1,r1,h3⟩:=run_bind_some h
  clear h
  obtain⟨vs,hp2,r2,h4⟩:=run_bind_some h3
  clear h3
  simp only[Prog.run,Option.some.injEq,Prod.mk.injEq] at h4
  obtain⟨rfl,rfl⟩:=h4
  rw[List.nodup_append] at hn
  obtain⟨n1,n2,n3⟩:=hn
  obtain⟨m1,G1,E1,d1,l1⟩:=takeCell_ok G (Nat.le_refl _) h1 (fun b hb1=>hb b (List.mem_append.2 (.inl hb1))) r1
  obtain⟨m2,G2,E2,d2,l2⟩:=takeL_ok G1 h2 n2 (fun b hb2 hl=>(l1 b hl).elim (hb b (List.mem_append.2 (.inr hb2))) (fun hb1=>n3 b hb1 b hb2 rfl)) r2
  refine⟨m2,G2,E1.trans E2,.cons (Rep.mono E2 _ _ _ d1) d2,fun b hb3=>?_⟩
  rcases l2 b hb3 with h|h
  ·rcases l1 b h with h|h
   ·exact .inl h
   ·exact .inr (List.mem_append.2 (.inl h))
  ·exact .inr (List.mem_append.2 (.inr h))
theorem RepH.anyK {bs:List Nat}(hI: ∀b∈bs,¬K b){ct:TypeId}{a:AV}{u:Value}(h:RepH P I (fun _=>False) w ct a u bs):RepH P I K w ct a u bs:=by
 cases a with
 |vec sz rows=>
  rcases h with h|⟨b,cap,us,mk,e,h1,h2,h3,h4,h5,h6,h7,h8,h9,h10,h11⟩
  ·exact .inl h
  ·exact .inr ⟨b,cap,us,mk,e,h1,h2,h3,h4,h5,h6,h7,h8,h9,h10,hI b (by rw[h1];simp)⟩
 |_=>exact h
theorem RepHL.anyK : ∀{cts:List TypeId} {as:List AV} {us:List Value} {bs:List Nat},(∀b∈bs,¬K b)→RepHL P I (fun _=>False) w cts as us bs→RepHL P I K w cts as us bs
 |cts,[],_,_,_,h=>by cases cts<;>simpa[RepHL] using h
 |[],_::_,_,_,_,h=>by simp[RepHL] at h
 |t::ts,a::as,us,bs,hk,h=>by
  simp only[RepHL] at h⊢
  obtain⟨u,us',b1,b2,rfl,rfl,h1,h2⟩:=h
  exact⟨u,us',b1,b2,rfl,rfl,RepH.anyK (fun b hb=>hk b (List.mem_append.2 (.inl hb))) h1,RepHL.anyK (fun b hb=>hk b (List.mem_append.2 (.inr hb))) h2⟩
theorem takeOne_ok (G:Gam I K m hp w){d c:Nat}{t:TypeId}{a v:AV}{u:Value}{bs:List Nat}(hr:RepRes P I w t a u bs)(hk: ∀b∈bs,¬K b)(hn:bs.Nodup)(hb: ∀b∈bs,¬LiveB m hp b)
  (h:(takeOne P k d c t a).run hp=some (v,hp')):
  ∃m',Gam I K m' hp' w∧Ext I K m hp w I m' hp' w∧Rep k I m' hp' w v u∧(∀b,LiveB m' hp' b→LiveB m hp b∨b∈bs):=by
 unfold takeOne at h
 split at h
 case isFalse=>simp[Prog.run] at h
 unfold RepRes at hr
 split at h
 ·rename_i hagg
  rw[if_pos hagg] at hr
  obtain⟨cs,us,rfl,rfl,hr⟩:=hr
  obtain⟨cs',hp1,r1,h2⟩:=run_bind_some h
  clear h
  simp only[Prog.run,Option.some.injEq,Prod.mk.injEq] at h2
  obtain⟨rfl,rfl⟩:=h2
  obtain⟨m',G',E',d',l'⟩:=takeL_ok G (hr.anyK hk) hn hb r1
  refine⟨m',G',E',?_,l'⟩
  simp only[Rep]
  exact⟨us,rfl,(RepL_iff _ _).2 d'⟩
 ·rename_i hagg
  rw[if_neg hagg] at hr
  exact takeCell_ok G (Nat.le_refl _) (RepH.anyK hk hr) hb h
theorem takeAll_ok {d:Nat}: ∀{c:Nat} {ts:List TypeId} {as as':List AV} {us:List Value} {bs:List Nat} {m:Mp} {hp hp':Hp},Gam I K m hp w→RepResL P I w ts as us bs→(∀b∈bs,¬K b)→bs.Nodup→(∀b∈bs,¬LiveB m hp b)→
  (takeAll P k d c ts as).run hp=some (as',hp')→
  ∃m',Gam I K m' hp' w∧Ext I K m hp w I m' hp' w∧AllR (Rep k I m' hp' w) as' us∧(∀b,LiveB m' hp' b→LiveB m hp b∨b∈bs)
 |c,[],[],as',us,bs,m,hp,hp',G,hr,hk,hn,hb,h=>by
  simp only[RepResL] at hr
  obtain⟨rfl,rfl⟩:=hr
  simp only[takeAll,Prog.run,Option.some.injEq,Prod.mk.injEq] at h
  obtain⟨rfl,rfl⟩:=h
  exact⟨m,G,.refl _ _ _ _ _,.nil,fun _ h=> .inl h⟩
 |c,[],_::_,_,_,_,_,_,_,_,_,_,_,_,h=>by simp[takeAll,Prog.run] at h
 |c,_::_,[],_,_,_,_,_,_,_,_,_,_,_,h=>by simp[takeAll,Prog.run] at h
 |c,t::ts,a::as,as',us,bs,m,hp,hp',G,hr,hk,hn,hb,h=>by
  simp only[RepResL] at hr
  obtain⟨u,us',b1,b2,rfl,rfl,h1,h2⟩:=hr
  simp only[takeAll] at h
  obtain⟨v1,hp1,r1,h3⟩:=run_bind_some h
  clear h
  obtain⟨vs,hp2,r2,h4⟩:=run_bind_some h3
  clear h3
  simp only[Prog.run,Option.some.injEq,Prod.mk.injEq] at h4
  obtain⟨rfl,rfl⟩:=h4
  rw[List.nodup_append] at hn
  obtain⟨n1,n2,n3⟩:=hn
  obtain⟨m1,G1,E1,d1,l1⟩:=takeOne_ok G h1 (fun b hb1=>hk b (List.mem_append.2 (.inl hb1))) n1 (fun b hb1=>hb b (List.mem_append.2 (.inl hb1))) r1
  obtain⟨m2,G2,E2,d2,l2⟩:=takeAll_ok G1 h2 (fun b hb2=>hk b (List.mem_append.2 (.inr hb2))) n2 (fun b hb2 hl=>(l1 b hl).elim (hb b (List.mem_append.2 (.inr hb2))) (fun hb1=>n3 b hb1 b hb2 rfl)) r2
  refine⟨m2,G2,E1.trans E2,.cons (Rep.mono E2 _ _ _ d1) d2,fun b hb3=>?_⟩
  rcases l2 b hb3 with h|h
  ·rcases l1 b h with h|h
   ·exact .inl h
   ·exact .inr (List.mem_append.2 (.inl h))
  ·exact .inr (List.mem_append.2 (.inr h))
theorem RepResL.length : ∀{ts:List TypeId} {as:List AV} {us:List Value} {bs:List Nat},RepResL P I w ts as us bs→us.length=ts.length∧as.length=ts.length
 |[],[],_,_,h=>by simp only[RepResL] at h;simp[h.1]
 |[],_::_,_,_,h=>by simp[RepResL] at h
 |_::_,[],_,_,h=>by simp[RepResL] at h
 |t::ts,a::as,us,bs,h=>by
  simp only[RepResL] at h
  obtain⟨u,us',b1,b2,rfl,rfl,h1,h2⟩:=h
  have:=RepResL.length h2
  simp[this.1,this.2]
theorem takeRes_ok (G:Gam I K m hp w){d:Nat}{ts:List TypeId}{as:List AV}{us:List Value}{bs:List Nat}{v:AV}(hr:RepResL P I w ts as us bs)(hk: ∀b∈bs,¬K b)(hn:bs.Nodup)(hb: ∀b∈bs,¬LiveB m hp b)
  (h:(takeRes P k d ts as).run hp=some (v,hp')):
  ∃m',Gam I K m' hp' w∧Ext I K m hp w I m' hp' w∧Rep k I m' hp' w v (retV us):=by
 unfold takeRes at h
 split at h
 ·simp only[RepResL] at hr
  obtain⟨u,us',b1,b2,rfl,rfl,h1,rfl,rfl⟩:=hr
  obtain⟨m',G',E',d',l'⟩:=takeOne_ok G h1 (fun b h=>hk b (by simpa using h)) (by simpa using hn) (fun b h=>hb b (by simpa using h)) h
  exact⟨m',G',E',d'⟩
 ·rename_i hne
  obtain⟨vs,hp1,r1,h2⟩:=run_bind_some h
  clear h
  simp only[Prog.run,Option.some.injEq,Prod.mk.injEq] at h2
  obtain⟨rfl,rfl⟩:=h2
  obtain⟨m',G',E',d',l'⟩:=takeAll_ok G hr hk hn hb r1
  refine⟨m',G',E',?_⟩
  have hl:=hr.length
  have hus:retV us= .tuple ⟨us⟩:=by
   match us,hl with
   |[],_=>rfl
   |[x],⟨h1,h2⟩=>
    exfalso
    match ts,as,h1,h2 with
    |[t],[a],_,_=>exact hne t a rfl rfl
   |_::_::_,_=>rfl
  rw[hus]
  simp only[Rep]
  exact⟨us,rfl,(RepL_iff _ _).2 d'⟩
end
end
section
open Go
theorem run_part {P:Program}{w:World}{t:TypeId}{us:List Value}{off:Nat}{v:Value}(ha:isAggB P t=false)(ho:tOk P t=true)(hv:us[off]?=some v):(part t ⟨us⟩ off).run P w= .ok v w:=by
 unfold tOk at ho
 simp only[Bool.and_eq_true] at ho
 obtain⟨_,hu⟩:=ho
 obtain⟨d,hd⟩:=Option.isSome_iff_exists.1 hu
 have hg:(isAgg t).run P w= .ok false w:=by
  unfold isAggB at ha
  rw[hd] at ha
  unfold isAgg
  rw[Sem.run_bind,run_underlying hd]
  cases d<;>simp at ha<;>rfl
 simp[part,Sem.run_bind,hg,Result.andThen,hv]
theorem cell_eq {P:Program}{w:World}{t:TypeId}{d:Nat}{u v:Value}{r:Bool}(h1:cellFits P t (.sc u)=true)(h2:cellFits P t (.sc v)=true)(h:eqV (.sc u) (.sc v)=some r):(Op.equalIn (d+1) t u v).run P w= .ok r w:=by
 unfold eqV at h
 split at h
 ·rename_i k a k' a' e1 e2
  cases e1;cases e2
  split at h
  ·rename_i hk
   subst hk
   cases h
   simp only[cellFits] at h1
   obtain⟨q,hq⟩:=Option.isSome_iff_exists.1 h1
   unfold intK at hq
   split at hq
   ·rename_i hu;exact run_equalIn_int w d t k _ a a' hu
   ·cases hq
  ·cases h
 ·rename_i a a' e1 e2
  cases e1;cases e2
  cases h
  simp only[cellFits,strB] at h1
  split at h1
  ·rename_i hu
   rw[run_equalIn_string w d t a a' hu,ByteArray.toList_eq,ByteArray.toList_eq]
   congr 1
   rw[Bool.eq_iff_iff]
   simp only[beq_iff_eq,decide_eq_true_eq]
   constructor
   ·intro e;exact ByteArray.ext (Array.ext' e)
   ·intro e;rw[e]
  ·cases h1
 ·rename_i a a' e1 e2
  cases e1;cases e2
  cases h
  simp only[cellFits,bolB] at h1
  split at h1
  ·rename_i hu;exact run_equalIn_bool' w d t a a' hu
  ·cases h1
 ·cases h
theorem run_part_arr {P:Program}{w:World}{t e:TypeId}{n:Nat}{i:TypeInfo}{us:List Value}{off:Nat}(hu:P.underlying t=some (.array n e))(hi:P.info? t=some i):(part t ⟨us⟩ off).run P w= .ok (.agg ((⟨us⟩:Array Value).extract off (off+P.cellsOf t))) w:=by
 simp[part,isAgg,run_underlying hu,run_sizeOf w hi]
theorem eqL_split : ∀(n:Nat) {xs ys:List AV} {b:Bool},eqL xs ys=some b→ ∃p q,eqL (xs.take n) (ys.take n)=some p∧eqL (xs.drop n) (ys.drop n)=some q∧b=(p&&q)
 |0,xs,ys,b,h=>⟨true,b,by simp[eqL],by simpa using h,by simp⟩
 |n+1,[],[],b,h=>by simp only[eqL,Option.some.injEq] at h;subst h;exact⟨true,true,by simp[eqL],by simp[eqL],rfl⟩
 |n+1,x::xs,y::ys,b,h=>by
  simp only[eqL] at h
  split at h
  ·rename_i u v hv hl
   cases h
   obtain⟨p,q,h1,h2,rfl⟩:=eqL_split n hl
   exact⟨u&&p,q,by simp only[List.take_succ_cons,eqL,hv,h1],by simpa using h2,by simp[Bool.and_assoc]⟩
  ·cases h
 |n+1,[],_::_,_,h=>by simp[eqL] at h
 |n+1,_::_,[],_,h=>by simp[eqL] at h
theorem fitsL_split {P:Program}: ∀{ts ts':List TypeId} {xs:List AV},fitsL P (ts++ts') xs=true→fitsL P ts (xs.take ts.length)=true∧fitsL P ts' (xs.drop ts.length)=true
 |[],ts',xs,h=>⟨by simp[fitsL],by simpa using h⟩
 |t::ts,ts',[],h=>by simp[fitsL] at h
 |t::ts,ts',x::xs,h=>by
  simp only[List.cons_append,fitsL,Bool.and_eq_true] at h
  obtain⟨h1,h2⟩:=fitsL_split h.2
  exact⟨by simp only[List.length_cons,List.take_succ_cons,fitsL,h.1,h1,Bool.and_self],by simpa using h2⟩
theorem get_drop {us:List Value}{k:Nat}{x:Value}{xs:List Value}(h:us.drop k=x::xs):us[k]?=some x∧us.drop (k+1)=xs:=by
 refine⟨by have:=List.getElem?_drop (xs:=us) (i:=k) (j:=0);rw[h] at this;simpa using this.symm,by rw[←List.drop_drop,h];rfl⟩
theorem items_eq {P:Program}{w:World}{d:Nat}{e:TypeId}(ha:isAggB P e=false)(ht:tOk P e=true)(us vs:List Value): ∀(m k:Nat) (b:Bool),fitsL P (List.replicate m e) ((us.drop k).map .sc)=true→fitsL P (List.replicate m e) ((vs.drop k).map .sc)=true→
  eqL ((us.drop k).map .sc) ((vs.drop k).map .sc)=some b→(Op.eqItems (d+1) e 1 ⟨us⟩ ⟨vs⟩ (List.range' k m)).run P w= .ok b w
 |0,k,b,h1,h2,h=>by
  cases hu:us.drop k with
  |cons x xs=>rw[hu] at h1;simp[fitsL] at h1
  |nil=>
   cases hv:vs.drop k with
   |cons x xs=>rw[hv] at h2;simp[fitsL] at h2
   |nil=>
    rw[hu,hv] at h
    simp only[List.map_nil,eqL,Option.some.injEq] at h
    subst h
    simp[Op.eqItems]
 |m+1,k,b,h1,h2,h=>by
  cases hu:us.drop k with
  |nil=>rw[hu] at h1;simp[fitsL,List.replicate_succ] at h1
  |cons x xs=>
   cases hv:vs.drop k with
   |nil=>rw[hv] at h2;simp[fitsL,List.replicate_succ] at h2
   |cons y ys=>
    obtain⟨hx,hxs⟩:=get_drop hu
    obtain⟨hy,hys⟩:=get_drop hv
    rw[hu] at h1 h
    rw[hv] at h2 h
    simp only[List.map_cons,List.replicate_succ,fitsL,Bool.and_eq_true] at h1 h2
    simp only[List.map_cons,eqL] at h
    split at h
    ·rename_i p q hp hq
     cases h
     have hc:=cell_eq (w:=w) (d:=d) h1.1 h2.1 hp
     have ih:=items_eq (w:=w) (d:=d) ha ht us vs m (k+1) q (by rw[hxs];exact h1.2) (by rw[hys];exact h2.2) (by rw[hxs,hys];exact hq)
     rw[List.range'_succ]
     unfold Op.eqItems
     simp only[Nat.mul_one,Sem.run_bind,run_part ha ht hx,run_part ha ht hy,Result.andThen_ok,hc]
     cases p with
     |true=>simpa using ih
     |false=>simp
    ·cases h
theorem arr_eq {P:Program}{w:World}{d:Nat}{t:TypeId}(h:arrPl P t=true)(us vs:List Value)(b:Bool)(h1:fitsL P (typesOf P t) (us.map .sc)=true)(h2:fitsL P (typesOf P t) (vs.map .sc)=true)(h3:eqL (us.map .sc) (vs.map .sc)=some b):
  (Op.equalIn (d+2) t (.agg ⟨us⟩) (.agg ⟨vs⟩)).run P w= .ok b w:=by
 unfold arrPl at h
 split at h
 ·rename_i n e hu
  simp only[Bool.and_eq_true,Bool.not_eq_true',beq_iff_eq] at h
  obtain⟨⟨⟨⟨⟨ha,ht⟩,hs⟩,hn⟩,hi⟩,_⟩:=h
  obtain⟨i,hi⟩:=Option.isSome_iff_exists.1 hi
  unfold typesOf at h1 h2
  rw[hu] at h1 h2
  rw[run_equalIn_array w (d+1) ⟨us⟩ ⟨vs⟩ hu hi,hs,List.range_eq_range']
  exact items_eq ha ht us vs n 0 b h1 h2 h3
 ·cases h
theorem eqV_fits {P:Program}{t:TypeId}{x y:AV}{b:Bool}(h1:cellFits P t x=true)(h:eqV x y=some b):cellFits P t y=true:=by
 unfold eqV at h
 split at h
 ·simpa only[cellFits] using h1
 ·simpa only[cellFits] using h1
 ·simpa only[cellFits] using h1
 ·cases h
theorem eqL_fits {P:Program}: ∀{ts:List TypeId} {xs ys:List AV} {b:Bool},fitsL P ts xs=true→eqL xs ys=some b→fitsL P ts ys=true
 |[],[],[],_,_,_=>rfl
 |t::ts,x::xs,y::ys,b,h1,h=>by
  simp only[fitsL,Bool.and_eq_true] at h1⊢
  simp only[eqL] at h
  split at h
  ·rename_i p q hv hl
   exact⟨eqV_fits h1.1 hv,eqL_fits h1.2 hl⟩
  ·cases h
 |[],_::_,_,_,h,_=>by simp[fitsL] at h
 |_::_,[],_,_,h,_=>by simp[fitsL] at h
 |_,[],_::_,_,_,h=>by simp[eqL] at h
 |_,_::_,[],_,_,h=>by simp[eqL] at h
theorem eqV_true {u v:Value}(h:eqV (.sc u) (.sc v)=some true):v=u:=by
 unfold eqV at h
 split at h
 ·rename_i k a k' a' e1 e2
  cases e1;cases e2
  split at h
  ·rename_i hk;subst hk;simp only[Option.some.injEq,beq_iff_eq] at h;rw[h]
  ·cases h
 ·rename_i a a' e1 e2
  cases e1;cases e2
  simp only[Option.some.injEq,decide_eq_true_eq] at h;rw[h]
 ·rename_i a a' e1 e2
  cases e1;cases e2
  simp only[Option.some.injEq,beq_iff_eq] at h;rw[h]
 ·cases h
theorem eqL_true : ∀{us vs:List Value},eqL (us.map .sc) (vs.map .sc)=some true→vs=us
 |[],[],_=>rfl
 |u::us,v::vs,h=>by
  simp only[List.map_cons,eqL] at h
  split at h
  ·rename_i p q hv hl
   simp only[Option.some.injEq,Bool.and_eq_true] at h
   obtain⟨rfl,rfl⟩:=h
   rw[eqV_true hv,eqL_true hl]
  ·cases h
 |[],_::_,h=>by simp[eqL] at h
 |_::_,[],h=>by simp[eqL] at h
theorem checkKey_cell {P:Program}{w:World}{e:TypeId}{v:Value}(h:cellFits P e (.sc v)=true)(em:Bool)(n:Nat):(Instr.checkKey em (n+1) e v).run P w= .ok () w:=by
 unfold cellFits at h
 split at h
 ·rename_i h0;cases h0
  obtain⟨q,hq⟩:=Option.isSome_iff_exists.1 h
  unfold intK at hq
  split at hq
  ·rename_i hu;unfold Instr.checkKey;simp[run_underlying hu]
  ·cases hq
 ·rename_i h0;cases h0
  unfold strB at h
  split at h
  ·rename_i hu;unfold Instr.checkKey;simp[run_underlying hu]
  ·cases h
 ·rename_i h0;cases h0
  unfold bolB at h
  split at h
  ·rename_i hu;unfold Instr.checkKey;simp[run_underlying hu]
  ·cases h
 ·cases h
theorem fits_get {P:Program}{e:TypeId}: ∀{n:Nat} {us:List Value} (j:Nat),fitsL P (List.replicate n e) (us.map .sc)=true→j<n→ ∃u,us[j]?=some u∧cellFits P e (.sc u)=true
 |0,us,j,_,hj=>absurd hj (Nat.not_lt_zero _)
 |n+1,[],j,h,_=>by simp[fitsL,List.replicate_succ] at h
 |n+1,u::us,0,h,_=>by
  simp only[List.replicate_succ,List.map_cons,fitsL,Bool.and_eq_true] at h
  exact⟨u,rfl,h.1⟩
 |n+1,u::us,j+1,h,hj=>by
  simp only[List.replicate_succ,List.map_cons,fitsL,Bool.and_eq_true] at h
  obtain⟨v,h1,h2⟩:=fits_get j h.2 (Nat.lt_of_succ_lt_succ hj)
  exact⟨v,by simpa using h1,h2⟩
theorem checkKey_arr {P:Program}{w:World}{t:TypeId}{us:List Value}(h:arrPl P t=true)(h1:fitsL P (typesOf P t) (us.map .sc)=true)(em:Bool)(n:Nat):(Instr.checkKey em (n+2) t (.agg ⟨us⟩)).run P w= .ok () w:=by
 unfold arrPl at h
 split at h
 ·rename_i len e hu
  simp only[Bool.and_eq_true,Bool.not_eq_true',beq_iff_eq] at h
  obtain⟨⟨⟨⟨⟨ha,ht⟩,hs⟩,hn⟩,hi⟩,_⟩:=h
  obtain⟨i,hi⟩:=Option.isSome_iff_exists.1 hi
  unfold typesOf at h1
  rw[hu] at h1
  rw[Instr.checkKey]
  simp only[Sem.run_bind,run_underlying hu,Result.andThen_ok]
  simp only[Std.Legacy.Range.forIn_eq_forIn_range',Std.Legacy.Range.size,Nat.sub_zero,Nat.add_one_sub_one,Nat.div_one]
  have each: ∀j∈List.range' 0 len,j<len:=fun j hj=>by simpa using hj
  generalize List.range' 0 len=is at each
  induction is with
  |nil=>simp
  |cons j is ih=>
   obtain⟨u,g1,g2⟩:=fits_get j h1 (each j (by simp))
   have hp:(part e ⟨us⟩ (j*P.cellsOf e)).run P w= .ok u w:=by rw[hs,Nat.mul_one];exact run_part ha ht g1
   have p2:=checkKey_cell (w:=w) g2 em n
   simp only[List.forIn_cons,Sem.run_bind,run_sizeOf w hi,Result.andThen_ok,hp,p2,Sem.run_pure]
   exact ih (fun y hy=>each y (by simp[hy]))
 ·cases h
theorem ba_beq (a b:ByteArray):(a==b)=decide (a=b):=by
 cases a with|mk x=>
 cases b with|mk y=>
 show(x==y)=_
 by_cases h:x=y
 ·subst h;simp
 ·simp[h]
theorem sameBits_cell {P:Program}{e:TypeId}{v:Value}(h:cellFits P e (.sc v)=true)(n:Nat):Instr.sameBits n v v=true:=by
 unfold cellFits at h
 split at h<;>first|(rename_i h0;cases h0;cases n<;>simp[Instr.sameBits,ba_beq])|cases h
theorem sameBits_list {P:Program}: ∀{ts:List TypeId} {us:List Value},fitsL P ts (us.map .sc)=true→ ∀n,((us.zip us).all fun(x,y)=>Instr.sameBits n x y)=true
 |[],[],_,n=>rfl
 |t::ts,u::us,h,n=>by
  simp only[List.map_cons,fitsL,Bool.and_eq_true] at h
  simp only[List.zip_cons_cons,List.all_cons,sameBits_cell h.1 n,Bool.true_and]
  exact sameBits_list h.2 n
 |[],_::_,h,_=>by simp[fitsL] at h
 |_::_,[],h,_=>by simp[fitsL] at h
theorem sameBits_arr {P:Program}{ts:List TypeId}{us:List Value}(h:fitsL P ts (us.map .sc)=true)(n:Nat):Instr.sameBits (n+1) (.agg ⟨us⟩) (.agg ⟨us⟩)=true:=by
 simp only[Instr.sameBits,beq_self_eq_true,Bool.true_and]
 exact sameBits_list h n
theorem findNow_arr {t:TypeId}{len:Nat}{e:TypeId}{us:List Value}{x:MapEntry}{es:List MapEntry}(i:Nat):Instr.findNow (.array len e) (.agg ⟨us⟩) (x::es) i=none:=by
 simp[Instr.findNow,Instr.sameNow]
theorem findAsk_arr {P:Program}{w:World}{t:TypeId}{us:List Value}(h:arrPl P t=true)(h1:fitsL P (typesOf P t) (us.map .sc)=true): ∀{es:List MapEntry} {i:Nat} {r:Option Nat},findK (.agg ⟨us⟩) (es.map (·.key)) i=some r→
  ∃r',(Instr.findAsking t (.agg ⟨us⟩) es i).run P w= .ok r' w∧match r with
   |none=>r'=none
   |some j=>i≤j∧ ∃e,es[j - i]?=some e∧e.key= .agg ⟨us⟩∧r'=some (j,e.val)
 |[],i,r,hf=>by
  simp only[List.map_nil,findK,Option.some.injEq] at hf
  subst hf
  exact⟨none,by simp[Instr.findAsking],rfl⟩
 |e::es,i,r,hf=>by
  simp only[List.map_cons,findK] at hf
  cases hk:e.key with
  |agg vs=>
   obtain⟨vs⟩:=vs
   rw[hk] at hf
   simp only[keyEq] at hf
   cases hq:eqL (us.map .sc) (vs.map .sc) with
   |none=>rw[hq] at hf;cases hf
   |some b=>
    rw[hq] at hf
    have heq:(Op.equal t (.agg ⟨us⟩) e.key).run P w= .ok b w:=by
     rw[hk]
     exact arr_eq (d:=9998) h us vs b h1 (eqL_fits h1 hq) hq
    cases b with
    |true=>
     simp only[Option.some.injEq] at hf
     subst hf
     refine⟨some (i,e.val),?_,Nat.le_refl _,e,by simp,?_,rfl⟩
     ·simp[Instr.findAsking,heq]
     ·rw[hk,eqL_true hq]
    |false=>
     simp only at hf
     obtain⟨r',g1,g2⟩:=findAsk_arr (w:=w) h h1 hf
     refine⟨r',by simp[Instr.findAsking,heq,g1],?_⟩
     cases r with
     |none=>exact g2
     |some j=>
      simp only at g2⊢
      obtain⟨hle,e',he,hq',hr⟩:=g2
      refine⟨by omega,e',?_,hq',hr⟩
      rw[show j - i=(j - (i+1))+1 from by omega,List.getElem?_cons_succ]
      exact he
  |_=>rw[hk] at hf;simp[keyEq] at hf
end
section
open Go
section
variable {P:Program}{I K:Nat→Prop}{m:Mp}{hp hp':Hp}{w:World}{k:Nat}
theorem mapT_ok {t kt e:TypeId}(h:mapT P t=some (kt,e)):P.underlying t=some (.map kt e):=by
 unfold mapT at h
 split at h
 ·rename_i h1;cases h;exact h1
 ·cases h
theorem RepMs_get {ag:Bool}: ∀{rows:List (List AV)} {vs:List Value} {j:Nat} {r:List AV},RepMs I w ag rows vs→rows[j]?=some r→
  ∃v us,vs[j]?=some v∧v=(if ag then .agg ⟨us⟩ else v)∧(ag=false→us=[v]∧v.oneCell'=true)∧RepDL I w r us
 |[],vs,j,r,h,hr=>by simp at hr
 |a::rows,vs,0,r,h,hr=>by
  simp only[RepMs] at h
  obtain⟨v,vt,us,rfl,h1,h2,h3,_⟩:=h
  simp only[List.getElem?_cons_zero,Option.some.injEq] at hr
  subst hr
  exact⟨v,us,rfl,h1,h2,h3⟩
 |a::rows,vs,j+1,r,h,hr=>by
  simp only[RepMs] at h
  obtain⟨v,vt,us,rfl,_,_,_,h4⟩:=h
  rw[List.getElem?_cons_succ] at hr⊢
  exact RepMs_get h4 hr
theorem RepMs_len {ag:Bool}: ∀{rows:List (List AV)} {vs:List Value},RepMs I w ag rows vs→rows.length=vs.length
 |[],vs,h=>by simp only[RepMs] at h;subst h;rfl
 |a::rows,vs,h=>by
  simp only[RepMs] at h
  obtain⟨v,vt,us,rfl,_,_,_,h4⟩:=h
  simp[RepMs_len h4]
theorem RepMs_app {ag:Bool}{r:List AV}{v:Value}{us:List Value}(h1:v=(if ag then .agg ⟨us⟩ else v))(h2:ag=false→us=[v]∧v.oneCell'=true)(h3:RepDL I w r us): ∀{rows:List (List AV)} {vs:List Value},RepMs I w ag rows vs→RepMs I w ag (rows++[r]) (vs++[v])
 |[],vs,h=>by
  simp only[RepMs] at h;subst h
  simp only[List.nil_append,RepMs]
  exact⟨v,[],us,rfl,h1,h2,h3,rfl⟩
 |a::rows,vs,h=>by
  simp only[RepMs] at h
  obtain⟨v',vt,us',rfl,q1,q2,q3,q4⟩:=h
  simp only[List.cons_append,RepMs]
  exact⟨v',_,us',rfl,q1,q2,q3,RepMs_app h1 h2 h3 q4⟩
theorem RepMs_set {ag:Bool}{r:List AV}{v:Value}{us:List Value}(h1:v=(if ag then .agg ⟨us⟩ else v))(h2:ag=false→us=[v]∧v.oneCell'=true)(h3:RepDL I w r us): ∀{rows:List (List AV)} {vs:List Value} (j:Nat),RepMs I w ag rows vs→RepMs I w ag (rows.set j r) (vs.set j v)
 |[],vs,j,h=>by simp only[RepMs] at h;subst h;simp[RepMs]
 |a::rows,vs,0,h=>by
  simp only[RepMs] at h
  obtain⟨v',vt,us',rfl,q1,q2,q3,q4⟩:=h
  simp only[List.set_cons_zero,RepMs]
  exact⟨v,vt,us,rfl,h1,h2,h3,q4⟩
 |a::rows,vs,j+1,h=>by
  simp only[RepMs] at h
  obtain⟨v',vt,us',rfl,q1,q2,q3,q4⟩:=h
  simp only[List.set_cons_succ,RepMs]
  exact⟨v',_,us',rfl,q1,q2,q3,RepMs_set h1 h2 h3 j q4⟩
theorem RepMs_nil {ag ag':Bool}{vs:List Value}(h:RepMs I w ag [] vs):RepMs I w ag' [] vs:=by simpa only[RepMs] using h
theorem mapRows_ok (G:Gam I K m hp w){x:AV}{u:Value}{ag:Bool}{ks:List Value}{rows:List (List AV)}(hr:Rep k I m hp w x u)(h:(mapRows P x).run hp=some ((ag,ks,rows),hp')):
  hp'=hp∧((u= .map none∧ks=[]∧rows=[])∨ ∃b es clock,u= .map (some b)∧w.heap[b]?=some (.map es clock)∧es.toList.map (·.key)=ks∧RepMs I w ag rows (es.toList.map (·.val))):=by
 unfold mapRows at h
 split at h
 ·simp only[Prog.run,Option.some.injEq,Prod.mk.injEq] at h
  obtain⟨⟨rfl,rfl,rfl⟩,rfl⟩:=h
  simp only[Rep] at hr
  exact⟨rfl,.inl ⟨hr,rfl,rfl⟩⟩
 ·simp only[Prog.run,Option.some.injEq,Prod.mk.injEq] at h
  obtain⟨⟨rfl,rfl,rfl⟩,rfl⟩:=h
  simp only[Rep,RepD] at hr
  obtain⟨b,es,clock,h1,_,h2,h3,h4⟩:=hr
  exact⟨rfl,.inr ⟨b,es,clock,h1,h2,h3,h4⟩⟩
 ·rename_i x g
  simp only[Prog.run] at h
  cases hx:hp x with
  |no g'=>rw[hx] at h;simp[Prog.run] at h
  |box g' c f=>rw[hx] at h;simp[Prog.run] at h
  |arr g' sz e rows f=>rw[hx] at h;simp[Prog.run] at h
  |map g' ag' ks' rows' f=>
   rw[hx] at h
   simp only at h
   split at h
   ·rename_i hg
    subst hg
    simp only[Prog.run,Option.some.injEq,Prod.mk.injEq] at h
    obtain⟨⟨rfl,rfl,rfl⟩,rfl⟩:=h
    have ho:=G.obj x
    rw[hx] at ho
    obtain⟨b,c,es,clock,h1,h2,h3,h4,_⟩:=ho
    simp only[Rep] at hr
    obtain⟨_,_,hr⟩:=hr
    obtain⟨b',c',hm,rfl⟩:=hr _ _ _ _ hx
    rw[h1] at hm;cases hm
    exact⟨rfl,.inr ⟨b,es,clock,rfl,h2,h3,h4⟩⟩
   ·simp[Prog.run] at h
 ·simp[Prog.run] at h
/-! ### keys -/
theorem keyOk_ok {kt:TypeId}{key:Value}(h:keyOk P kt key=true):(∃kd kk n,P.underlying kt=some (.int kd)∧key= .int kk n)∨(∃s,P.underlying kt=some .string∧key= .string s)∨(∃us:List Value,arrPl P kt=true∧fitsL P (typesOf P kt) (us.map .sc)=true∧key= .agg ⟨us⟩):=by
 unfold keyOk at h
 split at h
 ·rename_i kk n
  obtain⟨kd,hk⟩:=Option.isSome_iff_exists.1 h
  exact .inl ⟨kd,kk,n,intK_ok hk,rfl⟩
 ·exact .inr (.inl ⟨_,strB_ok h,rfl⟩)
 ·simp only[Bool.and_eq_true] at h
  exact .inr (.inr ⟨_,h.1,h.2,rfl⟩)
 ·cases h
theorem keyEq_now {kt:TypeId}{kd:TypeDesc}{key:Value}(hk:(∃kd kk n,P.underlying kt=some (.int kd)∧key= .int kk n)∨(∃s,P.underlying kt=some .string∧key= .string s))(hu:P.underlying kt=some kd){v:Value}{b:Bool}(h:keyEq key v=some b):Instr.sameNow kd key v=some b:=by
 rcases hk with⟨kd',kk,n,h1,rfl⟩|⟨s,h1,rfl⟩
 ·rw[h1] at hu;cases hu
  cases v<;>simp[keyEq] at h
  simp[Instr.sameNow,h]
 ·rw[h1] at hu;cases hu
  cases v<;>simp[keyEq] at h
  simp only[Instr.sameNow]
  rw[←h]
  rename_i s'
  rw[ba_beq]
theorem keyEq_true {key v:Value}(h:keyEq key v=some true):v=key:=by
 unfold keyEq at h
 split at h
 ·split at h
  ·rename_i hk;subst hk;simp only[Option.some.injEq,beq_iff_eq] at h;rw[h]
  ·cases h
 ·simp only[Option.some.injEq,decide_eq_true_eq] at h;rw[h]
 ·rename_i a b
  obtain⟨a⟩:=a
  obtain⟨b⟩:=b
  exact congrArg (fun l:List Value=>Value.agg ⟨l⟩) (eqL_true (us:=a) (vs:=b) h)
 ·cases h
theorem findK_now {kt:TypeId}{kd:TypeDesc}{key:Value}(hk:(∃kd kk n,P.underlying kt=some (.int kd)∧key= .int kk n)∨(∃s,P.underlying kt=some .string∧key= .string s))(hu:P.underlying kt=some kd): ∀{es:List MapEntry} {i:Nat} {r:Option Nat},findK key (es.map (·.key)) i=some r→
  match r with
  |none=>Instr.findNow kd key es i=some none
  |some j=>i≤j∧ ∃e,es[j - i]?=some e∧keyEq key e.key=some true∧Instr.findNow kd key es i=some (some (j,e.val))
 |[],i,r,h=>by
  simp only[List.map_nil,findK,Option.some.injEq] at h
  subst h
  rfl
 |e::es,i,r,h=>by
  simp only[List.map_cons,findK] at h
  cases hq:keyEq key e.key with
  |none=>rw[hq] at h;cases h
  |some b=>
   rw[hq] at h
   have hn:=keyEq_now hk hu hq
   cases b with
   |true=>
    simp only[Option.some.injEq] at h
    subst h
    exact⟨Nat.le_refl _,e,by simp,hq,by simp[Instr.findNow,hn]⟩
   |false=>
    simp only at h
    have ih:=findK_now hk hu h
    cases r with
    |none=>simp only at ih⊢;simp[Instr.findNow,hn,ih]
    |some j=>
     simp only at ih⊢
     obtain⟨hle,e',he,hq',hf⟩:=ih
     refine⟨by omega,e',?_,hq',by simp[Instr.findNow,hn,hf]⟩
     rw[show j - i=(j - (i+1))+1 from by omega,List.getElem?_cons_succ]
     exact he
theorem findK_ok {kt:TypeId}{key:Value}(hk:keyOk P kt key=true){es:List MapEntry}{r:Option Nat}(h:findK key (es.map (·.key)) 0=some r)(w:World):
  ∃r',(Instr.findKey kt key es).run P w= .ok r' w∧match r with
   |none=>r'=none
   |some j=> ∃e,es[j]?=some e∧e.key=key∧r'=some (j,e.val):=by
 have now: ∀kd,P.underlying kt=some kd→((∃kd kk n,P.underlying kt=some (.int kd)∧key= .int kk n)∨(∃s,P.underlying kt=some .string∧key= .string s))→ ∃r',(Instr.findKey kt key es).run P w= .ok r' w∧match r with
   |none=>r'=none
   |some j=> ∃e,es[j]?=some e∧e.key=key∧r'=some (j,e.val):=by
  intro kd hu hk
  have hf:=findK_now hk hu h
  cases r with
  |none=>
   simp only at hf
   exact⟨none,by simp[Instr.findKey,run_underlying hu,hf],rfl⟩
  |some j=>
   simp only at hf
   obtain⟨_,e,he,hq,hf⟩:=hf
   exact⟨_,by simp only[Instr.findKey,Sem.run_bind,run_underlying hu,Result.andThen_ok,hf,Sem.run_pure],e,by simpa using he,keyEq_true hq,rfl⟩
 rcases keyOk_ok hk with h1|h1|⟨us,ha,hfit,rfl⟩
 ·obtain⟨kd,kk,n,hu,rfl⟩:=h1
  exact now _ hu (.inl ⟨_,_,_,hu,rfl⟩)
 ·obtain⟨s,hu,rfl⟩:=h1
  exact now _ hu (.inr ⟨_,hu,rfl⟩)
 ·obtain⟨len,e,hu⟩: ∃len e,P.underlying kt=some (.array len e):=by
   unfold arrPl at ha
   split at ha
   ·rename_i hu;exact⟨_,_,hu⟩
   ·cases ha
  obtain⟨r',g1,g2⟩:=findAsk_arr (w:=w) ha hfit h
  refine⟨r',?_,?_⟩
  ·cases es with
   |nil=>
    simp only[List.map_nil,findK,Option.some.injEq] at h
    subst h
    simp only at g2
    subst g2
    simp[Instr.findKey,run_underlying hu,Instr.findNow]
   |cons x es=>
    simp only[Instr.findKey,Sem.run_bind,run_underlying hu,Result.andThen_ok,findNow_arr (t:=kt),g1]
  ·cases r with
   |none=>exact g2
   |some j=>
    simp only at g2⊢
    obtain⟨_,e,he,hq,hr⟩:=g2
    exact⟨e,by simpa using he,hq,hr⟩
theorem run_checkKey' {kt:TypeId}{key:Value}(hk:keyOk P kt key=true)(w:World)(b:Bool)(n:Nat):(Instr.checkKey b (n+2) kt key).run P w= .ok () w:=by
 rcases keyOk_ok hk with⟨kd',kk,m,h1,rfl⟩|⟨s,h1,rfl⟩|⟨us,ha,hfit,rfl⟩
 ·unfold Instr.checkKey;simp[run_underlying h1]
 ·unfold Instr.checkKey;simp[run_underlying h1]
 ·exact checkKey_arr ha hfit b n
theorem run_checkKey {kt:TypeId}{key:Value}(hk:keyOk P kt key=true)(w:World)(b:Bool):(Instr.checkKey b 10000 kt key).run P w= .ok () w:=run_checkKey' hk w b 9998
theorem plainL_ok : ∀{cs:List AV} {us vs:List Value},plainL cs=some vs→RepL k I m hp w cs us→us=vs
 |[],us,vs,h,hr=>by simp only[plainL,Option.some.injEq] at h;simp only[RepL] at hr;rw[hr,h]
 |a::cs,us,vs,h,hr=>by
  cases a<;>simp[plainL] at h
  obtain⟨q,hq,rfl⟩:=h
  simp only[RepL,Rep] at hr
  obtain⟨v,vt,rfl,rfl,h2⟩:=hr
  rw[plainL_ok hq h2]
theorem keyA_ok {i:AV}{key ui:Value}(h:keyA i=some key)(hr:Rep k I m hp w i ui):ui=key:=by
 unfold keyA at h
 split at h
 ·cases h;simpa only[Rep] using hr
 ·simp only[Option.map_eq_some_iff] at h
  obtain⟨us,h1,rfl⟩:=h
  simp only[Rep] at hr
  obtain⟨vs,rfl,h2⟩:=hr
  rw[plainL_ok h1 h2]
 ·cases h
theorem zeroV_ok {e:TypeId}{v:AV}(h:(zeroV P e).run hp=some (v,hp')):hp'=hp∧ ∃u,(zeroValue e).run P w= .ok u w∧Rep k I m hp w v u:=by
 unfold zeroV at h
 split at h
 ·rename_i z us hz hzz
  split at h
  case isFalse=>simp[Prog.run] at h
  rename_i hc
  simp only[Prog.run,Option.some.injEq,Prod.mk.injEq] at h
  obtain⟨rfl,rfl⟩:=h
  obtain⟨i,zv,h1,h2,_,_,_,_,h3⟩:=zrow_ok (I:=I) (w:=w) hz hc.2.1 hc.1
  rw[h1] at hzz
  simp only[Option.bind_some,h2,Option.some.injEq] at hzz
  subst hzz
  refine⟨rfl,.agg us,by simp[zeroValue,typeInfo,h1,h2],?_⟩
  simp only[Rep]
  refine⟨us.toList,rfl,(RepL_iff _ _).2 (h3.imp fun a u h=>RepD.rep h)⟩
 ·rename_i c zv hzr hz hzz
  split at h
  case isFalse=>simp[Prog.run] at h
  rename_i hc
  simp only[Prog.run,Option.some.injEq,Prod.mk.injEq] at h
  obtain⟨rfl,rfl⟩:=h
  obtain⟨i,zv',h1,h2,_,_,_,_,h3⟩:=zrow_ok (I:=I) (w:=w) hz (by simpa using hc.2.1) hc.1
  rw[h1] at hzz
  simp only[Option.bind_some,h2,Option.some.injEq] at hzz
  subst hzz
  refine⟨rfl,zv',by simp[zeroValue,typeInfo,h1,h2],?_⟩
  have hcell:zv'.cells.toList=[zv']:=by
   have:=hc.2.2.2
   cases zv'<;>first|rfl|simp[Value.oneCell'] at this
  rw[hcell] at h3
  obtain⟨u,us,e1,h4,_⟩:=h3.cons_inv
  cases e1
  exact h4.rep
 ·simp[Prog.run] at h
def seenV (z:Value):Option (Nat×Value)→Value×Bool
 |some (_,v)=>(v,true)
 |none=>(z,false)
theorem run_lookup {t kt e:TypeId}(hmu:P.underlying t=some (.map kt e)){key:Value}(hk:keyOk P kt key=true){u:Value}{es:Array MapEntry}{r:Option (Nat×Value)}
  (hs:(u= .map none∧es= #[])∨ ∃b clock,u= .map (some b)∧w.heap[b]?=some (.map es clock)) (hfk:(Instr.findKey kt key es.toList).run P w= .ok r w) {z:Value} (hz:r=none→(zeroValue e).run P w= .ok z w) (ok:Bool):
  (Instr.lookup t u key ok).run P w= .ok (if ok then .tuple #[(seenV z r).1,.bool (seenV z r).2] else(seenV z r).1) w:=by
 have hck:=run_checkKey (P:=P) hk w
 rcases hs with⟨rfl,rfl⟩|⟨b,clock,rfl,hb⟩
 ·cases r with
  |none=>simp[Instr.lookup,run_underlying hmu,hck,hfk,hz rfl,seenV]
  |some p=>simp[Instr.lookup,run_underlying hmu,hck,hfk,seenV]
 ·have hg:(getObj b).run P w= .ok (.map es clock) w:=by simp[getObj,Sem.run,hb]
  cases r with
  |none=>simp[Instr.lookup,run_underlying hmu,hck,hfk,hz rfl,seenV,hg]
  |some p=>simp[Instr.lookup,run_underlying hmu,hck,hfk,seenV,hg]
theorem row_one {ag:Bool}{r:List AV}{us:List Value}{v:Value}{a:AV}{hp1:Hp}(h1:v=(if ag then .agg ⟨us⟩ else v))(h2:ag=false→us=[v]∧v.oneCell'=true)(h3:RepDL I w r us)(h:(oneV ag r).run hp1=some (a,hp')):hp'=hp1∧Rep k I m hp w a v:=by
 unfold oneV at h
 cases ag with
 |true=>
  simp only[if_true,Prog.run,Option.some.injEq,Prod.mk.injEq] at h h1
  obtain⟨rfl,rfl⟩:=h
  refine⟨rfl,?_⟩
  rw[h1]
  simp only[Rep]
  exact⟨us,rfl,(RepL_iff _ _).2 (((RepDL_iff _ _).1 h3).imp fun a u h=>RepD.rep h)⟩
 |false=>
  obtain⟨rfl,_⟩:=h2 rfl
  simp only[Bool.false_eq_true,if_false] at h
  split at h
  ·simp only[Prog.run,Option.some.injEq,Prod.mk.injEq] at h
   obtain⟨rfl,rfl⟩:=h
   simp only[RepDL] at h3
   obtain⟨x,xs,e,h4,_⟩:=h3
   cases e
   exact⟨rfl,h4.rep⟩
  ·simp[Prog.run] at h
theorem lookup_ok (G:Gam I K m hp w){t:TypeId}{x i v:AV}{u ui:Value}{ok:Bool}(hr:Rep k I m hp w x u)(hri:Rep k I m hp w i ui)(h:(lookupP P t x ok i).run hp=some (v,hp')):
  hp'=hp∧ ∃r,(Instr.lookup t u ui ok).run P w= .ok r w∧Rep k I m hp w v r:=by
 unfold lookupP at h
 split at h
 case h_2=>simp[Prog.run] at h
 rename_i key hka
 have hri':=keyA_ok hka hri
 subst hri'
 split at h
 case h_2=>simp[Prog.run] at h
 rename_i kt e hmt
 have hmu:=mapT_ok hmt
 split at h
 case isFalse=>simp[Prog.run] at h
 rename_i hkk
 obtain⟨⟨ag,ks,rows⟩,hp1,r1,h2⟩:=run_bind_some h
 clear h
 obtain⟨e1,hm⟩:=mapRows_ok G hr r1
 rw[e1] at h2
 simp only at h2
 obtain⟨es,hs,hes,hvs⟩: ∃es:Array MapEntry,((u= .map none∧es= #[])∨ ∃b clock,u= .map (some b)∧w.heap[b]?=some (.map es clock))∧es.toList.map (·.key)=ks∧RepMs I w ag rows (es.toList.map (·.val)):=by
  rcases hm with⟨rfl,rfl,rfl⟩|⟨b,es,clock,rfl,q1,q2,q3⟩
  ·exact⟨#[],.inl ⟨rfl,rfl⟩,rfl,by simp[RepMs]⟩
  ·exact⟨es,.inr ⟨b,clock,rfl,q1⟩,q2,q3⟩
 subst hes
 split at h2
 ·rename_i j hj
  obtain⟨r',hfn,en,hen,_,rfl⟩:=findK_ok hkk hj w
  split at h2
  case h_2=>simp[Prog.run] at h2
  rename_i r hrow
  split at h2
  case isFalse=>simp[Prog.run] at h2
  obtain⟨a,hp2,r2,h3⟩:=run_bind_some h2
  simp only[Prog.run,Option.some.injEq,Prod.mk.injEq] at h3
  obtain⟨rfl,rfl⟩:=h3
  obtain⟨v',us,q0,q1,q2,q3⟩:=RepMs_get hvs hrow
  rw[List.getElem?_map,hen] at q0
  simp only[Option.map_some,Option.some.injEq] at q0
  subst q0
  obtain⟨e2,hrep⟩:=row_one (m:=m) (hp:=hp) (k:=k) q1 q2 q3 r2
  refine⟨e2,_,run_lookup hmu hkk hs hfn (z:= .nilFunc) (fun hn=>by cases hn) ok,?_⟩
  cases ok with
  |false=>simpa[seenV] using hrep
  |true=>
   simp only[if_true,seenV,Rep]
   exact⟨[en.val,.bool true],rfl,by simp only[RepL];exact⟨_,_,rfl,hrep,_,_,rfl,by simp only[Rep],rfl⟩⟩
 ·rename_i hj
  obtain⟨r',hfk,rfl⟩:=findK_ok hkk hj w
  obtain⟨a,hp2,r2,h3⟩:=run_bind_some h2
  simp only[Prog.run,Option.some.injEq,Prod.mk.injEq] at h3
  obtain⟨rfl,rfl⟩:=h3
  obtain⟨e2,z,hz,hrep⟩:=zeroV_ok (I:=I) (m:=m) (hp:=hp) (w:=w) (k:=k) r2
  refine⟨e2,_,run_lookup hmu hkk hs hfk (z:=z) (fun _=>hz) ok,?_⟩
  cases ok with
  |false=>simpa[seenV] using hrep
  |true=>
   simp only[if_true,seenV,Rep]
   exact⟨[z,.bool false],rfl,by simp only[RepL];exact⟨_,_,rfl,hrep,_,_,rfl,by simp only[Rep],rfl⟩⟩
 ·simp[Prog.run] at h2
/-! ### written -/
theorem sameBits_key {kt:TypeId}{key:Value}(hk:keyOk P kt key=true):Instr.sameBits 10000 key key=true:=by
 rcases keyOk_ok hk with⟨kd',kk,m,h1,rfl⟩|⟨s,h1,rfl⟩|⟨us,ha,hfit,rfl⟩
 ·simp[Instr.sameBits]
 ·simp[Instr.sameBits,ba_beq]
 ·exact sameBits_arr hfit 9999
theorem run_mapUpdate {t kt e:TypeId}(hmu:P.underlying t=some (.map kt e)){key val:Value}(hk:keyOk P kt key=true){b clock:Nat}{es:Array MapEntry}(hb:w.heap[b]?=some (.map es clock))
  {r:Option (Nat×Value)} (hfk:(Instr.findKey kt key es.toList).run P w= .ok r w) (hold: ∀i v,r=some (i,v)→ ∃en,es[i]?=some en∧en.key=key):
  (Instr.mapUpdate t (.map (some b)) key val).run P w= .ok () (w.putObj b (match r with
   |some (i,_)=> .map (es.modify i fun e=>{e with key,val:=val}) clock
   |none=> .map (es.push {key,val:=val,born:=clock}) (clock+1))):=by
 have hck:=run_checkKey (P:=P) hk w
 have hg:(getObj b).run P w= .ok (.map es clock) w:=by simp[getObj,Sem.run,hb]
 have hset: ∀o,(setObj b o).run P w= .ok () (w.putObj b o):=fun o=>by simp[setObj,Sem.run,hb,World.putObj]
 cases r with
 |none=>simp[Instr.mapUpdate,run_underlying hmu,hck,hfk,hg,hset]
 |some p=>
  obtain⟨i,v⟩:=p
  obtain⟨en,h1,h2⟩:=hold i v rfl
  simp[Instr.mapUpdate,run_underlying hmu,hck,hfk,hg,hset,Instr.keyThatStays,h1,h2,sameBits_key hk]
theorem WX.putObj {b:Nat}{o:Obj}(hi: ¬I b)(hk: ¬K b):WX I K w (w.putObj b o) where
 keep:=fun c hc=>World.putObj_heap_other fun e=>by subst e;exact hc.elim hi hk
 size:=by simp[World.putObj]
 os:=rfl
 tape:=rfl
 output:=rfl
theorem modify_keys {α β:Type}(f:α→β)(g:α→α): ∀(l:List α) (i:Nat),(∀a,l[i]?=some a→f (g a)=f a)→(l.modify i g).map f=l.map f
 |[],i,_=>by simp
 |a::l,0,h=>by simp[h a rfl]
 |a::l,i+1,h=>by simp[modify_keys f g l i (fun a ha=>h a (by simpa using ha))]
theorem modify_vals {α β:Type}(f:α→β)(g:α→α)(y:β): ∀(l:List α) (i:Nat),(∀a,f (g a)=y)→(l.modify i g).map f=(l.map f).set i y
 |[],i,_=>by simp
 |a::l,0,h=>by simp[h a]
 |a::l,i+1,h=>by simp[modify_vals f g y l i h]
theorem insert_ok (G:Gam I K m hp w){t:TypeId}{x key v z:AV}{u uk uv:Value}(hr:Rep k I m hp w x u)(hrk:Rep k I m hp w key uk)(hrv:AllR (Rep k I m hp w) (cellsA v) uv.cells.toList)
  (hsh: ∃us,uv=(if aggA v then .agg ⟨us⟩ else uv)) (hone:aggA v=false→uv.cells.toList=[uv]) (h:(insertP P t x key v).run hp=some (z,hp')):
  z= .any∧ ∃w' I' m',(Instr.mapUpdate t u uk uv).run P w= .ok () w'∧Gam I' K m' hp' w'∧Ext I K m hp w I' m' hp' w':=by
 unfold insertP at h
 split at h
 case h_2=>simp[Prog.run] at h
 rename_i kt e kv hmt hka
 have hmu:=mapT_ok hmt
 have hrk':=keyA_ok hka hrk
 subst hrk'
 split at h
 case isFalse=>simp[Prog.run] at h
 rename_i hc
 obtain⟨hkk,hlen,hag⟩:=hc
 obtain⟨r,hp1,r1,h2⟩:=run_bind_some h
 clear h
 obtain⟨I1,G1,E1,d1⟩:=toDatL_frz G hrv r1
 split at h2
 case h_2=>simp[Prog.run] at h2
 rename_i y g
 have hr1:=Rep.mono E1 _ _ _ hr
 simp only[Prog.run] at h2
 cases hx:hp1 y with
 |no g'=>rw[hx] at h2;simp[Prog.run] at h2
 |box g' c f=>rw[hx] at h2;simp[Prog.run] at h2
 |arr g' sz e rows f=>rw[hx] at h2;simp[Prog.run] at h2
 |map g' ag ks rows f=>
  rw[hx] at h2
  simp only at h2
  split at h2
  case isFalse=>simp[Prog.run] at h2
  rename_i hc2
  obtain⟨rfl,rfl,hks⟩:=hc2
  have ho:=G1.obj y
  rw[hx] at ho
  obtain⟨b,c,es,clock,o1,o2,o3,o4,o5,o6⟩:=ho
  obtain⟨hni,hnk⟩:=o6 rfl
  simp only[Rep] at hr1
  obtain⟨_,_,hr1⟩:=hr1
  obtain⟨b',c',hm,rfl⟩:=hr1 _ _ _ _ hx
  rw[o1] at hm;cases hm
  subst o3
  have o4':RepMs I1 w (isAggB P e) rows (es.toList.map (·.val)):=by
   rcases hks with h0|h0
   ·have:es.toList=[]:=List.map_eq_nil_iff.1 h0
    rw[this] at o4⊢
    have hl:=RepMs_len o4
    have:rows=[]:=List.eq_nil_of_length_eq_zero (by simpa using hl)
    subst this
    exact RepMs_nil o4
   ·rw[←h0];exact o4
  obtain⟨us,q1,q2,q3⟩: ∃us,uv=(if isAggB P e then .agg ⟨us⟩ else uv)∧(isAggB P e=false→us=[uv]∧uv.oneCell'=true)∧RepDL I1 w r us:=by
   refine⟨uv.cells.toList,?_,fun hf=>?_,(RepDL_iff _ _).2 d1⟩
   ·rw[←hag]
    obtain⟨us,hus⟩:=hsh
    cases hb:aggA v with
    |false=>simp
    |true=>rw[hb] at hus;simp only[if_true] at hus⊢;rw[hus];simp[Value.cells]
   ·have h1:=hone (by rw[hag];exact hf)
    exact⟨h1,d1.one uv (by rw[h1];simp)⟩
  have hlt:b<w.heap.size:=(Array.getElem?_eq_some_iff.1 o2).1
  have fin: ∀(es':Array MapEntry) (clock':Nat) (ks':List Value) (rows':List (List AV)),es'.toList.map (·.key)=ks'→RepMs I1 w (isAggB P e) rows' (es'.toList.map (·.val))→
    Gam I1 K m (upd hp1 y (.map g' (isAggB P e) ks' rows' false)) (w.putObj b (.map es' clock'))∧Ext I1 K m hp1 w I1 m (upd hp1 y (.map g' (isAggB P e) ks' rows' false)) (w.putObj b (.map es' clock')):=by
   intro es' clock' ks' rows' h1 h2
   have hk:SameKind (hp1 y) (.map g' (isAggB P e) ks' rows' false):=by rw[hx];exact⟨_,_,_,_,rfl⟩
   have hW:WX I1 K w (w.putObj b (.map es' clock')):= .putObj hni hnk
   refine⟨G1.same hW (fun _ h=>h) hk ⟨b,c,es',clock',o1,World.putObj_heap_same hlt,h1,RepMs.mono (fun _ h=>h) (fun d hd=>hW.keep d (.inl hd)) _ _ _ h2,fun h=>(by cases h),fun _=>⟨hni,hnk⟩⟩
    (fun z hz hl q hq=>World.putObj_heap_other fun e=>hz (G1.inj z y q (b,c) hl (by rw[hx];rfl) hq o1 e)) (fun _ _ _ _ _ _ h=>h) (fun d hd=>by have:=G1.ilt d hd;simpa[World.putObj] using this) G1.ik,.same hW (fun _ h=>h) hk⟩
  split at h2
  ·rename_i j hj
   simp only[Prog.run,Option.some.injEq,Prod.mk.injEq] at h2
   obtain⟨rfl,rfl⟩:=h2
   obtain⟨r',hfn,en,hen,hke,rfl⟩:=findK_ok hkk hj w
   have hen':es.toList[j]?=some en:=hen
   have hrun:=run_mapUpdate (val:=uv) hmu hkk o2 hfn (fun i v' h=>by cases h;exact⟨en,by rw[←Array.getElem?_toList];exact hen',hke⟩)
   obtain⟨G2,E2⟩:=fin (es.modify j fun e=>{e with key:=uk,val:=uv}) clock (es.toList.map (·.key)) (rows.set j r)
    (by rw[Array.toList_modify];exact modify_keys _ _ _ _ (fun a ha=>by rw[hen'] at ha;cases ha;exact hke.symm))
    (by rw[Array.toList_modify,modify_vals _ _ uv _ _ (fun _=>rfl)];exact RepMs_set q1 q2 q3 j o4')
   exact⟨rfl,_,I1,m,hrun,G2,E1.trans E2⟩
  ·rename_i hj
   simp only[Prog.run,Option.some.injEq,Prod.mk.injEq] at h2
   obtain⟨rfl,rfl⟩:=h2
   obtain⟨r',hfk,rfl⟩:=findK_ok hkk hj w
   have hrun:=run_mapUpdate (val:=uv) hmu hkk o2 hfk (fun i v' h=>by cases h)
   obtain⟨G2,E2⟩:=fin (es.push {key:=uk,val:=uv,born:=clock}) (clock+1) (es.toList.map (·.key)++[uk]) (rows++[r]) (by simp) (by simpa using RepMs_app q1 q2 q3 o4')
   exact⟨rfl,_,I1,m,hrun,G2,E1.trans E2⟩
  ·simp[Prog.run] at h2
theorem makeMap_ok (G:Gam I K m hp w){y:Nm}(hy:y.d≤k):
  ∃m',Gam I K m' (upd hp y (.map ((hp y).gen+1) false [] [] false)) (w.alloc (.map #[] 0))∧Ext I K m hp w I m' (upd hp y (.map ((hp y).gen+1) false [] [] false)) (w.alloc (.map #[] 0))∧
   Rep k I m' (upd hp y (.map ((hp y).gen+1) false [] [] false)) (w.alloc (.map #[] 0)) (.mp y ((hp y).gen+1)) (.map (some w.heap.size)):=by
 obtain⟨G2,E2⟩:=G.alloc (x:=y) (o:= .map ((hp y).gen+1) false [] [] false) (.map #[] 0) 0 (by simp[AObj.gen])
  (fun w' m' hb hm E=>⟨w.heap.size,0,#[],0,hm,hb,rfl,by simp[RepMs],fun h=>(by cases h),fun _=>G.fresh⟩) (.inl rfl)
 refine⟨_,G2,E2,?_⟩
 simp only[Rep]
 exact⟨hy,by rw[upd_same];exact Nat.le_refl _,fun ag ks rows fz hx=>⟨w.heap.size,0,upd_same _ _ _,rfl⟩⟩
/-! ### slices some of whose elements lead to boxes -/
theorem fillA_len {place:Nat→Option (Nat×Nat)}: ∀{parts:List (Nat×AV)} {cells out:List AV},fillA place cells parts=some out→out.length=cells.length
 |[],cells,out,h=>by simp only[fillA,Option.some.injEq] at h;rw[h]
 |(i,v)::rest,cells,out,h=>by
  simp only[fillA] at h
  split at h
  ·cases h
  ·split at h
   ·rename_i hc
    have:=fillA_len h
    rw[this]
    unfold splice
    split
    ·assumption
    ·simp only[List.length_append,List.length_take,List.length_drop]
     omega
   ·cases h
theorem boxSlice_ok (G:Gam I K m hp w){i:Nat}{t:TypeId}{len:Nat}{parts:List (Nat×AV)}{us:Array (Nat×Value)}{v:AV}(hr:PartsR k I m hp w parts us.toList)(h:(boxSliceP P k i t len parts).run hp=some (v,hp')):
  ∃u' w' I' m',(Instr.buildSlice t len us).run P w= .ok u' w'∧Gam I' K m' hp' w'∧Ext I K m hp w I' m' hp' w'∧Rep k I' m' hp' w' v u':=by
 unfold boxSliceP at h
 split at h
 case h_2=>simp[Prog.run] at h
 rename_i e he
 split at h
 case h_2=>simp[Prog.run] at h
 rename_i z hz
 split at h
 case isFalse=>simp[Prog.run] at h
 rename_i hc
 obtain⟨hzo,hall1,hsz,hmax⟩:=hc
 obtain⟨ie,zv,hi,hzz,hzs,hpos,hcs,hbs⟩:=zok_ok hzo
 have hzl:z=zv.cells.toList:=by simp[zeros,hi,hzz] at hz;exact hz.symm
 subst hzl
 have hall:AllR (RepD I w) (zv.cells.toList.map AV.sc) zv.cells.toList:=⟨by simp,fun j a u h1 h2=>by
  rw[List.getElem?_map,h2] at h1;cases h1
  simp only[RepD]
  exact⟨trivial,List.all_eq_true.1 hall1 u (List.mem_of_getElem? h2)⟩⟩
 have hmk:=made_rows (I:=I) (w:=w) hall (by rw[hzs];exact hpos) len (len*ie.size) (by rw[hzs];exact Nat.le_refl _)
 rw[hzs,RepRows_iff,List.length_replicate] at hmk
 have hfull:(madeCells zv.cells (len*ie.size)).toList.take (len*ie.size)=(madeCells zv.cells (len*ie.size)).toList:=List.take_of_length_le (by simp[size_madeCells])
 rw[hfull] at hmk
 split at h
 case h_2=>simp[Prog.run] at h
 rename_i cs hfa
 rw[hcs] at hfa h hsz
 obtain⟨cs1,f1,f2⟩:=fill_ok hr (hmk.2.imp fun a u h=>RepD.rep h) hfa
 obtain⟨cs',hp1,r1,h2⟩:=run_bind_some h
 clear h
 obtain⟨I1,m1,G1,E1,d1,_⟩:=settleL_ok G f2 r1
 simp only[Prog.run,Option.some.injEq,Prod.mk.injEq] at h2
 obtain⟨rfl,rfl⟩:=h2
 obtain⟨G2,E2⟩:=G1.alloc (x:=⟨k,i,0⟩) (o:= .box ((hp1 ⟨k,i,0⟩).gen+1) cs' false) (.cells cs1 e) cs1.size (by simp[AObj.gen])
  (fun w' m' hb hm E=>⟨w.heap.size,cs1.size,cs1,e,(0,0),hm,hb,⟨noMark0 _,rfl⟩,by rw[take_all d1];exact(RepL_iff _ _).2 (d1.imp fun a u h=>Rep.mono E _ a u h),fun h=>(by cases h),fun _=>G1.fresh⟩) (.inl rfl)
 refine⟨.slice (some ⟨w.heap.size,0,none⟩) len len,_,I1,_,?_,G2,E1.trans E2,?_⟩
 ·have hlim: ¬(16777216<len*ie.size):=by omega
  have hfill:Instr.fill (fun j=>some (j*ie.size,ie.size)) (Array.map (fun x=>zv.cells[x%zv.cells.size]!) (Array.range (len*ie.size))) us.toList=some cs1:=f1
  by_cases h0:len*ie.size=0
  ·have h00:Array.map (fun x=>zv.cells[x%zv.cells.size]!) (Array.range (len*ie.size))= #[]:=by rw[h0];apply Array.ext';simp
   rw[h00] at hfill
   simp[Instr.buildSlice,run_underlying (slel_ok he),sizeOf,typeInfo,hi,h0,newRow,Array.range_zero',hfill]
  ·simp[Instr.buildSlice,run_underlying (slel_ok he),sizeOf,typeInfo,zeroValue,hi,hzz,hlim,h0,newRow,hfill]
 ·simp only[Rep]
  exact⟨Nat.le_refl _,by rw[upd_same];exact Nat.le_refl _,fun cells fz hx=>⟨w.heap.size,cs1.size,len,upd_same _ _ _,Nat.le_refl _,⟨hmax,by
   have q:=f2.1
   have q2:=fillA_len hfa
   have q3:=hmk.2.1
   have q4:(madeCells zv.cells (len*ie.size)).toList.length=len*ie.size:=by simp[size_madeCells]
   have q5:cs1.toList.length=cs1.size:=Array.length_toList
   omega⟩,rfl⟩⟩
end
end
section
open Go
section
variable {P:Program}{I K:Nat→Prop}{m:Mp}{hp hp':Hp}{w:World}{k:Nat}
theorem cellsB_ok (G:Gam I K m hp w){x:AV}{u:Value}{sz n:Nat}{cells:List AV}(hr:Rep k I m hp w x u)(h:(cellsBP x).run hp=some ((sz,n,cells),hp')):
  hp'=hp∧ ∃news,Src P w sz n u news∧AllR (Rep k I m hp w) cells news:=by
 unfold cellsBP at h
 split at h
 ·rename_i x g sz' off n'
  simp only[Prog.run] at h
  cases hx:hp x with
  |no g'=>rw[hx] at h;simp[Prog.run] at h
  |map _ _ _ _ _=>rw[hx] at h;simp[Prog.run] at h
  |arr g' sz e rows f=>rw[hx] at h;simp[Prog.run] at h
  |box g' cells' f=>
   rw[hx] at h
   simp only at h
   split at h
   case isFalse=>simp[Prog.run] at h
   rename_i hc
   obtain⟨rfl,hl⟩:=hc
   simp only[Prog.run,Option.some.injEq,Prod.mk.injEq] at h
   obtain⟨⟨rfl,rfl,rfl⟩,rfl⟩:=h
   simp only[Rep] at hr
   obtain⟨hd,_,hr⟩:=hr
   obtain⟨b,c,cap,hm,h1,h2,rfl⟩:=hr cells' f hx
   have ho:=G.obj x
   rw[hx] at ho
   obtain⟨b',c',us,T,mk,o1,o2,o3,o4,o5,o6⟩:=ho
   rw[o1] at hm;cases hm
   have ha:=(((RepL_iff _ _).1 o4).drop off).take (n'*sz')
   refine⟨rfl,((us.toList.take cells'.length).drop off).take (n'*sz'),src_slice (fun j v hv=>?_) ?_,ha.imp fun a u h=>h.depth hd⟩
   ·rw[cell_of_row w b (off+j) us T mk o2]
    have hv:=take_some hv
    rw[List.getElem?_drop] at hv
    simpa using take_some hv
   ·rw[←ha.1,List.length_take,List.length_drop];omega
 ·obtain⟨⟨sz',rows⟩,hp1,r1,h2⟩:=run_bind_some h
  obtain⟨e1,hsrc⟩:=rows_ok (P:=P) G hr r1
  simp only[Prog.run,Option.some.injEq,Prod.mk.injEq] at h2
  obtain⟨⟨rfl,rfl,rfl⟩,rfl⟩:=h2
  obtain⟨news,hS,hN,_⟩:=hsrc sz' (.inl rfl)
  exact⟨e1,news,hS,hN.imp fun a u h=>RepD.rep h⟩
theorem freshB (G:Gam I K m hp w){t:Nm}(ht:t.d≤k){e:TypeId}{sz n n' cap:Nat}{olds cs:List AV}{oldv news rest:List Value}
  (ho:AllR (Rep t.d I m hp w) olds oldv) (hs:AllR (Rep t.d I m hp w) cs news) (hol:oldv.length=n*sz) (hnl:news.length=n'*sz) (hr:rest.length=(cap - (n+n'))*sz) (hc:n+n'≤cap) (hmax:cap≤maxLen)
  {A:Array Value} (hA:A.toList=oldv++news++rest) {w1:World} (h1:w1=w.alloc (.cells A e)∨w1=w.drew.alloc (.cells A e)):
  ∃m',Gam I K m' (upd hp t (.box ((hp t).gen+1) (olds++cs) false)) w1∧Ext I K m hp w I m' (upd hp t (.box ((hp t).gen+1) (olds++cs) false)) w1∧
   Rep k I m' (upd hp t (.box ((hp t).gen+1) (olds++cs) false)) w1 (.bsl t ((hp t).gen+1) sz 0 (n+n')) (.slice (some ⟨w.heap.size,0,none⟩) (n+n') cap):=by
 have hsz:A.size=cap*sz:=by
  have:=congrArg List.length hA
  rw[Array.length_toList,List.length_append,List.length_append,hol,hnl,hr,←Nat.add_mul,←Nat.add_mul] at this
  rw[this];congr 1;omega
 have hall:=ho.append hs
 obtain⟨G2,E2⟩:=G.alloc (x:=t) (o:= .box ((hp t).gen+1) (olds++cs) false) (.cells A e) (cap*sz) (by simp[AObj.gen])
  (fun w' m' hb hm E=>⟨w.heap.size,cap*sz,A,e,(0,0),hm,hb,⟨noMark0 _,hsz⟩,by
   rw[hA,List.take_left' hall.1.symm]
   exact(RepL_iff _ _).2 (hall.imp fun a u h=>Rep.mono E _ a u h),fun h=>(by cases h),fun _=>G.fresh⟩) h1
 refine⟨_,G2,E2,?_⟩
 simp only[Rep]
 exact⟨ht,by rw[upd_same];exact Nat.le_refl _,fun cells fz hx=>⟨w.heap.size,cap*sz,cap,upd_same _ _ _,hc,⟨hmax,by omega⟩,rfl⟩⟩
theorem Gam.killB (G:Gam I K m hp w){z:Nm}{g:Nat}(hz:(hp z).gen=g):
  Gam I K m (upd hp z (.no (g+1))) w∧Ext I K m hp w I m (upd hp z (.no (g+1))) w:=by
 have em:upd m z (m z)=m:=by funext q;by_cases hq:q=z<;>simp[upd,hq]
 have hg:(hp z).gen<(AObj.no (g+1)).gen:=by rw[hz];exact Nat.lt_succ_self _
 have h1:Gam I K (upd m z (m z)) (upd hp z (.no (g+1))) w:=G.bump (.refl I K w) (fun _ h=>h) hg trivial (fun _ _ _ _ _=>rfl) (fun _ _ _ _ _ _ h=>h) (fun h=>(by cases h)) G.ilt G.ik
 have h2:Ext I K m hp w I (upd m z (m z)) (upd hp z (.no (g+1))) w:= .bump (.refl I K w) (fun _ h=>h) hg
 rw[em] at h1 h2
 exact⟨h1,h2⟩
theorem roomB (G:Gam I K m hp w){z t:Nm}(ht:t.d≤k){g:Nat}(hlive:(hp z).live=true)(hgz:(hp z).gen=g){b c:Nat}(hm:m z=some (b,c)){cur:Array Value}{T:TypeId}{mk:Nat×Nat}
  (hb:w.heap[b]?=some (.cells cur T mk)) (hmk:NoMark cur mk) (hni: ¬I b) (hnk: ¬K b) {sz n n' cap:Nat} {olds cs:List AV} {news:List Value}
  (ho:AllR (Rep t.d I m hp w) olds (cur.toList.take (n*sz))) (hs:AllR (Rep t.d I m hp w) cs news) (hnl:news.length=n'*sz) (hc:n+n'≤cap) (hmax:cap≤maxLen) (hcs:cap*sz≤cur.size):
  ∃m',Gam I K m' (upd (upd hp z (.no (g+1))) t (.box ((upd hp z (.no (g+1)) t).gen+1) (olds++cs) false)) (w.setRow b (cur.toList.take (n*sz)++news++cur.toList.drop (n*sz+news.length)).toArray)∧
   Ext I K m hp w I m' (upd (upd hp z (.no (g+1))) t (.box ((upd hp z (.no (g+1)) t).gen+1) (olds++cs) false)) (w.setRow b (cur.toList.take (n*sz)++news++cur.toList.drop (n*sz+news.length)).toArray)∧
   Rep k I m' (upd (upd hp z (.no (g+1))) t (.box ((upd hp z (.no (g+1)) t).gen+1) (olds++cs) false)) (w.setRow b (cur.toList.take (n*sz)++news++cur.toList.drop (n*sz+news.length)).toArray)
    (.bsl t ((upd hp z (.no (g+1)) t).gen+1) sz 0 (n+n')) (.slice (some ⟨b,0,none⟩) (n+n') cap):=by
 obtain⟨G1,E1⟩:=G.killB hgz
 have hne: ∀y q,(upd hp z (.no (g+1)) y).live=true→m y=some q→q.1≠b:=by
  intro y q hl hq e
  by_cases hy:y=z
  ·subst hy;rw[upd_same] at hl;cases hl
  ·rw[upd_other _ _ hy] at hl
   exact hy (G.inj y z q (b,c) hl hlive hq hm e)
 have hfit:n*sz+news.length≤cur.size:=by rw[hnl,←Nat.add_mul];exact Nat.le_trans (Nat.mul_le_mul_right _ hc) hcs
 have hg:(upd hp z (.no (g+1)) t).gen<(AObj.box ((upd hp z (.no (g+1)) t).gen+1) (olds++cs) false).gen:=by simp[AObj.gen]
 have hall:=ho.append hs
 have E2:Ext I K m (upd hp z (.no (g+1))) w I (upd m t (some (b,cur.size))) (upd (upd hp z (.no (g+1))) t (.box ((upd hp z (.no (g+1)) t).gen+1) (olds++cs) false)) (w.setRow b (cur.toList.take (n*sz)++news++cur.toList.drop (n*sz+news.length)).toArray):=
  .bump (.setRow hni hnk) (fun _ h=>h) hg
 have hobj:ObjOk I K (upd m t (some (b,cur.size))) (upd (upd hp z (.no (g+1))) t (.box ((upd hp z (.no (g+1)) t).gen+1) (olds++cs) false)) (w.setRow b (cur.toList.take (n*sz)++news++cur.toList.drop (n*sz+news.length)).toArray) t
   (.box ((upd hp z (.no (g+1)) t).gen+1) (olds++cs) false):=by
  refine⟨b,cur.size,_,T,mk,upd_same _ _ _,setRow_heap w b cur _ T mk hb,⟨fun j hj=>hmk j ?_,?_⟩,?_,fun h=>(by cases h),fun _=>⟨hni,hnk⟩⟩
  ·simp at hj;omega
  ·simp;omega
  ·have e:List.take (olds++cs).length (cur.toList.take (n*sz)++news++cur.toList.drop (n*sz+news.length))=cur.toList.take (n*sz)++news:=List.take_left' hall.1.symm
   show RepL _ _ _ _ _ _ (List.take (olds++cs).length (cur.toList.take (n*sz)++news++cur.toList.drop (n*sz+news.length)))
   rw[e]
   exact(RepL_iff _ _).2 (hall.imp fun a u h=>Rep.mono (E1.trans E2) _ a u h)
 have G2:=G1.bump (x:=t) (p:=some (b,cur.size)) (.setRow hni hnk) (fun _ h=>h) hg hobj (fun y _ hl q hq=>setRow_other w b q.1 _ (fun e=>hne y q hl hq e)) (fun _ _ _ _ _ _ h=>h)
  (fun _ r hr y _ hl q hq e=>by cases hr;exact hne y q hl hq e.symm) (fun c hc=>by have:=G.ilt c hc;simpa[World.setRow] using this) G.ik
 refine⟨_,G2,E1.trans E2,?_⟩
 simp only[Rep]
 exact⟨ht,by rw[upd_same];exact Nat.le_refl _,fun cells fz hx=>⟨b,cur.size,cap,upd_same _ _ _,hc,⟨hmax,by omega⟩,rfl⟩⟩
theorem appendB_ok (G:Gam I K m hp w){y:Nm}(hy:y.d≤k){t t' ty:TypeId}{s x v:AV}{us ux:Value}(hrs:Rep k I m hp w s us)(hrx:Rep k I m hp w x ux)
  (h:(appendBP P y t t' s x).run hp=some (v,hp')):
  ∃u' w' I' m',(Builtin.append_ #[t,t'] ty #[us,ux]).run P w= .ok u' w'∧Gam I' K m' hp' w'∧Ext I K m hp w I' m' hp' w'∧Rep k I' m' hp' w' v u':=by
 unfold appendBP at h
 split at h
 case h_2=>simp[Prog.run] at h
 rename_i e he
 have ht:=slel_ok he
 split at h
 case isFalse=>simp[Prog.run] at h
 rename_i hzs
 obtain⟨hz,hst⟩:=hzs
 obtain⟨i,z,hi,hzz,hzc,hpos,hci,hbi⟩:=zok_ok hz
 have hu:=srcT_ok hst
 obtain⟨⟨sz',n',cells⟩,hp1,r1,h2⟩:=run_bind_some h
 clear h
 obtain⟨e1,news,hS,hN⟩:=cellsB_ok (P:=P) G hrx r1
 rw[e1] at h2
 clear r1 e1
 simp only at h2
 split at h2
 case isFalse=>simp[Prog.run] at h2
 rename_i hc
 obtain⟨rfl,hn0,hby,hmax⟩:=hc
 obtain⟨cs,hp2,r2,h3⟩:=run_bind_some h2
 clear h2
 obtain⟨I1,m1,G1,E1,d1,hone⟩:=settleL_ok G hN r2
 have hrs1:=Rep.mono E1 k s us hrs
 rw[hci] at hS h3
 rw[hbi] at hby
 have hnl:news.length=n'*i.size:=hS.length
 suffices hh: ∃u' w' m',(Builtin.append_ #[t,t'] ty #[us,ux]).run P w= .ok u' w'∧Gam I1 K m' hp' w'∧Ext I1 K m1 hp2 w I1 m' hp' w'∧Rep k I1 m' hp' w' v u' by
  obtain⟨u',w',m',q1,q2,q3,q4⟩:=hh
  exact⟨u',w',I1,m',q1,q2,E1.trans q3,q4⟩
 have onNil: ∀(hq:Hp) (q:Gam I1 K m1 hq w) (tt:Nm),tt.d≤k→AllR (Rep tt.d I1 m1 hq w) cs news→n'*i.bytes≤140737488355328→n'≤maxLen→
   ∃u' w' m',(Builtin.append_ #[t,t'] ty #[.slice none 0 0,ux]).run P w= .ok u' w'∧Gam I1 K m' (upd hq tt (.box ((hq tt).gen+1) cs false)) w'∧Ext I1 K m1 hq w I1 m' (upd hq tt (.box ((hq tt).gen+1) cs false)) w'∧
    Rep k I1 m' (upd hq tt (.box ((hq tt).gen+1) cs false)) w' (.bsl tt ((hq tt).gen+1) i.size 0 n') u':=by
  intro hq q tt htt hcs hby hmax
  have hm63:(n':Int)≤9223372036854775807:=by simp only[maxLen] at hmax;omega
  have hr:=append_nil w t t' ty e i z ht hu hi hzz ux n' news hS hn0 hm63 (by omega)
  have hge:=grownCap_ge w n' 0 e
  have hle:=grownCap_le_maxLen w n' 0 e hmax
  obtain⟨m',g1,g2,g3⟩:=freshB q htt (e:=e) (sz:=i.size) (n:=0) (n':=n') (cap:=grownCap w n' 0 e) (olds:=[]) (oldv:=[]) (rest:=(Builtin.zeroCells z.cells (grownCap w n' 0 e - n')).toList) .nil hcs (by simp) hnl (by rw[Array.length_toList,size_zeroCells,hzc,Nat.zero_add]) (by rw[Nat.zero_add];exact hge) hle
   (A:=news.toArray++Builtin.zeroCells z.cells (grownCap w n' 0 e - n')) (by simp) (.inr rfl)
  simp only[List.nil_append,Nat.zero_add] at g1 g2 g3
  exact⟨_,_,m',hr,g1,g2,g3⟩
 have onOld: ∀(zn:Nm) (g n cap b c:Nat) (cur:Array Value) (T:TypeId) (mk:Nat×Nat) (olds:List AV) (tt:Nm),tt.d≤k→(hp2 zn).live=true→(hp2 zn).gen=g→m1 zn=some (b,c)→w.heap[b]?=some (.cells cur T mk)→NoMark cur mk→ ¬I1 b→ ¬K b→
   AllR (Rep tt.d I1 m1 hp2 w) olds (cur.toList.take (n*i.size))→AllR (Rep tt.d I1 m1 hp2 w) cs news→n≤cap→cap≤maxLen→cap*i.size≤cur.size→(n+n')*i.bytes≤140737488355328→n+n'≤maxLen→
   ∃u' w' m',(Builtin.append_ #[t,t'] ty #[.slice (some ⟨b,0,none⟩) n cap,ux]).run P w= .ok u' w'∧Gam I1 K m' (upd (upd hp2 zn (.no (g+1))) tt (.box ((upd hp2 zn (.no (g+1)) tt).gen+1) (olds++cs) false)) w'∧
    Ext I1 K m1 hp2 w I1 m' (upd (upd hp2 zn (.no (g+1))) tt (.box ((upd hp2 zn (.no (g+1)) tt).gen+1) (olds++cs) false)) w'∧
    Rep k I1 m' (upd (upd hp2 zn (.no (g+1))) tt (.box ((upd hp2 zn (.no (g+1)) tt).gen+1) (olds++cs) false)) w' (.bsl tt ((upd hp2 zn (.no (g+1)) tt).gen+1) i.size 0 (n+n')) u':=by
  intro zn g n cap b c cur T mk olds tt htt hlive hgz hm hb hmk hni hnk holds hcs hnc hcm hcsz hby hmax
  have hm63:((n+n':Nat):Int)≤9223372036854775807:=by simp only[maxLen] at hmax;omega
  have hnsz:n*i.size≤cur.size:=Nat.le_trans (Nat.mul_le_mul_right _ hnc) hcsz
  by_cases hroom:n+n'≤cap
  ·have hfit:n*i.size+news.length≤cur.size:=by rw[hnl,←Nat.add_mul];exact Nat.le_trans (Nat.mul_le_mul_right _ hroom) hcsz
   have hr:=append_room w t t' ty e i ht hu hi b n cap cur mk hb hmk ux n' news hS hone hroom hfit
   obtain⟨m',g1,g2,g3⟩:=roomB G1 htt hlive hgz hm hb hmk hni hnk holds hcs hnl hroom hcm hcsz
   exact⟨_,_,m',hr,g1,g2,g3⟩
  ·have hcell: ∀j v,(cur.toList.take (n*i.size))[j]?=some v→w.cell? ((⟨b,0,none⟩:Addr).add j)=some v:=fun j v hv=>by
    rw[add_plain,Nat.zero_add,cell_of_row w b j cur T mk hb]
    simpa using take_some hv
   have hol:(cur.toList.take (n*i.size)).length=n*i.size:=by rw[List.length_take,Array.length_toList];omega
   have hr:=append_grow w t t' ty e i z ht hu hi hzz ⟨b,0,none⟩ n cap _ hol hcell ux n' news hS (by omega) hm63 (growslice_fits (by omega) hby)
   have hge:=grownCap_ge w (n+n') cap e
   have hle:=grownCap_le_maxLen w (n+n') cap e hmax
   obtain⟨Gk,Ek⟩:=G1.killB hgz
   obtain⟨m',g1,g2,g3⟩:=freshB Gk htt (e:=e) (sz:=i.size) (n:=n) (n':=n') (cap:=grownCap w (n+n') cap e) (rest:=(Builtin.zeroCells z.cells (grownCap w (n+n') cap e - (n+n'))).toList) (holds.imp fun a u h=>Rep.mono Ek _ a u h) (hcs.imp fun a u h=>Rep.mono Ek _ a u h) hol hnl (by rw[Array.length_toList,size_zeroCells,hzc]) hge hle
    (A:=(cur.toList.take (n*i.size)).toArray++news.toArray++Builtin.zeroCells z.cells (grownCap w (n+n') cap e - (n+n'))) (by simp) (.inr rfl)
   exact⟨_,_,m',hr,g1,Ek.trans g2,g3⟩
 unfold growBP at h3
 split at h3
 · -- nil
  simp only[Prog.run,Option.some.injEq,Prod.mk.injEq] at h3
  obtain⟨rfl,rfl⟩:=h3
  simp only[Rep] at hrs1
  subst hrs1
  simp only[lenB,Nat.zero_add] at hby hmax
  exact onNil _ G1 _ hy d1 hby hmax
 · -- owned
  rename_i zn g n
  simp only[Prog.run] at h3
  simp only[Rep] at hrs1
  obtain⟨hzd,_,hrs1⟩:=hrs1
  have htt:(tgtB y (.own zn g n)).d≤k:=by
   simp only[tgtB]
   split
   ·exact hzd
   ·exact hy
  cases hx:hp2 zn with
  |no g'=>rw[hx] at h3;simp[Prog.run] at h3
  |map _ _ _ _ _=>rw[hx] at h3;simp[Prog.run] at h3
  |box g' c f=>rw[hx] at h3;simp[Prog.run] at h3
  |arr g' sz e' rows f=>
   rw[hx] at h3
   simp only at h3
   split at h3
   case isFalse=>simp[Prog.run] at h3
   rename_i hc
   obtain⟨rfl,rfl,hnr,rfl⟩:=hc
   simp only[Prog.run,Option.some.injEq,Prod.mk.injEq] at h3
   obtain⟨rfl,rfl⟩:=h3
   obtain⟨_,hrs1⟩:=hrs1 _ e' rows false hx
   have hgz:(hp2 zn).gen=g':=by rw[hx];rfl
   have ho:=G1.obj zn
   rw[hx] at ho
   simp only[lenB] at hby hmax
   rcases hrs1 with⟨h0,rfl,hn0'⟩|⟨b,cap,hm,rfl⟩
   ·subst hn0'
    obtain⟨Gk,Ek⟩:=G1.killB hgz
    simp only[Nat.zero_add,List.take_zero,List.flatten_nil,List.nil_append] at hby hmax⊢
    obtain⟨u',w',m',q1,q2,q3,q4⟩:=onNil _ Gk _ htt (d1.imp fun a u h=>Rep.mono Ek _ a u h) hby hmax
    exact⟨u',w',m',q1,q2,Ek.trans q3,q4⟩
   ·rcases ho with⟨h1,_⟩|⟨b',cap',cur,mk,h1,h2,h3,h4,h5,h6,h7,h8,h9⟩
    ·rw[h1] at hm;cases hm
    ·rw[h1] at hm;cases hm
     obtain⟨hni,hnk⟩:=h9 rfl
     obtain⟨hev,ha⟩:=(RepRows_iff _ _).1 h7
     have ha':=ha.take (n*i.size)
     rw[List.take_take,Nat.min_eq_left (Nat.mul_le_mul_right _ hnr),←hev.flatten_take] at ha'
     exact onOld zn _ n cap b cap cur e' mk _ _ htt (by rw[hx];rfl) hgz h1 h2 h3 hni hnk (ha'.imp fun a u h=>RepD.rep h) d1 (Nat.le_trans hnr h5) h6 (Nat.le_of_eq h4.symm) hby hmax
 · -- a box already
  rename_i zn g sz off n
  simp only[Prog.run] at h3
  simp only[Rep] at hrs1
  obtain⟨hzd,_,hrs1⟩:=hrs1
  cases hx:hp2 zn with
  |no g'=>rw[hx] at h3;simp[Prog.run] at h3
  |map _ _ _ _ _=>rw[hx] at h3;simp[Prog.run] at h3
  |arr g' sz e' rows f=>rw[hx] at h3;simp[Prog.run] at h3
  |box g' cells' f=>
   rw[hx] at h3
   simp only at h3
   split at h3
   case isFalse=>simp[Prog.run] at h3
   rename_i hc
   obtain⟨rfl,rfl,rfl,hnc,rfl,_⟩:=hc
   simp only[Prog.run,Option.some.injEq,Prod.mk.injEq] at h3
   obtain⟨rfl,rfl⟩:=h3
   obtain⟨b,c,cap,hm,hncap,⟨hcm,hcc⟩,rfl⟩:=hrs1 _ false hx
   have hgz:(hp2 zn).gen=g':=by rw[hx];rfl
   have ho:=G1.obj zn
   rw[hx] at ho
   simp only[lenB] at hby hmax
   obtain⟨b',c',cur,T,mk,h1,h2,h3,h4,h5,h6⟩:=ho
   rw[h1] at hm;cases hm
   obtain⟨hni,hnk⟩:=h6 rfl
   have ha:=((RepL_iff _ _).1 h4).take (n*i.size)
   rw[List.take_take,Nat.min_eq_left hnc] at ha
   exact onOld zn _ n cap b c cur T mk _ zn hzd (by rw[hx];rfl) hgz h1 h2 h3.1 hni hnk ha d1 hncap hcm (by rw[h3.2];omega) hby hmax
 ·simp[Prog.run] at h3
end
end
section
open Go
section
variable {P:Program}{I K:Nat→Prop}{m:Mp}{hp hp':Hp}{w:World}{k:Nat}
structure CallPost (P:Program)(I:Nat→Prop)(w:World)(ts:List TypeId)(rs:List AV)(u:Value)(w':World):Prop where
 old: ∀b,b<w.heap.size→w'.heap[b]?=w.heap[b]?
 size:w.heap.size≤w'.heap.size
 os:w'.os=w.os
 tape:w'.tape=w.tape
 output:w'.output=w.output
 res: ∃I' us bs,u=retV us∧(∀b,I b→I' b)∧(∀b,I' b→I b∨w.heap.size≤b)∧(∀b,I' b→b<w'.heap.size)∧(∀b∈bs,w.heap.size≤b∧ ¬I' b)∧bs.Nodup∧RepResL P I' w' ts rs us bs
def DatOk (P:Program)(call:Orc):Prop:= ∀f args rs,call.dat f args=some rs→okFn P f=true→ ∀(I:Nat→Prop) (w:World) (us:List Value),(∀b,I b→b<w.heap.size)→GlOk I w→AllR (RepA I w) args us→
 Calls P f ⟨us⟩ w (fun e w'=> ∃u,e= .returned u∧CallPost P I w (rtys P f) rs u w')
def Sim (I K:Nat→Prop)(m:Mp)(hp:Hp)(w:World)(v:AV)(k:Nat)(I0:Nat→Prop)(m0:Mp)(hp0:Hp)(w0:World)(u:Value):Prop:=
 Gam I K m hp w∧Ext I0 K m0 hp0 w0 I m hp w∧Rep k I m hp w v u
def HeapOk (P:Program)(call:Orc):Prop:= ∀k d f args hp v hp',call.hpc k d f args hp=some (v,hp')→okFn P f=true→ ∀(I K:Nat→Prop) (m:Mp) (w:World) (us:List Value),Gam I K m hp w→AllR (Rep k I m hp w) args us→
 Calls P f ⟨us⟩ w (fun e w'=> ∃u,e= .returned u∧ ∃I' m',Sim I' K m' hp' w' v k I m hp w u)
def OrcOk (P:Program)(call:Orc):Prop:=DatOk P call∧HeapOk P call
def OpR (P:Program)(o:Oper)(a:Act)(w:World)(Post:Value→World→Prop):Prop:=
 match (execOp a.eval o).run P w with
 | .ok (.value u) w'=>Post u w'
 | .ok .skip w'=>Post undef w'
 | .ok (.enter f args) w'=>Calls P f args w' fun e w''=> ∃u,e= .returned u∧Post u w''
 |_=>False
theorem OpR.wp {o:Oper}{a:Act}{Post:Value→World→Prop}(h:OpR P o a w Post){next:Act→World→Prop}{Q:Exit→Act→World→Prop}(hn: ∀u w',Post u w'→next (a.put o.dst u) w'):o.wp P a w next Q:=by
 unfold OpR at h
 unfold Oper.wp
 split at h
 ·rename_i u w' he;rw[he];exact hn _ _ h
 ·rename_i w' he;rw[he];exact hn _ _ h
 ·rename_i f args w' he
  rw[he]
  exact h.mono fun e w'' he2=>by obtain⟨u,rfl,h2⟩:=he2;exact hn _ _ h2
 ·exact h.elim
theorem opA_ok (G:Gam I K m hp w){fr:Nat→AV}{a:Act}(hf: ∀t,Rep k I m hp w (fr t) (a.eval (.tmp t)))(x:Operand):Rep k I m hp w (opA fr x) (a.eval x):=by
 cases x with
 |tmp t=>exact hf t
 |const v=>
  cases v with
  |agg us=>
   simp only[opA,Rep,Act.eval]
   refine⟨us.toList,rfl,(RepL_iff _ _).2 ⟨by simp,fun j a u h1 h2=>?_⟩⟩
   rw[List.getElem?_map,h2] at h1
   cases h1
   simp only[Rep]
  |_=>simp only[opA,Rep,Act.eval]
 |func f=>
  simp only[opA]
  split
  ·rename_i hlt
   simp only[Rep,Act.eval]
   exact⟨[],by simp[mkFn,hlt],by simp[RepL]⟩
  ·simp only[Rep]
 |global g=>
  simp only[opA]
  cases hg:globT g with
  |none=>simp only[Rep]
  |some vs=>
   obtain⟨g1,g2,_⟩:=G.gl g vs hg
   simp only[Rep,RepD,Act.eval]
   refine⟨g,0,vs,rfl,g1,g2,(RepDL_iff _ _).2 ⟨by simp,fun j a u h1 h2=>?_⟩⟩
   rw[List.getElem?_map,h2] at h1
   cases h1
   exact⟨rfl,globT_one hg _ (List.mem_of_getElem? h2)⟩
theorem CallPost.wx {ts:List TypeId}{rs:List AV}{u:Value}{w':World}(h:CallPost P I w ts rs u w'){I0:Nat→Prop}(hi: ∀b,I0 b→b<w.heap.size)(hk: ∀b,K b→b<w.heap.size):WX I0 K w w' where
 keep:=fun b hb=>h.old b (hb.elim (hi b) (hk b))
 size:=h.size
 os:=h.os
 tape:=h.tape
 output:=h.output
theorem Gam.world (G:Gam I K m hp w){w':World}{I':Nat→Prop}(hold: ∀b,b<w.heap.size→w'.heap[b]?=w.heap[b]?)(W:WX I K w w')(hi: ∀b,I b→I' b)(hi2: ∀b,I' b→I b∨w.heap.size≤b)(hi3: ∀b,I' b→b<w'.heap.size):
  Gam I' K m hp w'∧Ext I K m hp w I' m hp w':=by
 have E:Ext I K m hp w I' m hp w':={isub:=hi,keep:=W.keep,size:=W.size,os:=W.os,tape:=W.tape,output:=W.output,gmono:=fun _=>Nat.le_refl _,stable:=fun x _=>(by cases hp x<;>simp<;>exact⟨_,_,⟨rfl,rfl⟩,Nat.le_refl _⟩)}
 refine⟨G.step E (fun _=>False) (fun y _=>⟨rfl,rfl⟩) (fun y h=>h.elim) (fun y _ hl q hq=>hold _ (G.blk hl hq)) (fun y _ hl _ q hq hn hI=>?_) G.inj hi3 (fun b hb hk=>?_),E⟩
 ·rcases hi2 _ hI with h|h
  ·exact hn h
  ·exact Nat.lt_irrefl _ (Nat.lt_of_lt_of_le (G.blk hl hq) h)
 ·rcases hi2 b hb with h|h
  ·exact G.ik b h hk
  ·exact Nat.lt_irrefl _ (Nat.lt_of_lt_of_le (G.klt b hk) h)
theorem RepResL.flat : ∀{ts:List TypeId} {as:List AV} {us:List Value} {bs:List Nat} {J:Nat→Prop} {w':World},as.all allSc=true→RepResL P I w ts as us bs→RepResL P J w' ts as us bs:=by
 have cell: ∀{t:TypeId} {a:AV} {u:Value} {bs:List Nat} {J:Nat→Prop} {w':World} {v:Value},a= .sc v→RepH P I (fun _=>False) w t a u bs→RepH P J (fun _=>False) w' t a u bs:=by
  intro t a u bs J w' v e h
  subst e
  simpa only[RepH,RepD] using h
 have cells: ∀{cts:List TypeId} {as:List AV} {us:List Value} {bs:List Nat} {J:Nat→Prop} {w':World},(as.all fun| .sc _=>true|_=>false)=true→RepHL P I (fun _=>False) w cts as us bs→RepHL P J (fun _=>False) w' cts as us bs:=by
  intro cts as
  induction as generalizing cts with
  |nil=>
   intro us bs J w' _ h
   cases cts<;>exact h
  |cons a as ih=>
   intro us bs J w' hs h
   cases cts with
   |nil=>simp[RepHL] at h
   |cons t ts=>
    simp only[RepHL] at h⊢
    simp only[List.all_cons,Bool.and_eq_true] at hs
    obtain⟨u,us',b1,b2,e1,e2,h1,h2⟩:=h
    refine⟨u,us',b1,b2,e1,e2,?_,ih hs.2 h2⟩
    have ha:=hs.1
    cases a<;>simp at ha
    exact cell rfl h1
 intro ts
 induction ts with
 |nil=>
  intro as us bs J w' hs h
  cases as with
  |nil=>exact h
  |cons a as=>simp[RepResL] at h
 |cons t ts ih=>
  intro as us bs J w' hs h
  cases as with
  |nil=>simp[RepResL] at h
  |cons a as=>
   simp only[RepResL] at h⊢
   simp only[List.all_cons,Bool.and_eq_true] at hs
   obtain⟨u,us',b1,b2,e1,e2,h1,h2⟩:=h
   refine⟨u,us',b1,b2,e1,e2,?_,ih hs.2 h2⟩
   unfold RepRes at h1⊢
   split
   ·rename_i hagg
    rw[if_pos hagg] at h1
    obtain⟨cs,us,e3,e4,h3⟩:=h1
    subst e3
    exact⟨cs,us,rfl,e4,cells hs.1 h3⟩
   ·rename_i hagg
    rw[if_neg hagg] at h1
    have ha:=hs.1
    cases a with
    |sc v=>exact cell rfl h1
    |agg cs=>simp[RepH,RepD] at h1
    |_=>simp[allSc] at ha
theorem call_ok (G:Gam I K m hp w){E:Cfg}{call:Orc}(hC:OrcOk P call){d f:Nat}{args:List AV}{us:List Value}{v:AV}(hr:AllR (Rep k I m hp w) args us)(h:(callP P E k d call f args).run hp=some (v,hp')):
  okFn P f=true∧Calls P f ⟨us⟩ w (fun e w'=> ∃u,e= .returned u∧ ∃I' m',Sim I' K m' hp' w' v k I m hp w u):=by
 unfold callP at h
 split at h
 case isFalse=>simp[Prog.run] at h
 rename_i hok
 refine⟨hok,?_⟩
 split at h
 ·simp only[Prog.run] at h
  split at h
  ·rename_i v1 hp1 hx
   simp only[Option.some.injEq,Prod.mk.injEq] at h
   obtain⟨rfl,rfl⟩:=h
   exact hC.2 k d f args hp _ _ hx hok I K m w us G hr
  ·cases h
 obtain⟨as,hp1,r1,h2⟩:=run_bind_some h
 clear h
 split at h2
 case h_2=>simp[Prog.run] at h2
 rename_i rs hrs
 split at h2
 case isFalse=>simp[Prog.run] at h2
 rename_i hfl
 cases hflat:flatF P f with
 |false=>
  rw[hflat] at r1
  obtain⟨I1,G1,E1,d1⟩:=args_frz G hr r1
  refine(hC.1 f as rs hrs hok I1 w us G1.ilt G1.gl d1).mono fun e w' he=>?_
  obtain⟨u,rfl,hp⟩:=he
  refine⟨u,rfl,?_⟩
  obtain⟨I2,us',bs,rfl,i1,i2,i3,i4,i5,i6⟩:=hp.res
  obtain⟨G2,E2⟩:=G1.world hp.old (hp.wx G1.ilt G1.klt) i1 i2 i3
  obtain⟨m',G3,E3,R3⟩:=takeRes_ok G2 i6 (fun b hb hk=>Nat.lt_irrefl _ (Nat.lt_of_lt_of_le (G1.klt b hk) (i4 b hb).1)) i5 (fun b hb ⟨x,q,hx,hq,e⟩=>Nat.lt_irrefl _ (Nat.lt_of_lt_of_le (e▸G1.blk hx hq) (i4 b hb).1)) h2
  exact⟨I2,m',G3,(E1.trans E2).trans E3,R3⟩
 |true=>
  rw[hflat] at r1 hfl
  simp only[Bool.not_true,Bool.false_or] at hfl r1
  obtain⟨e1,d1⟩:=args_bor G hr r1
  rw[e1] at h2
  refine(hC.1 f as rs hrs hok _ w us (fun b hb=>hb.elim (G.ilt b) (fun⟨x,q,hx,hq,e⟩=>e▸G.blk hx hq)) (G.gl.mono (fun _ h=> .inl h) (fun _ _=>rfl)) d1).mono fun e w' he=>?_
  obtain⟨u,rfl,hp⟩:=he
  refine⟨u,rfl,?_⟩
  obtain⟨I2,us',bs,rfl,i1,i2,i3,i4,i5,i6⟩:=hp.res
  obtain⟨G2,E2⟩:=G.world hp.old (hp.wx G.ilt G.klt) (fun _ h=>h) (fun _ h=> .inl h) (fun b hb=>Nat.lt_of_lt_of_le (G.ilt b hb) hp.size)
  obtain⟨m',G3,E3,R3⟩:=takeRes_ok G2 (i6.flat hfl) (fun b hb hk=>Nat.lt_irrefl _ (Nat.lt_of_lt_of_le (G.klt b hk) (i4 b hb).1)) i5 (fun b hb ⟨x,q,hx,hq,e⟩=>Nat.lt_irrefl _ (Nat.lt_of_lt_of_le (e▸G.blk hx hq) (i4 b hb).1)) h2
  exact⟨I,m',G3,E2.trans E3,R3⟩
/-! ### one operation -/
theorem opR_value {o:Oper}{a:Act}{Post:Value→World→Prop}{u:Value}{w':World}(h:(execOp a.eval o).run P w= .ok (.value u) w')(hp:Post u w'):OpR P o a w Post:=by
 unfold OpR;rw[h];exact hp
theorem opR_skip {o:Oper}{a:Act}{Post:Value→World→Prop}{w':World}(h:(execOp a.eval o).run P w= .ok .skip w')(hp:Post undef w'):OpR P o a w Post:=by
 unfold OpR;rw[h];exact hp
theorem assign_ok (G:Gam I K m hp w){y:Nm}(hy:y.d≤k){t:TypeId}{a v:AV}{u:Value}(hr:Rep k I m hp w a u)(h:(assignP P y t a).run hp=some (v,hp')):
  ∃I' m',Sim I' K m' hp' w v k I m hp w u:=by
 unfold assignP at h
 split at h
 ·simp only[Rep] at hr
  subst hr
  split at h
  ·rename_i e he
   simp only[newArr,Prog.run,Option.some.injEq,Prod.mk.injEq] at h
   obtain⟨rfl,rfl⟩:=h
   obtain⟨G2,E2⟩:=G.virt y (P.cellsOf e) e
   refine⟨I,_,G2,E2,?_⟩
   simp only[Rep]
   refine⟨hy,by rw[upd_same];exact Nat.le_refl _,fun sz e' rows' fz hx=>?_⟩
   rw[upd_same] at hx
   cases hx
   exact⟨Nat.le_refl _,.inl ⟨upd_same _ _ _,trivial,rfl⟩⟩
  ·simp[Prog.run] at h
 ·simp only[Prog.run,Option.some.injEq,Prod.mk.injEq] at h
  obtain⟨rfl,rfl⟩:=h
  exact⟨I,m,G,.refl _ _ _ _ _,hr⟩
theorem parts_ok (G:Gam I K m hp w){fr:Nat→AV}{a:Act}(hf: ∀t,Rep k I m hp w (fr t) (a.eval (.tmp t))): ∀{l:List (Nat×Operand)} {x:Unit} {hp1:Hp},(chkL (l.map fun p=>opA fr p.2)).run hp=some (x,hp1)→
  hp1=hp∧PartsR k I m hp w (l.map fun p=>(p.1,opA fr p.2)) (l.map fun p=>(p.1,a.eval p.2))
 |[],x,hp1,h=>by
  simp only[List.map_nil,chkL,Prog.run,Option.some.injEq,Prod.mk.injEq] at h
  exact⟨h.2.symm,trivial⟩
 |p::l,x,hp1,h=>by
  simp only[List.map_cons,chkL] at h
  obtain⟨_,hp2,r1,h2⟩:=run_bind_some h
  obtain⟨e1,hc,_⟩:=cells_ok r1 (opA_ok G hf p.2)
  rw[e1] at h2
  obtain⟨e2,hp⟩:=parts_ok G hf h2
  exact⟨e2,rfl,hc,hp⟩
theorem zeros_ok {t:TypeId}{z:List Value}(h:zeros P t=some z): ∃i v,P.info? t=some i∧i.zero=some v∧z=v.cells.toList:=by
 unfold zeros at h
 cases hi:P.info? t with
 |none=>simp[hi] at h
 |some i=>
  cases hz:i.zero with
  |none=>simp[hi,hz] at h
  |some v=>simp[hi,hz] at h;exact⟨i,v,rfl,hz,h.symm⟩
theorem run_max_ab {P:Program}(w:World)(ts:Array TypeId)(t:TypeId)(k k':IntKind)(x y:Int):
  (Builtin.max_ ts t #[.int k x,.int k' y]).run P w= .ok (.int k (max x y)) w:=by
 have e:(if y>x then y else x)=max x y:=by
  rw[Int.max_def]
  split<;>split<;>omega
 simp[Builtin.max_,Builtin.max2,e]
theorem run_min_ab {P:Program}(w:World)(ts:Array TypeId)(t:TypeId)(k k':IntKind)(x y:Int):
  (Builtin.min_ ts t #[.int k x,.int k' y]).run P w= .ok (.int k (min x y)) w:=by
 have e:(if y<x then y else x)=min x y:=by
  rw[Int.min_def]
  split<;>split<;>omega
 simp[Builtin.min_,Builtin.min2,e]
theorem scalars_ok : ∀{cs:List AV} {us us':List Value},scalars cs=some us'→RepL k I m hp w cs us→us'=us
 |[],us,us',h,hr=>by
  simp only[scalars,Option.some.injEq] at h
  simp only[RepL] at hr
  rw[←h,hr]
 |c::cs,us,us',h,hr=>by
  simp only[RepL] at hr
  obtain⟨v,vs,rfl,h1,h2⟩:=hr
  unfold scalars at h
  split at h
  ·rename_i heq;cases heq
  ·rename_i v' cs' heq
   cases heq
   cases hs:scalars cs with
   |none=>rw[hs] at h;cases h
   |some us2=>
    rw[hs] at h
    simp only[Option.map_some,Option.some.injEq] at h
    simp only[Rep] at h1
    rw[←h,h1,scalars_ok hs h2]
  ·rename_i f cs' heq
   cases heq
   cases hs:scalars cs with
   |none=>rw[hs] at h;cases h
   |some us2=>
    rw[hs] at h
    simp only[Option.map_some,Option.some.injEq] at h
    simp only[Rep] at h1
    obtain⟨us3,h1,h3⟩:=h1
    simp only[RepL] at h3
    subst h3
    rw[←h,h1,scalars_ok hs h2]
  ·cases h
theorem evOp_ok {E:Cfg}(hE:ELaw P E){call:Orc}(hC:OrcOk P call)(G:Gam I K m hp w){fr:Nat→AV}{a:Act}(hf: ∀t,Rep k I m hp w (fr t) (a.eval (.tmp t))){o:Oper}{v:AV}
  (h:(evOp P E k call fr o).run hp=some (v,hp')):OpR P o a w (fun u w'=> ∃I' m',Sim I' K m' hp' w' v k I m hp w u):=by
 have hop:=opA_ok G hf
 obtain⟨dst,op,type,pos,after,guard⟩:=o
 unfold evOp at h
 cases op<;>simp only at h
 case move x=>
  simp only[Prog.run,Option.some.injEq,Prod.mk.injEq] at h
  obtain⟨rfl,rfl⟩:=h
  exact opR_value (by simp[execOp]) ⟨I,m,G,.refl _ _ _ _ _,hop x⟩
 case assign x=>
  exact opR_value (by simp[execOp]) (assign_ok G (Nat.le_refl k) (hop x) h)
 case pick c x y=>
  have hc:=hop c
  split at h
  ·rename_i t hct
   rw[hct] at hc
   simp only[Rep] at hc
   simp only[Prog.run,Option.some.injEq,Prod.mk.injEq] at h
   obtain⟨rfl,rfl⟩:=h
   refine opR_value (u:=if t then a.eval x else a.eval y) (w':=w) (by simp[execOp,hc,asBool]) ⟨I,m,G,.refl _ _ _ _ _,?_⟩
   cases t
   ·exact hop y
   ·exact hop x
  ·simp[Prog.run] at h
 case alloc t=>
  split at h
  ·rename_i z hz
   obtain⟨i,zv,hi,hzz,rfl⟩:=zeros_ok hz
   obtain⟨I',m',G',E',R'⟩:=newBox_ok (D:=k) (us:=zv.cells.toList) G ⟨by simp,fun j a u h1 h2=>by rw[List.getElem?_map,h2] at h1;cases h1;simp only[Rep]⟩ h
   exact opR_value (by simp[execOp,Instr.alloc,zeroValue,typeInfo,hi,hzz,newVar,newRow]) ⟨I',m',G',E',R'⟩
  ·simp[Prog.run] at h
 case box t x=>
  obtain⟨_,hp1,r1,h2⟩:=run_bind_some h
  obtain⟨e1,hc,_⟩:=cells_ok r1 (hop x)
  rw[e1] at h2
  obtain⟨I',m',G',E',R'⟩:=newBox_ok G hc h2
  exact opR_value (by simp[execOp,Instr.box,newVar,newRow]) ⟨I',m',G',E',R'⟩
 case build t parts=>
  obtain⟨_,hp1,r1,h2⟩:=run_bind_some h
  obtain⟨e1,hpr⟩:=parts_ok G hf r1
  rw[e1] at h2
  obtain⟨e2,u',hrun,hrep⟩:=build_ok (us:=parts.map fun p=>(p.1,a.eval p.2)) (by simpa using hpr) h2
  subst e2
  exact opR_value (by simp[execOp,hrun]) ⟨I,m,G,.refl _ _ _ _ _,hrep⟩
 case buildSlice t n parts=>
  obtain⟨_,hp1,r1,h2⟩:=run_bind_some h
  obtain⟨e1,hpr⟩:=parts_ok G hf r1
  rw[e1] at h2
  split at h2
  ·obtain⟨u',w',I',m',hrun,G',E',hrep⟩:=boxSlice_ok (us:=parts.map fun p=>(p.1,a.eval p.2)) G (by simpa using hpr) h2
   exact opR_value (by simp[execOp,hrun]) ⟨I',m',G',E',hrep⟩
  ·obtain⟨u',w',I',m',hrun,G',E',hrep⟩:=buildSlice_ok (us:=parts.map fun p=>(p.1,a.eval p.2)) G (Nat.le_refl k) (by simpa using hpr) h2
   exact opR_value (by simp[execOp,hrun]) ⟨I',m',G',E',hrep⟩
 case makeFunc fn first caps=>
  cases fn with
  |func f=>
   have hcap: ∀xs:Array Operand,RepL k I m hp w (xs.toList.map (opA fr)) (xs.toList.map a.eval):=fun xs=>(RepL_iff _ _).2 ⟨by simp,fun j x u h1 h2=>by
    rw[List.getElem?_map] at h1 h2
    cases hj:xs.toList[j]? with
    |none=>rw[hj] at h1;cases h1
    |some z=>rw[hj] at h1 h2;cases h1;cases h2;exact hop z⟩
   simp only at h
   split at h
   ·rename_i hlt
    split at h
    ·rename_i he
     simp only[Prog.run,Option.some.injEq,Prod.mk.injEq] at h
     obtain⟨rfl,rfl⟩:=h
     obtain rfl:first= #[]:=Array.isEmpty_iff.1 he
     refine opR_value (u:= .func (.func f) #[] (caps.map a.eval)) (w':=w) (by simp[execOp,Instr.makeFunc]) ⟨I,m,G,.refl _ _ _ _ _,?_⟩
     simp only[Rep]
     refine⟨caps.toList.map a.eval,?_,hcap caps⟩
     simp only[mkFn,if_pos hlt]
     congr 1;apply Array.ext';simp
    ·split at h
     ·rename_i he
      simp only[Prog.run,Option.some.injEq,Prod.mk.injEq] at h
      obtain⟨rfl,rfl⟩:=h
      obtain rfl:caps= #[]:=Array.isEmpty_iff.1 he
      refine opR_value (u:= .func (.func f) (first.map a.eval) #[]) (w':=w) (by simp[execOp,Instr.makeFunc]) ⟨I,m,G,.refl _ _ _ _ _,?_⟩
      simp only[Rep]
      refine⟨first.toList.map a.eval,?_,hcap first⟩
      have hn: ¬((f:Nat)+1000000<1000000):=Nat.not_lt.2 (Nat.le_add_left 1000000 f)
      simp only[mkFn,if_neg hn,Nat.add_sub_cancel]
      congr 1;apply Array.ext';simp
     ·simp[Prog.run] at h
   ·simp[Prog.run] at h
  |_=>simp only at h;simp[Prog.run] at h
 case load t x=>
  obtain⟨rfl,u',hrun,hrep⟩:=load_ok P G (hop x) h
  exact opR_value (by simp[execOp,hrun]) ⟨I,m,G,.refl _ _ _ _ _,hrep⟩
 case store t x y=>
  split at h
  ·rename_i hi
   obtain⟨_,hp1,r1,h2⟩:=run_bind_some h
   obtain⟨e1,hc,_⟩:=cells_ok r1 (hop y)
   rw[e1] at h2
   obtain⟨rfl,w',I',m',hrun,G',E'⟩:=store_ok G (hop x) hc h2 hi
   exact opR_skip (by simp[execOp,hrun]) ⟨I',m',G',E',by simp only[Rep]⟩
  ·simp[Prog.run] at h
 case makeMap t r=>
  cases r with
  |some r=>simp only at h;simp[Prog.run] at h
  |none=>
   simp only at h
   split at h
   ·simp only[Prog.run,Option.some.injEq,Prod.mk.injEq] at h
    obtain⟨rfl,rfl⟩:=h
    obtain⟨m',G',E',hrep⟩:=makeMap_ok (k:=k) G (y:=⟨k,E.off+dst.getD 0,0⟩) (Nat.le_refl k)
    exact opR_value (by simp[execOp,Instr.makeMap]) ⟨I,m',G',E',hrep⟩
   ·simp[Prog.run] at h
 case lookup t x i ok=>
  obtain⟨rfl,u',hrun,hrep⟩:=lookup_ok G (hop x) (hop i) h
  exact opR_value (by simp[execOp,hrun]) ⟨I,m,G,.refl _ _ _ _ _,hrep⟩
 case mapUpdate t x i y=>
  obtain⟨_,hp1,r1,h2⟩:=run_bind_some h
  obtain⟨e1,hc,us,hu,hu2⟩:=cells_ok r1 (hop y)
  rw[e1] at h2
  obtain⟨rfl,w',I',m',hrun,G',E'⟩:=insert_ok G (hop x) (hop i) hc ⟨us,hu⟩ hu2 h2
  exact opR_skip (by simp[execOp,hrun]) ⟨I',m',G',E',by simp only[Rep]⟩
 case insert t x i y=>
  obtain⟨_,hp1,r1,h2⟩:=run_bind_some h
  obtain⟨e1,hc,us,hu,hu2⟩:=cells_ok r1 (hop y)
  rw[e1] at h2
  obtain⟨rfl,w',I',m',hrun,G',E'⟩:=insert_ok G (hop x) (hop i) hc ⟨us,hu⟩ hu2 h2
  exact opR_skip (by simp[execOp,hrun]) ⟨I',m',G',E',by simp only[Rep]⟩
 case makeInterface t x=>
  split at h
  case isFalse=>simp[Prog.run] at h
  rename_i hni
  have hrun: ∀u,(Instr.makeInterface t u).run P w= .ok (.iface t u) w:=fun u=>by
   unfold notIface at hni
   cases hu:P.underlying t with
   |none=>rw[hu] at hni;cases hni
   |some d=>
    rw[hu] at hni
    cases d<;>first|(simp at hni;done)|simp[Instr.makeInterface,run_underlying hu]
  have hx:=hop x
  split at h
  ·rename_i v' hv
   rw[hv] at hx
   simp only[Rep] at hx
   simp only[Prog.run,Option.some.injEq,Prod.mk.injEq] at h
   obtain⟨rfl,rfl⟩:=h
   exact opR_value (u:= .iface t v') (w':=w) (by simp[execOp,hx,hrun]) ⟨I,m,G,.refl _ _ _ _ _,by simp only[Rep]⟩
  ·rename_i cs hv
   rw[hv] at hx
   simp only[Rep] at hx
   obtain⟨us,hu,hx⟩:=hx
   split at h
   ·rename_i us' hs
    simp only[Prog.run,Option.some.injEq,Prod.mk.injEq] at h
    obtain⟨rfl,rfl⟩:=h
    have:=scalars_ok hs hx
    subst this
    exact opR_value (u:= .iface t (.agg ⟨us'⟩)) (w':=w) (by simp[execOp,hu,hrun]) ⟨I,m,G,.refl _ _ _ _ _,by simp only[Rep]⟩
   ·simp[Prog.run] at h
  ·simp[Prog.run] at h
 case nilCheck x=>
  obtain⟨rfl,b,o,hu,hrep⟩:=shift_ok (hop x) h
  exact opR_value (u:=a.eval x) (w':=w) (by simp[execOp,hu]) ⟨I,m,G,.refl _ _ _ _ _,by rw[hu];simpa using hrep⟩
 case binOp op t x y p=>
  split at h
  ·rename_i v' hv
   simp only[Prog.run,Option.some.injEq,Prod.mk.injEq] at h
   obtain⟨rfl,rfl⟩:=h
   obtain⟨r,hrun,hrep⟩:=bin_ok (x:=x) (y:=y) hE.1 (hop x) (hop y) hv
   refine opR_value (u:=r) (w':=w) ?_ ⟨I,m,G,.refl _ _ _ _ _,hrep⟩
   show((do let x←(do eqGuard op t x y (a.eval x) (a.eval y);Go.binOp op t (a.eval x) (a.eval y):Sem Value);pure (Next.value x)):Sem Next).run P w=_
   rw[Sem.run_bind,hrun]
   rfl
  ·simp[Prog.run] at h
 case unOp op t x=>
  split at h
  ·rename_i v' hv
   simp only[Prog.run,Option.some.injEq,Prod.mk.injEq] at h
   obtain⟨rfl,rfl⟩:=h
   obtain⟨r,hrun,hrep⟩:=un_ok (P:=P) (hop x) hv
   exact opR_value (u:=r) (w':=w) (by simp[execOp,hrun]) ⟨I,m,G,.refl _ _ _ _ _,hrep⟩
  ·simp[Prog.run] at h
 case convert s d x=>
  obtain⟨u',w',m',hrun,G',E',hrep⟩:=convert_ok G (Nat.le_refl k) (hop x) h
  exact opR_value (by simp[execOp,hrun]) ⟨I,m',G',E',hrep⟩
 case makeSlice t l c=>
  split at h
  ·obtain⟨u',w',m',hrun,G',E',hrep⟩:=makeB_ok G (hop l) (hop c) h
   exact opR_value (by simp[execOp,hrun]) ⟨I,m',G',E',hrep⟩
  ·obtain⟨u',w',m',hrun,G',E',hrep⟩:=make_ok G (Nat.le_refl k) (hop l) (hop c) h
   exact opR_value (by simp[execOp,hrun]) ⟨I,m',G',E',hrep⟩
 case slice t x lo hi mx=>
  have ho: ∀z:Option Operand,oRep k I m hp w (z.map (opA fr)) (z.map a.eval):=fun z=>by
   cases z with
   |none=>trivial
   |some z=>exact hop z
  obtain⟨I',u',hrun,G',E',hrep⟩:=slice_ok G (hop x) (ho lo) (ho hi) (ho mx) h
  exact opR_value (by simp only[execOp,Sem.run_bind,hrun];rfl) ⟨I',m,G',E',hrep⟩
 case fieldAddr s x f=>
  obtain⟨rfl,u',hrun,hrep⟩:=field_ok (hop x) h
  exact opR_value (by simp[execOp,hrun]) ⟨I,m,G,.refl _ _ _ _ _,hrep⟩
 case field t x f=>
  obtain⟨rfl,u',hrun,hrep⟩:=fieldV_ok (hop x) h
  exact opR_value (by simp[execOp,hrun]) ⟨I,m,G,.refl _ _ _ _ _,hrep⟩
 case indexAddr t x i=>
  obtain⟨rfl,u',hrun,hrep⟩:=index_ok (hop x) (hop i) h
  exact opR_value (by simp[execOp,hrun]) ⟨I,m,G,.refl _ _ _ _ _,hrep⟩
 case index t x i=>
  obtain⟨rfl,u',hrun,hrep⟩:=indexV_ok (hop x) (hop i) h
  exact opR_value (by simp[execOp,hrun]) ⟨I,m,G,.refl _ _ _ _ _,hrep⟩
 case extract t i=>
  have hx:=hop t
  split at h
  ·rename_i vs hvs
   rw[hvs] at hx
   simp only[Rep] at hx
   obtain⟨us,hu,hall⟩:=hx
   split at h
   ·rename_i v' hv
    simp only[Prog.run,Option.some.injEq,Prod.mk.injEq] at h
    obtain⟨rfl,rfl⟩:=h
    obtain⟨u,h1,h2⟩:=((RepL_iff _ _).1 hall).get hv
    exact opR_value (u:=u) (w':=w) (by simp[execOp,hu,Instr.extract,h1]) ⟨I,m,G,.refl _ _ _ _ _,h2⟩
   ·simp[Prog.run] at h
  ·simp[Prog.run] at h
 case call c=>
  obtain⟨callee,args,argTypes⟩:=c
  simp only at h
  split at h
  ·rename_i x t e2 e3
   have e2':args= #[x]:=Array.ext' e2
   have e3':argTypes= #[t]:=Array.ext' e3
   subst e2' e3'
   obtain⟨rfl,u',hrun,hrep⟩:=len_ok (ty:=type) (hop x) h
   exact opR_value (by simp[execOp,resolve,invoke,builtin,hrun]) ⟨I,m,G,.refl _ _ _ _ _,hrep⟩
  ·rename_i s x t t' e2 e3
   have e2':args= #[s,x]:=Array.ext' e2
   have e3':argTypes= #[t,t']:=Array.ext' e3
   subst e2' e3'
   split at h
   ·obtain⟨u',w',I',m',hrun,G',E',hrep⟩:=appendB_ok (ty:=type) G (y:=⟨k,E.off+dst.getD 0,0⟩) (Nat.le_refl k) (hop s) (hop x) h
    exact opR_value (by simp[execOp,resolve,invoke,builtin,hrun]) ⟨I',m',G',E',hrep⟩
   ·obtain⟨u',w',m',hrun,G',E',hrep⟩:=append_ok (ty:=type) G (Nat.le_refl k) (hop s) (hop x) h
    exact opR_value (by simp[execOp,resolve,invoke,builtin,hrun]) ⟨I,m',G',E',hrep⟩
  ·rename_i s x t t' e2 e3
   have e2':args= #[s,x]:=Array.ext' e2
   have e3':argTypes= #[t,t']:=Array.ext' e3
   subst e2' e3'
   obtain⟨u',w',hrun,G',E',hrep⟩:=copy_ok (t':=t') (ty:=type) G (hop s) (hop x) h
   exact opR_value (by simp[execOp,resolve,invoke,builtin,hrun]) ⟨I,m,G',E',hrep⟩
  ·rename_i _ x y e2
   have e2':args= #[x,y]:=Array.ext' e2
   subst e2'
   split at h
   ·rename_i kd n kd' n' hx hy
    have h1:=hop x
    have h2:=hop y
    rw[hx] at h1
    rw[hy] at h2
    simp only[Rep] at h1 h2
    simp only[Prog.run,Option.some.injEq,Prod.mk.injEq] at h
    obtain⟨rfl,rfl⟩:=h
    refine opR_value (u:= .int kd (min n n')) ?_ ⟨I,m,G,.refl _ _ _ _ _,by simp only[Rep]⟩
    have hrun:=fun ts t=>run_min_ab (P:=P) w ts t kd kd' n n'
    simp[execOp,resolve,invoke,builtin,h1,h2,hrun]
   ·simp[Prog.run] at h
  ·rename_i _ x y e2
   have e2':args= #[x,y]:=Array.ext' e2
   subst e2'
   split at h
   ·rename_i kd n kd' n' hx hy
    have h1:=hop x
    have h2:=hop y
    rw[hx] at h1
    rw[hy] at h2
    simp only[Rep] at h1 h2
    simp only[Prog.run,Option.some.injEq,Prod.mk.injEq] at h
    obtain⟨rfl,rfl⟩:=h
    refine opR_value (u:= .int kd (max n n')) ?_ ⟨I,m,G,.refl _ _ _ _ _,by simp only[Rep]⟩
    have hrun:=fun ts t=>run_max_ab (P:=P) w ts t kd kd' n n'
    simp[execOp,resolve,invoke,builtin,h1,h2,hrun]
   ·simp[Prog.run] at h
  ·rename_i x
   split at h
   case h_3=>simp[Prog.run] at h
   case h_2=>rename_i l _ _ _;rw[if_neg (by rw[hE.2 l];simp)] at h;simp[Prog.run] at h
   rename_i f cs hx
   have hxr:=hop x
   rw[hx] at hxr
   simp only[Rep] at hxr
   obtain⟨us,hu,hcs⟩:=hxr
   have hall0:AllR (Rep k I m hp w) (args.toList.map (opA fr)) (args.toList.map a.eval):=by
    refine⟨by simp,fun j x u h1 h2=>?_⟩
    rw[List.getElem?_map] at h1 h2
    cases hj:args.toList[j]? with
    |none=>rw[hj] at h1;cases h1
    |some z=>rw[hj] at h1 h2;cases h1;cases h2;exact hop z
   obtain⟨vs,hall,hvs⟩: ∃vs,AllR (Rep k I m hp w) (fnA f (args.toList.map (opA fr)) cs) vs∧(⟨vs⟩:Array Value)=(if f<1000000 then #[] else⟨us⟩)++args.map a.eval++(if f<1000000 then⟨us⟩ else #[]):=by
    unfold fnA
    by_cases hlt:f<1000000
    ·simp only[if_pos hlt]
     exact⟨_,hall0.append ((RepL_iff _ _).1 hcs),by apply Array.ext';simp⟩
    ·simp only[if_neg hlt]
     exact⟨_,((RepL_iff _ _).1 hcs).append hall0,by apply Array.ext';simp⟩
   obtain⟨hok,hcalls⟩:=call_ok G hC hall h
   rw[hvs] at hcalls
   clear hvs hall h
   have hu2:a.eval x= .func (.func (fnN f)) (if f<1000000 then #[] else⟨us⟩) (if f<1000000 then⟨us⟩ else #[]):=hu
   generalize (if f<1000000 then(#[]:Array Value) else⟨us⟩)=FA at hu2 hcalls
   generalize (if f<1000000 then(⟨us⟩:Array Value) else #[])=FB at hu2 hcalls
   generalize fnN f=F at hu2 hcalls hok
   unfold okFn at hok
   split at hok
   ·rename_i fn hfn
    simp only[Bool.and_eq_true,Bool.not_eq_true'] at hok
    have hrun:(execOp a.eval ⟨dst,.call ⟨.value x,args,argTypes⟩,type,pos,after,guard⟩).run P w= .ok (.enter F (FA++args.map a.eval++FB)) w:=by
     have hb:fn.body≠none:=fun hq=>by simp[hq] at hok
     have hnm:fn.name≠ "runtime.NumGoroutine" :=by simpa using hok.2
     simp[execOp,resolve,hu2,Deferred.ofValue,invoke,callFunc,hfn,hnm,hb]
    unfold OpR
    rw[hrun]
    exact hcalls
   ·cases hok
  ·simp[Prog.run] at h
 all_goals simp[Prog.run] at h
end
end
end Go.Ab
