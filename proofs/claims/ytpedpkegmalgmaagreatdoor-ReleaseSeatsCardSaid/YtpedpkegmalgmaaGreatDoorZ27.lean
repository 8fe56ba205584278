/- A part of the proof: J2, J3, I22, Wc, Wl, Oq, Ot. -/
import Derived.Test.YtpedpkegmalgmaaGreatDoorZ26
import Derived.RegionIn
import Derived.BigRegionIn
import Derived.RangeFuncNested
import Derived.Lib.Hide
import Derived.Test.YtpedpkegmalgmaaGreatDoorZ02
import Derived.Test.YtpedpkegmalgmaaGreatDoorZ12
import Derived.Test.YtpedpkegmalgmaaGreatDoorZ05
import Derived.Test.YtpedpkegmalgmaaGreatDoorZ22
import Derived.Test.YtpedpkegmalgmaaGreatDoorZ17
import Derived.Test.YtpedpkegmalgmaaGreatDoorZ19
set_option linter.unusedSimpArgs false
set_option linter.unusedVariables false
set_option maxRecDepth 200000
set_option maxHeartbeats 8000000
namespace Go.Proofs.YtpedpkegmalgmaaGreatDoor.K
section
open Go Go.RowKit Go.Shelf
attribute [local go_sem] Oper.semAt_some
theorem collect_in (F:Fence)(n:Nat)(h29:F.fn 126)(h35:F.fn 152)(h36:F.fn 153)(hro:F.round=none)(hn:4≤n)(Bs:Nat)(s:ByteArray)(hs:s.size≤1048576)(w:World)(hBs:Bs<w.heap.size)(hc:w.cell? ⟨Bs,0,none⟩=some (.string s)):
  CallsIn F n Tryz.prog 126 #[wrdF Bs] w fun e W'=> ∃v,e= .returned v∧W'.ownsRow w.heap.size 22 1 v (wordsOf s).length ((wordsOf s).map (Value.int .u32))∧Below w.heap.size w W':=by
 have h1:1≤n:=by omega
 refine callsIn_of_wp Tryz.func126 rfl h29 ?_ hro
 simp only[Tryz.ntmps126,List.size_toArray,List.length_cons,List.length_nil,Nat.reduceAdd,Nat.reduceSub,Array.replicate_succ,Array.replicate_zero,List.push_toArray,List.append_toArray,List.nil_append,List.cons_append]
 gi_wp2_with (gi_at_call 152;refine(appendSeq_in F (n - 1) h35 h36 hro (by omega) Bs s hs _ hBs hc).mono ?_;rintro e w' ⟨v,rfl,hown,hB⟩)
 go_ret
 exact⟨_,rfl,hown,hB⟩
def badR :Value:= .tuple #[.agg #[.slice none 0 0,.int .i64 0],.int .i64 7]
def isImg (s:ByteArray):Prop:=12≤s.size∧s.extract 0 4=⟨#[83,69,69,68]⟩∧s.size≤65548∧wordAt s 8≤32768∧(s.size:Int)=12+4*wordAt s 4
theorem own_cell {w:World}{base n:Nat}{v:Value}{xs:List Value}(h:w.ownsRow base 22 1 v n xs)(hn:0<n): ∃g cap,v= .slice (some ⟨g,0,none⟩) n cap∧base≤g∧g<w.heap.size∧n≤cap∧ ∀i,i<n→w.cell? ⟨g,i,none⟩=xs[i]?:=by
 obtain⟨hl,⟨rfl,h0⟩|⟨g,cap,cur,rfl,hb,hg,hc,hm,hs,ht⟩⟩:=h
 ·omega
 ·refine⟨g,cap,rfl,hb,(Array.getElem?_eq_some_iff.1 hg).1,hc,fun i hi=>?_⟩
  rw[←ht,List.getElem?_take_of_lt (by omega)]
  simp[World.cell?,hg]
theorem cell_of_block {w:World}{b i:Nat}{cs:Array Value}{t:TypeId}{v:Value}(h:w.heap[b]?=some (.cells cs t))(hi:cs[i]?=some v):w.cell? ⟨b,i,none⟩=some v:=by
 simp[World.cell?,h,hi]
theorem frozen_of_block {w:World}{b:Nat}{cs:Array Value}{t:TypeId}(h:w.heap[b]?=some (.cells cs t))(i:Nat):w.frozen? ⟨b,i,none⟩=false:=by
 simp[World.frozen?,h]
theorem grown_set (W:World)(b i:Nat)(v:Value):W.grownBy (W.setCell ⟨b,i,none⟩ v) (some b):=
 ⟨rfl,rfl,rfl,(KeepsWalks.setCell W _ v).size,fun k _ hk=>Below.heap_setCell _ _ _ k (fun e=>hk (by rw[e]))⟩
theorem own_base {W:World}{b b' n:Nat}{v:Value}{xs:List Value}(h:W.ownsRow b 22 1 v n xs)(hb:b'≤b):W.ownsRow b' 22 1 v n xs:=
 ⟨h.1,h.2.imp id fun⟨g,cap,cur,h1,h2,h3⟩=>⟨g,cap,cur,h1,by omega,h3⟩⟩
theorem heap_set {W:World}{b i:Nat}{cs:Array Value}{t:TypeId}{fz:Nat×Nat}(h:W.heap[b]?=some (.cells cs t fz))(v:Value):(W.setCell ⟨b,i,none⟩ v).heap[b]?=some (.cells (cs.setIfInBounds i v) t fz):=by
 simp[World.setCell,Array.getElem?_modify,h]
theorem wordAt_range (s:ByteArray)(i:Nat):0≤wordAt s i∧wordAt s i<4294967296:=by
 have h0:=byteAt_range s i
 have h1:=byteAt_range s (i+1)
 have h2:=byteAt_range s (i+2)
 have h3:=byteAt_range s (i+3)
 unfold wordAt
 omega
theorem wordsOf_two (s:ByteArray)(h:12≤s.size):wordsOf (s.extract 4 12)=[wordAt s 4,wordAt s 8]:=by
 have hsz:(s.extract 4 12).size=8:=by rw[ByteArray.size_extract];omega
 unfold wordsOf upto
 rw[hsz]
 have hb: ∀i,i<8→byteAt (s.extract 4 12) i=byteAt s (4+i):=fun i hi=>by
  unfold byteAt
  rw[ByteArray.data_extract]
  congr 2
  have hl:i<(List.take 8 (List.drop 4 s.data.toList)).length:=by
   have:s.data.size=s.size:=rfl
   simp;omega
  simp[List.getD_eq_getElem?_getD,List.getElem?_take_of_lt hi]
 simp[List.range_succ,wordAt,hb]
theorem info28 :(Tryz.prog.info? 169).map (·.size)=some 2:=by kernel_rfl
theorem results22 {tmps:Array Value}{w:World}{g:Nat}{cs:Array Value}{fr:Nat×Nat}{e:Value}(h2:tmps.getD 2 undef= .pointer (some ⟨g,0,none⟩))(hg:w.heap[g]?=some (.cells cs 169 fr))(hs:cs.size=2)(h3:tmps.getD 3 undef=e):
  (results Tryz.f111 tmps).run Tryz.prog w= .ok (.tuple #[.agg cs,e]) w:=by
 rw[results_cell_tmp (p:=2) (u:=3) (ty:=169) rfl,h2,h3]
 simp[asAddr,run_loadVar_row w g 169 169 cs fr _ hg Tryz.underlying169 rfl (by rw[info28,hs]),Result.andThen]
theorem read_in (F:Fence)(n:Nat)(h22:F.fn 111)(h29:F.fn 126)(h30:F.fn 127)(h35:F.fn 152)(h36:F.fn 153)(hro:F.round=none)(hn:6≤n)(s:ByteArray)(hs:s.size≤1048576)(w:World):
  CallsIn F n Tryz.prog 111 #[.string s] w fun e W'=>(¬isImg s∧e= .returned badR∧Below w.heap.size w W')∨
   (isImg s∧ ∃v,e= .returned (.tuple #[.agg #[v,.int .i64 (wordAt s 8)],.int .i64 0])∧W'.ownsRow w.heap.size 22 1 v (wordsOf (s.extract 12 s.size)).length ((wordsOf (s.extract 12 s.size)).map (Value.int .u32))∧Below w.heap.size w W'):=by
 have h1:1≤n:=by omega
 obtain⟨i0,hi,hz0,hz1,hz2⟩:=info_parts info36
 refine callsIn_of_wp_marks Tryz.func111 rfl h22 ?_ hro
 simp only[Tryz.ntmps111,List.size_toArray,List.length_cons,List.length_nil,Nat.reduceAdd,Nat.reduceSub,Array.replicate_succ,Array.replicate_zero,List.push_toArray,List.append_toArray,List.nil_append,List.cons_append]
 have hB1:Below w.heap.size w (w.alloc (.cells #[.slice none 0 0,.int .i64 0] 169)):=(Below.refl _ w).alloc (Nat.le_refl _) _
 have hB2:Below w.heap.size w ((w.alloc (.cells #[.slice none 0 0,.int .i64 0] 169)).alloc (.cells #[.string (s.extract 4 12)] 9)):=hB1.alloc (by simp) _
 have hcs:=Boxed.new (w.alloc (.cells #[.slice none 0 0,.int .i64 0] 169)) 9 (.string (s.extract 4 12))
 rw[World.size_alloc] at hcs
 have hx4:(s.extract 4 12).size≤1048576:=by rw[ByteArray.size_extract];omega
 by_cases c0:s.size<12
 ·have d0:(s.size:Int)<12:=by omega
  gi_wp2
  exact⟨_,results22 rfl (World.alloc_heap_new w _) rfl rfl,.inl ⟨fun h=>by have:=h.1;omega,rfl,hB1⟩⟩
 ·have d0: ¬(s.size:Int)<12:=by omega
  by_cases c1:s.extract 0 4=⟨#[83,69,69,68]⟩
  ·have hm:(s.extract 0 4).toList=[83,69,69,68]:=by rw[c1,ByteArray.toList_eq]
   by_cases c2:65548<s.size
   ·have d2:(65548:Int)<s.size:=by omega
    gi_wp2
    exact⟨_,results22 rfl (World.alloc_heap_new w _) rfl rfl,.inl ⟨fun h=>by have:=h.2.2.1;omega,rfl,hB1⟩⟩
   ·have d2: ¬(65548:Int)<s.size:=by omega
    have hcol:=fun w0 (h:w.heap.size+1<w0.heap.size) hc=>collect_in F (n - 1) h29 h35 h36 hro (by omega) (w.heap.size+1) (s.extract 4 12) hx4 w0 h hc
    rw[wordsOf_two s (by omega)] at hcol
    have x4:=wordAt_range s 4
    have x8:=wordAt_range s 8
    have u4:IntKind.u64.wrap (wordAt s 4)=wordAt s 4:=by rw[IntKind.wrap_u64];omega
    have u44:IntKind.u64.wrap (4*wordAt s 4)=4*wordAt s 4:=by rw[IntKind.wrap_u64];omega
    have u12:IntKind.u64.wrap (12+4*wordAt s 4)=12+4*wordAt s 4:=by rw[IntKind.wrap_u64];omega
    have hres0:((w.alloc (.cells #[.slice none 0 0,.int .i64 0] 169)).alloc (.cells #[.string (s.extract 4 12)] 9)).heap[w.heap.size]?=some (.cells #[.slice none 0 0,.int .i64 0] 169):=(Below.heap_alloc _ _ _ (by simp)).trans (World.alloc_heap_new w _)
    have bad: ∀w2:World,Below (w.heap.size+1+1) ((w.alloc (.cells #[.slice none 0 0,.int .i64 0] 169)).alloc (.cells #[.string (s.extract 4 12)] 9)) w2→w2.heap[w.heap.size]?=some (.cells #[.slice none 0 0,.int .i64 0] 169)→
      ((w2.setCell ⟨w.heap.size,0,none⟩ (.slice none 0 0)).setCell ⟨w.heap.size,1,none⟩ (.int .i64 0)).heap[w.heap.size]?=some (.cells #[.slice none 0 0,.int .i64 0] 169)∧Below w.heap.size w ((w2.setCell ⟨w.heap.size,0,none⟩ (.slice none 0 0)).setCell ⟨w.heap.size,1,none⟩ (.int .i64 0)):=fun w2 h1 h2=>
     ⟨heap_set (heap_set h2 _) _,((hB2.trans (h1.mono (by omega))).setCell (p:=⟨w.heap.size,0,none⟩) (Nat.le_refl _) _).setCell (p:=⟨w.heap.size,1,none⟩) (Nat.le_refl _) _⟩
    by_cases c3:32768<wordAt s 8
    ·gi_wp2_with (first|(gi_at_call 127;refine(words_in F (n - 1) h30 hro _ _).mono ?_;rintro e w' ⟨rfl,rfl⟩)|(gi_at_call 126;refine(hcol _ (by simp) hcs.cell).mono ?_;rintro e w2 ⟨v2,rfl,hown2,hC2⟩;obtain⟨g2,cap2,rfl,hg2,hg2',hcap2,hcell2⟩:=own_cell hown2 (by simp);have hk0:=hcell2 0 (by simp);have hk1:=hcell2 1 (by simp);simp at hk0 hk1;have hrb:=(hC2.block w.heap.size (by simp;omega)).trans hres0;have hr0:=cell_of_block hrb (i:=0) rfl;have hr1:=cell_of_block hrb (i:=1) rfl;have hf0:=frozen_of_block hrb 0;have hf1:=frozen_of_block hrb 1))
     obtain⟨z1,z2⟩:=bad w2 (by simpa using hC2) hrb
     exact⟨_,results22 rfl z1 rfl rfl,.inl ⟨fun h=>by have:=h.2.2.2.1;omega,rfl,z2⟩⟩
    ·by_cases c4:(s.size:Int)=12+4*wordAt s 4
     ·have c5:((s.size:Int)!=12+4*wordAt s 4)=false:=by simp[c4]
      have hmx:(wordAt s 4).toNat≤maxLen:=by unfold maxLen;omega
      have hNe:wordAt s 4=((wordAt s 4).toNat:Int):=by omega
      have HC4:=Lib.hid c4
      have HN:=Lib.hid hNe
      clear c4 hNe
      gi_wp2_with (first|(gi_at_call 127;refine(words_in F (n - 1) h30 hro _ _).mono ?_;rintro e w' ⟨rfl,rfl⟩)|(gi_at_call 126;refine(hcol _ (by simp) hcs.cell).mono ?_;rintro e w2 ⟨v2,rfl,hown2,hC2⟩;obtain⟨g2,cap2,rfl,hg2,hg2',hcap2,hcell2⟩:=own_cell hown2 (by simp);have hk0:=hcell2 0 (by simp);have hk1:=hcell2 1 (by simp);simp at hk0 hk1;have hrb:=(hC2.block w.heap.size (by simp;omega)).trans hres0;have hr0:=cell_of_block hrb (i:=0) rfl;have hr1:=cell_of_block hrb (i:=1) rfl;have hf0:=frozen_of_block hrb 0;have hf1:=frozen_of_block hrb 1)|(gi_at_make;refine wpListIn_make_own _ rfl _ _ 85 rfl w2.heap.size 22 i0 (.int .u32 0) 1 Tryz.underlying85 hi hz0 hz1 .i64 .u32 (wordAt s 4) (wordAt s 4).toNat rfl rfl HN.out (by rw[hz2];omega) hmx (Nat.le_refl _) ?_;intro w3 hown3 hgrow3))
      have hx12:(s.extract 12 s.size).size≤1048576:=by rw[ByteArray.size_extract];omega
      have h23:w2.heap.size≤w3.heap.size:=hgrow3.size
      have bC:=Boxed.new w3 85 (.slice (some ⟨w2.heap.size,0,none⟩) 0 (wordAt s 4).toNat)
      have bS:=Boxed.new (w3.alloc (.cells #[.slice (some ⟨w2.heap.size,0,none⟩) 0 (wordAt s 4).toNat] 85)) 9 (.string (s.extract 12 s.size))
      rw[World.size_alloc] at bS
      have hC3:Below w2.heap.size w2 ((w3.alloc (.cells #[.slice (some ⟨w2.heap.size,0,none⟩) 0 (wordAt s 4).toNat] 85)).alloc (.cells #[.string (s.extract 12 s.size)] 9)):=(((Below.refl w2.heap.size w2).grown hgrow3 (Nat.le_refl _) (fun k e=>by cases e)).alloc h23 _).alloc (by simp;omega) _
      refine wpIn_rangeFunc_ownG hro h1 (gf:=153) (lb:= #[.pointer (some ⟨w3.heap.size+1,0,none⟩)]) rfl h36 (enters_of Tryz.func153 (by kernel_rfl) rfl)
       (words_stopsB F (n - 1) h36 hro (by omega) (w3.heap.size+1) (s.extract 12 s.size) hx12 _ (by simp) bS.cell) (fun h h'=>Eq.trans h' h) ?kb (Below.refl _ _) (fun _=>rfl)
       (fun pre W=>(∃v,Boxed W w3.heap.size 85 v∧W.ownsRow w2.heap.size 22 1 v pre.length (pre.map (Value.int .u32))∧True)∧Boxed W (w3.heap.size+1) 9 (.string (s.extract 12 s.size))∧Below w2.heap.size w2 W)
       (fun _ _ _=>False)
       (OwnFrom.and (Own.from (holdsRow_own w2.heap.size w3.heap.size 85 22 1 (fun pre:List Int=>pre.length) (fun pre:List Int=>pre.map (Value.int .u32)) (fun _ _=>True)) _) (OwnFrom.and (Own.from (boxed_own _ _ _) _) (ownFrom_below (Nat.le_refl _) (by simp;omega))))
       (fun _ _ _ _ _ hs _ _=>hs)
       ⟨⟨_,bC.alloc _,(hown3.alloc _).alloc _,trivial⟩,bS,hC3⟩
       ?a1 ?assign ?body ?done ?stop
      case kb=>
       intro W l o o' hl hlo _ _
       have hlt:=(Array.getElem?_eq_some_iff.1 hlo).1
       simp at hl
       exact(grownBy_putObj' W l o').block _ (by omega) (fun e=>by cases e;omega)
      case assign=>
       intro l x W K hK
       gi_wp2
       exact hK
      case body=>
       rintro l pre x W ⟨⟨v,hv,hrow,_⟩,hbs,hB⟩ hlt
       have hc:=hv.cell
       rw[ByteArray.size_extract] at hlt
       have hmx2:pre.length+1≤maxLen:=by unfold maxLen;omega
       gi_wp2_with (gi_at_builtin;refine wpListIn_append_own _ rfl _ _ 85 rfl w2.heap.size 22 i0 (.int .u32 0) 1 4 Tryz.underlying85 hi hz0 hz1 hz2 rfl (by decide) _ _ _ rfl (hrow.alloc _) ⟨W.heap.size,0,none⟩ 1 1 [.int .u32 x] rfl rfl (cell_one_new _ _ _) (by simp[Value.oneCell']) (by omega) (by omega) (by have:=hB.size;simp;omega) ?_;intro v' w1 hown' hgrow _;obtain⟨g',cap',rfl⟩:=ownsRow_succ hown';have hbs1:=((hbs.alloc _).kept hgrow (hbs.not_row (by decide) hrow)).other (B':=w3.heap.size) (by omega) (.slice (some ⟨g',0,none⟩) (pre.length+1) cap');obtain⟨hv1,hv2,hr2,hk2,hb2⟩:=hv.appended (by decide) hrow hB.size h23 hown' hgrow;have hc1:=hv1.cell;have hf1:=hv1.frozen)
       exact⟨hk2.from _,hbs1.trans hbs.symm,⟨_,hv2,by simpa using hr2,trivial⟩,hbs1,hB.trans hb2⟩
      case stop=>
       rintro D c pre W _ _ h _
       exact h.elim
      case done=>
       rintro D ys W hD rfl ⟨⟨v,hv,hrow,_⟩,hbs,hB⟩ hK
       have hrb3:=(hB.block w.heap.size (by have:=hC2.size;simp at this;omega)).trans hrb
       have er0:=cell_of_block hrb3 (i:=0) rfl
       have er1:=cell_of_block hrb3 (i:=1) rfl
       have ef0:=frozen_of_block hrb3 0
       have ef1:=frozen_of_block hrb3 1
       have ek1:=(hB.cell (p:=⟨g2,1,none⟩) hg2').trans hk1
       have i8:IntKind.i64.wrap (wordAt s 8)=wordAt s 8:=by rw[IntKind.wrap_i64];omega
       obtain⟨A,len,cap,rfl⟩: ∃A len cap,v= .slice A len cap:=by
        rcases hrow.2 with⟨rfl,_⟩|⟨g,cap,cur,rfl,_⟩
        ·exact⟨_,_,_,rfl⟩
        ·exact⟨_,_,_,rfl⟩
       have hc:=hv.cell
       gi_wp2
       have hw2:w.heap.size<w2.heap.size:=by have:=hC2.size;simp at this;omega
       have X1:=heap_set (i:=1) (heap_set (i:=0) hrb3 (.slice A len cap)) (.int .i64 (wordAt s 8))
       have X2:((W.setCell ⟨w.heap.size,0,none⟩ (.slice A len cap)).setCell ⟨w.heap.size,1,none⟩ (.int .i64 (wordAt s 8))).heap[D]?=some (.deferred (some [])):=(KeepsOthers.setCell _ _ _).same D _ ((KeepsOthers.setCell _ _ _).same D _ hK rfl) rfl
       have hno: ∀k,(Value.slice A len cap).ownBlock=some k→k≠w.heap.size:=fun k e=>by have:=(hrow.lt k e).1;omega
       have X3:=own_base ((hrow.kept (grown_set W w.heap.size 0 (.slice A len cap)) (.inr fun e=>hno _ e rfl)).kept (grown_set _ w.heap.size 1 (.int .i64 (wordAt s 8))) (.inr fun e=>hno _ e rfl)) (Nat.le_of_lt hw2)
       have X4:Below w.heap.size w ((W.setCell ⟨w.heap.size,0,none⟩ (.slice A len cap)).setCell ⟨w.heap.size,1,none⟩ (.int .i64 (wordAt s 8))):=(((hB2.trans (hC2.mono (by simp;omega))).trans (hB.mono (Nat.le_of_lt hw2))).setCell (p:=⟨w.heap.size,0,none⟩) (Nat.le_refl _) _).setCell (p:=⟨w.heap.size,1,none⟩) (Nat.le_refl _) _
       have hDw:D≠w.heap.size:=by simp at hD;omega
       have him:isImg s:=⟨by omega,c1,by omega,by omega,HC4.out⟩
       generalize hX:(W.setCell ⟨w.heap.size,0,none⟩ (.slice A len cap)).setCell ⟨w.heap.size,1,none⟩ (.int .i64 (wordAt s 8))=X at X1 X2 X3 X4
       have fin: ∀tmps:Array Value,tmps.getD 2 undef= .pointer (some ⟨w.heap.size,0,none⟩)→tmps.getD 3 undef= .int .i64 0→LeavesInM F n Tryz.prog Tryz.f111 tmps (fun e W'=>(¬isImg s∧e= .returned badR∧Below w.heap.size w W')∨
         (isImg s∧ ∃v,e= .returned (.tuple #[.agg #[v,.int .i64 (wordAt s 8)],.int .i64 0])∧W'.ownsRow w.heap.size 22 1 v (wordsOf (s.extract 12 s.size)).length ((wordsOf (s.extract 12 s.size)).map (Value.int .u32))∧Below w.heap.size w W')) [{target:= .collected D,args:= #[]}] .returning X.drew:=fun tmps h2 h3=>by
        refine⟨by simp,.inl ⟨_,_,rfl,run_takeDeferred (show X.drew.heap[D]?=_ from X2),?_⟩⟩
        refine⟨_,results22 (g:=w.heap.size) (cs:= #[.slice A len cap,.int .i64 (wordAt s 8)]) (fr:=(0,0)) h2 ?_ rfl h3,.inr ⟨him,_,rfl,?_,?_⟩⟩
        ·exact((grownBy_putObj' X.drew D (.deferred none)).block w.heap.size (Array.getElem?_eq_some_iff.1 X1).1 (fun e=>hDw (by cases e;rfl))).trans X1
        ·exact ownsRow_putObj (show X.drew.ownsRow _ _ _ _ _ _ from X3) _ (show X.drew.heap[D]?=_ from X2) rfl
        ·exact(X4.trans (below_drewN' _ X 1)).trans (belowK_b (w:=w) (Nat.le_refl _) X.drew D _ _ (by simp at hD;omega) (show X.drew.heap[D]?=_ from X2) rfl rfl)
       gi_region
       all_goals (try rw[hX])
       all_goals gi_wp2
       all_goals exact fin _ rfl rfl
     ·have c5:((s.size:Int)!=12+4*wordAt s 4)=true:=by simp[c4]
      gi_wp2_with (first|(gi_at_call 127;refine(words_in F (n - 1) h30 hro _ _).mono ?_;rintro e w' ⟨rfl,rfl⟩)|(gi_at_call 126;refine(hcol _ (by simp) hcs.cell).mono ?_;rintro e w2 ⟨v2,rfl,hown2,hC2⟩;obtain⟨g2,cap2,rfl,hg2,hg2',hcap2,hcell2⟩:=own_cell hown2 (by simp);have hk0:=hcell2 0 (by simp);have hk1:=hcell2 1 (by simp);simp at hk0 hk1;have hrb:=(hC2.block w.heap.size (by simp;omega)).trans hres0;have hr0:=cell_of_block hrb (i:=0) rfl;have hr1:=cell_of_block hrb (i:=1) rfl;have hf0:=frozen_of_block hrb 0;have hf1:=frozen_of_block hrb 1))
      obtain⟨z1,z2⟩:=bad w2 (by simpa using hC2) hrb
      exact⟨_,results22 rfl z1 rfl rfl,.inl ⟨fun h=>c4 h.2.2.2.2,rfl,z2⟩⟩
  ·have hm: ¬(s.extract 0 4).toList=[83,69,69,68]:=fun h=>c1 (by
    apply ByteArray.ext;apply Array.ext'
    rw[←ByteArray.toList_eq,h])
   gi_wp2
   exact⟨_,results22 rfl (World.alloc_heap_new w _) rfl rfl,.inl ⟨fun h=>c1 h.2.1,rfl,hB1⟩⟩
end
section
open Go Go.Ab Go.RowKit
abbrev rowW (l:List Int):List (List AV):=l.map fun x=>[uv x]
def imgB (s:ByteArray):Bool:=decide (12≤s.size)&&decide (s.extract 0 4=⟨#[83,69,69,68]⟩)&&decide (s.size≤65548)&&decide (wordAt s 8≤32768)&&decide ((s.size:Int)=12+4*wordAt s 4)
theorem imgB_iff (s:ByteArray):imgB s=true↔isImg s:=by
 unfold imgB isImg
 simp only[Bool.and_eq_true,decide_eq_true_eq]
 exact⟨fun⟨⟨⟨⟨a,b⟩,c⟩,d⟩,e⟩=>⟨a,b,c,d,e⟩,fun⟨a,b,c,d,e⟩=>⟨⟨⟨⟨a,b⟩,c⟩,d⟩,e⟩⟩
def codeOf (s:ByteArray):List Int:=wordsOf (s.extract 12 s.size)
def readR (s:ByteArray):List AV:=if imgB s then[.agg [.vec 1 (rowW (codeOf s)),iv (wordAt s 8)],iv 0] else[.agg [.vec 1 [],iv 0],iv 7]
def readO :List AV→Option (List AV)
 |[.sc (.string s)]=>if s.size≤1048576 then some (readR s) else none
 |_=>none
def X47 :Orc:=⟨fun f args=>if f=111 then readO args else none,fun _ _ _ _ _=>none⟩
theorem rows_words (I:Nat→Prop)(w:World): ∀l:List Int,RepRows I w 1 (rowW l) (l.map (Value.int .u32))
 |[]=>by simp[RepRows]
 |x::l=>by
  simp only[List.map_cons,RepRows]
  exact⟨[.int .u32 x],l.map (Value.int .u32),rfl,rfl,by simp[RepDL,RepD,Value.oneCell'],rows_words I w l⟩
theorem X47_ok :OrcOk Tryz.prog X47:=by
 refine⟨fun f args rs h hok I w us hI hgl ha=>?_,fun k d f args hp v hp' h=>by simp[X47] at h⟩
 simp only[X47] at h
 split at h
 ·rename_i hf
  subst hf
  unfold readO at h
  split at h
  ·rename_i s
   split at h
   ·rename_i hs
    cases h
    obtain⟨u,rfl⟩: ∃u,us=[u]:=by
     have:=ha.1
     match us,this with
     |[u],_=>exact⟨u,rfl⟩
    have h0:=ha.2 0 _ _ rfl rfl
    obtain rfl:u= .string s:=by simpa[RepA,RepD] using h0.1
    refine(callsIn_wide.1 (read_in Fence.wide 6 trivial trivial trivial trivial trivial rfl (Nat.le_refl _) s hs w)).mono fun e W' hh=>?_
    have key: ∀u,Below w.heap.size w W'→(∃us bs,u=retV us∧(∀b∈bs,w.heap.size≤b∧ ¬I b)∧bs.Nodup∧RepResL Tryz.prog I W' (rtys Tryz.prog 111) (readR s) us bs)→CallPost Tryz.prog I w (rtys Tryz.prog 111) (readR s) u W':=fun u hB ⟨us,bs,h1,h2,h3,h4⟩=>
     ⟨fun b hb=>hB.block b hb,hB.size,hB.os,hB.tape,hB.output,I,us,bs,h1,fun _ h=>h,fun _ h=> .inl h,fun b hb=>Nat.lt_of_lt_of_le (hI b hb) hB.size,h2,h3,h4⟩
    rcases hh with⟨h1,rfl,hB⟩|⟨h1,v,rfl,hown,hB⟩
    ·have hb:imgB s=false:=by rw[Bool.eq_false_iff];exact fun h=>h1 ((imgB_iff s).1 h)
     refine⟨_,rfl,key _ hB ⟨[.agg #[.slice none 0 0,.int .i64 0],.int .i64 7],[],rfl,by simp,List.nodup_nil,?_⟩⟩
     unfold readR
     rw[hb,if_neg (by simp),rtys_111]
     simp only[RepResL,RepRes,isAggB_169,isAggB_38,if_true,Bool.false_eq_true,if_false]
     refine⟨_,_,[],[],rfl,rfl,⟨_,_,rfl,rfl,?_⟩,_,_,[],[],rfl,rfl,⟨rfl,by simp[RepD,Value.oneCell']⟩,rfl,rfl⟩
     simp only[tcs_169,RepHL]
     exact⟨_,_,[],[],rfl,rfl,.inl ⟨rfl,rfl,rfl⟩,_,_,[],[],rfl,rfl,⟨rfl,by simp[RepD,Value.oneCell']⟩,rfl,rfl⟩
    ·have hb:imgB s=true:=(imgB_iff s).2 h1
     have hv: ∃bs,(∀b∈bs,w.heap.size≤b∧ ¬I b)∧bs.Nodup∧RepH Tryz.prog I (fun _=>False) W' 85 (.vec 1 (rowW (codeOf s))) v bs:=by
      obtain⟨hl,⟨rfl,h0⟩|⟨g,cap,cur,rfl,hb,hg,hc,hm,hs,ht⟩⟩:=hown
      ·refine⟨[],by simp,List.nodup_nil,.inl ⟨?_,rfl,rfl⟩⟩
       have:codeOf s=[]:=List.eq_nil_of_length_eq_zero h0
       rw[this];rfl
      ·refine⟨[g],fun b hbb=>?_,by simp,.inr ⟨g,cap,cur,(0,0),22,rfl,?_,by simp,hg,fun j _=>by simp,by simpa using hs,?_,hm,?_,fun hi=>by have:=hI g hi;omega,fun h=>h⟩⟩
       ·rw[List.mem_singleton] at hbb;subst hbb
        exact⟨hb,fun hi=>by have:=hI _ hi;omega⟩
       ·simp[codeOf]
       ·simpa[codeOf] using hc
       ·have e:(rowW (codeOf s)).length*1=(wordsOf (s.extract 12 s.size)).length*1:=by simp[codeOf]
        rw[e,ht]
        exact rows_words I W' _
     obtain⟨bs,b1,b2,b3⟩:=hv
     refine⟨_,rfl,key _ hB ⟨[.agg #[v,.int .i64 (wordAt s 8)],.int .i64 0],bs,rfl,b1,b2,?_⟩⟩
     unfold readR
     rw[hb,if_pos rfl,rtys_111]
     simp only[RepResL,RepRes,isAggB_169,isAggB_38,if_true,Bool.false_eq_true,if_false]
     refine⟨_,_,bs,[],rfl,by simp,⟨_,_,rfl,rfl,?_⟩,_,_,[],[],rfl,rfl,⟨rfl,by simp[RepD,Value.oneCell']⟩,rfl,rfl⟩
     simp only[tcs_169,RepHL]
     exact⟨_,_,bs,[],rfl,by simp,b3,_,_,[],[],rfl,rfl,⟨rfl,by simp[RepD,Value.oneCell']⟩,rfl,rfl⟩
   ·cases h
  ·cases h
 ·cases h
end
end Go.Proofs.YtpedpkegmalgmaaGreatDoor.K
namespace Go.Proofs.YtpedpkegmalgmaaGreatDoor.M
section
open Go Go.Ab Go.RowKit
def unW :List (List AV)→Option (List Int)
 |[]=>some []
 |[.sc (.int .u32 x)]::r=>(unW r).map (x:: ·)
 |_=>none
theorem row_unW : ∀{rows:List (List AV)} {l:List Int},unW rows=some l→rows=rowW l
 |[],l,h=>by cases h;rfl
 |r::rows,l,h=>by
  unfold unW at h
  split at h
  ·rename_i heq;cases heq
  ·rename_i x r' heq
   cases heq
   cases hr:unW rows with
   |none=>rw[hr] at h;cases h
   |some l'=>
    rw[hr] at h
    cases h
    rw[row_unW hr]
    rfl
  ·cases h
def isI (n:Int):AV→Bool
 | .sc (.int .i64 m)=>m==n
 |_=>false
def isU (n:Int):AV→Bool
 | .sc (.int .u32 m)=>m==n
 |_=>false
def isE :AV→Bool
 | .sc (.string s)=>decide (s=⟨#[]⟩)
 |_=>false
theorem isI_eq {n:Int}{a:AV}(h:isI n a=true):a=iv n:=by
 unfold isI at h
 split at h
 ·simp at h;rw[h]
 ·cases h
theorem isU_eq {n:Int}{a:AV}(h:isU n a=true):a=uv n:=by
 unfold isU at h
 split at h
 ·simp at h;rw[h]
 ·cases h
theorem isE_eq {a:AV}(h:isE a=true):a= .sc (.string ⟨#[]⟩):=by
 unfold isE at h
 split at h
 ·simp at h;rw[h]
 ·cases h
def unS :List AV→Option (List Int)
 |[p,a0,a1,a2,a3,a4,a5,a6,a7,a8,a9,a10,a11,a12,a13,a14,a15,.sl false 1 m,r,o,s,e]=>
  if isI 0 p&&isU 0 a0&&isU 0 a1&&isU 0 a2&&isU 0 a3&&isU 0 a4&&isU 0 a5&&isU 0 a6&&isU 0 a7&&isU 0 a8&&isU 0 a9&&isU 0 a10&&isU 0 a11&&isU 0 a12&&isU 0 a13&&isU 0 a14&&isU 0 a15&&isI 0 r&&isE o&&isI 0 s&&isI 0 e then unW m else none
 |_=>none
theorem unS_eq {st:List AV}{mem:List Int}(h:unS st=some mem):st=stA mem:=by
 unfold unS at h
 split at h
 ·split at h
  ·rename_i hc
   simp only[Bool.and_eq_true] at hc
   obtain⟨⟨⟨⟨⟨⟨⟨⟨⟨⟨⟨⟨⟨⟨⟨⟨⟨⟨⟨⟨h1,h2⟩,h3⟩,h4⟩,h5⟩,h6⟩,h7⟩,h8⟩,h9⟩,h10⟩,h11⟩,h12⟩,h13⟩,h14⟩,h15⟩,h16⟩,h17⟩,h18⟩,h19⟩,h20⟩,h21⟩:=hc
   rw[isI_eq h1,isU_eq h2,isU_eq h3,isU_eq h4,isU_eq h5,isU_eq h6,isU_eq h7,isU_eq h8,isU_eq h9,isU_eq h10,isU_eq h11,isU_eq h12,isU_eq h13,isU_eq h14,isU_eq h15,isU_eq h16,isU_eq h17,isI_eq h18,isE_eq h19,isI_eq h20,isI_eq h21,row_unW h]
   rfl
  ·cases h
 ·cases h
def allU (l:List Int):Bool:=l.all fun x=>decide (0≤x)&&decide (x<4294967296)
theorem allU_iff (l:List Int):allU l=true↔ ∀x∈l,Ma.U x:=by
 unfold allU Ma.U
 simp
def goO :List AV→Option (List AV)
 |[.agg [.sl false 1 rows,.sc (.int .i64 _)],.sc (.string inp),.agg st,.sc (.int .i64 fuel)]=>match unW rows,unS st with
  |some code,some mem=>if allU code&&allU mem&&decide (mem.length≤1048576)&&decide (inp.size≤1048576)&&decide (code.length≤1048576)&&decide (fuel≤4611686018427387904) then some [resS (Ma.runP code (inpF inp) fuel.toNat (startM mem))] else none
  |_,_=>none
 |_=>none
def X47 :Orc:=⟨fun f args=>if f=111 then K.readO args else if f=128 then goO args else none,fun _ _ _ _ _=>none⟩
theorem X47_ok :OrcOk Tryz.prog X47:=by
 refine⟨fun f args rs h hok I w us hI hgl ha=>?_,fun k d f args hp v hp' h=>by simp[X47] at h⟩
 simp only[X47] at h
 split at h
 ·rename_i hf
  subst hf
  exact K.X47_ok.1 111 args rs (by simpa[K.X47] using h) hok I w us hI hgl ha
 ·split at h
  ·rename_i hf
   subst hf
   unfold goO at h
   split at h
   ·rename_i rows data inp st fuel
    split at h
    ·rename_i code mem h1 h2
     split at h
     ·rename_i hc
      cases h
      simp only[Bool.and_eq_true,decide_eq_true_eq] at hc
      obtain⟨⟨⟨⟨⟨c1,c2⟩,c3⟩,c4⟩,c5⟩,c6⟩:=hc
      rw[row_unW h1,unS_eq h2] at ha
      exact go_calls ((allU_iff code).1 c1) ((allU_iff mem).1 c2) c3 c4 c5 c6 hI hgl ha
     ·cases h
    ·cases h
   ·cases h
  ·cases h
end
end Go.Proofs.YtpedpkegmalgmaaGreatDoor.M
namespace Go.Proofs.YtpedpkegmalgmaaGreatDoor
section
open Go Go.Ab
def XC :Orc:=orX (oneX 87 [pzA 1,tv srcA] [tv img1,iv 0]) (orX (oneX 87 [pzA 2,tv srcA] [tv img2,iv 0]) M.X47)
theorem XC_ok :OrcOk Tryz.prog XC:=orX_ok (oneX_ok bld1_s) (orX_ok (oneX_ok bld2_s) M.X47_ok)
theorem twice_x :(lim Tryz.prog EB XC).dat 44 a44=some r44:=lim_dat.2 ⟨80,by kernel_rfl⟩
theorem twice_s :SemD Tryz.prog 44 a44 r44:=(lim_ok mixed6 EB_law XC_ok).1 _ _ _ twice_x
def pubD :Q.D4:=⟨3589047133,3549922436,2911926221,98228837⟩
def lkD :Q.D4:=⟨3328347347,2019582366,136393530,3079233933⟩
def hdD :Q.D4:=⟨2594236700,1195898976,3728327447,4235867110⟩
def sgL :Sg:=⟨pubD,0,sigA,[key1]⟩
def sgH :Sg:=⟨pubD,1,sigB,[key0]⟩
theorem who_1 {m:Q.D4}{d r:List AV}{s:Sg}(hm:m.row=d)(hs:s.row=r)(hb:s.b=pubD)(hc:SemD Tryz.prog 71 [.agg pubD.row,.agg m.row,s.av] [bv true]):SemD Tryz.prog 60 [.agg [.sl false 4 [pubD.row],iv 1],.agg d,.sl false 7 [r]] r60:=by
 have hX:OrcOk Tryz.prog (semX Tryz.prog (fun f a r=>f=71∧r=[bv true]) (fun _ _ _ _ _ _=>False)):=semX_ok _ _ _
 have h:=who_s (X:=semX Tryz.prog (fun f a r=>f=71∧r=[bv true]) (fun _ _ _ _ _ _=>False)) hX (fun k d a hp=>semX_hpc_none fun _ _ h=>h) 1 [pubD] m [s] (by simp) (by simp) (fun _ _=>true) (fun b hb2 s2 hs2=>by
  simp only[List.mem_singleton] at hb2 hs2
  subst hb2;subst hs2
  obtain⟨r',h1,_,h2⟩:=semX_dat (Rd:=fun f a r=>f=71∧r=[bv true]) (Rh:=fun _ _ _ _ _ _=>False) hc ⟨rfl,rfl⟩
  rw[h2] at h1
  exact lim_base_dat h1)
 have e:ixR (whoT (fun _ _=>true) [s] [pubD] [pubD].length)=[[iv 0]]:=by
  simp[whoT,ansP,idxT,anyS,hb,eqD_refl]
 rw[e] at h
 simp only[List.map_cons,List.map_nil,hm,hs] at h
 exact h
theorem who0_s :SemD Tryz.prog 60 (a60 lkA saA) r60:=who_1 (m:=lkD) (s:=sgL) (by kernel_rfl) (by kernel_rfl) rfl chk0_s
theorem who1_s :SemD Tryz.prog 60 (a60 hdA sbA) r60:=who_1 (m:=hdD) (s:=sgH) (by kernel_rfl) (by kernel_rfl) rfl chk1_s
theorem alive_true :SemD Tryz.prog 5 [] [bv true]:=alive_s say0_s say1_s twice_s who0_s who1_s
theorem right_s (t m0 m1 m2 m3 fu:Int)(ps:List Int)(is:List I4):SemD Tryz.prog 41 [rcp t m0 m1 m2 m3 fu ps is] [bv (R1 t (m0==0&&(m1==0&&(m2==0&&m3==0))) fu ps is.length)]:=
 L6_ok.1 _ _ _ (right1_w (X:=X6) (fun a=>X6_no (f:=41) a (by decide)) t m0 m1 m2 m3 fu ps is)
theorem rel_s (S1 S2:List (List AV))(p0 p1 p2 p3 y0 y1 y2 y3 k1 k2 k3 k4 d0 d1 d2 d3 e0 e1 e2 e3 t m0 m1 m2 m3 fu n1 f0 f1 f2 f3:Int)(g1 g2 g3 g4:ByteArray)(P1 P2:List (List AV))(ps:List Int)(is:List I4)(hps:ps.length≤40)(his:is.length≤40)(hm:Q.U m0∧Q.U m1∧Q.U m2∧Q.U m3)(hi: ∀x∈is,Q.U x.1∧Q.U x.2.1∧Q.U x.2.2.1∧Q.U x.2.2.2)(hy:Q.U y0∧Q.U y1∧Q.U y2∧Q.U y3): ∃(d:Q.D4) (e:Int),SemD Tryz.prog 6 [.agg [uv p0,uv p1,uv p2,uv p3,uv y0,uv y1,uv y2,uv y3,iv k1,.sl false 1 P1,tv g1,iv k2,uv d0,uv d1,uv d2,uv d3,tv g2,iv k3,.sl false 1 P2,tv g3,iv k4,uv e0,uv e1,uv e2,uv e3,tv g4,iv t,uv m0,uv m1,uv m2,uv m3,.sl false 1 (ir ps),.sl false 4 (dr4 is),iv fu,.sl false 7 S1,iv n1,uv f0,uv f1,uv f2,uv f3,.sl false 7 S2]] [.agg d.row,iv e]:=by
 have n:=fun(f:Nat) (h:f≠5∧f≠28∧f≠34∧f≠33∧f≠37∧f≠35∧f≠57) (a:List AV)=>X6_no (f:=f) a h
 have r1:=right1_w (X:=X6) (n _ (by decide)) t m0 m1 m2 m3 fu ps is
 cases hR:R1 t (m0==0&&(m1==0&&(m2==0&&m3==0))) fu ps is.length with
 |false=>
  rw[hR] at r1
  have o1:=rof1_no (X:=X6) (n _ (by decide)) t m0 m1 m2 m3 fu ps is (put1_no (n _ (by decide)) _ _ _ _ _ _ _ _ r1)
  exact⟨⟨0,0,0,0⟩,1,L6_ok.1 _ _ _ (rel1_no (X:=X6) (n _ (by decide)) t m0 m1 m2 m3 fu ps is p0 p1 p2 p3 y0 y1 y2 y3 k1 k2 k3 k4 d0 d1 d2 d3 e0 e1 e2 e3 P1 P2 S1 S2 g1 g2 g3 g4 n1 f0 f1 f2 f3 7 o1)⟩
 |true=>
  rw[hR] at r1
  have hl:=wds_len t m0 m1 m2 m3 fu ps is
  have hU:=wds_U (t:=t) (fu:=fu) (ps:=ps) hm hi
  have hz:=Q.txtW_size (wds t m0 m1 m2 m3 fu ps is)
  have w1:=x6_word (wds t m0 m1 m2 m3 fu ps is) (by omega) hU
  have q1:=put1_w (X:=X6) (n _ (by decide)) (X6_hno · · _ · ·) t m0 m1 m2 m3 fu ps is _ (by omega) r1 (by omega) (by omega) w1
  have hs:(⟨#[82]⟩++Q.txtW (wds t m0 m1 m2 m3 fu ps is):ByteArray).size≤1000000:=by
   rw[ByteArray.size_append]
   show 1+_≤_
   omega
  have hc:(⟨#[114,101,99,105,112,101]⟩:ByteArray).size≤1000000:=by decide
  have hk:(⟨#[108,105,110,107]⟩:ByteArray).size≤1000000:=by decide
  have o1:=rof1_w (X:=X6) (n _ (by decide)) t m0 m1 m2 m3 fu ps is _ _ _ _ _ _ _ _ _ _ _ _ _ q1 (x6_dig _ hs) (x6_dig _ hc) (x6_pair _ _)
  have hd:=pair_U (Q.ofP (⟨#[82]⟩++Q.txtW (wds t m0 m1 m2 m3 fu ps is))) (Q.ofP ⟨#[114,101,99,105,112,101]⟩)
  generalize Q.pairP (Q.ofP (⟨#[82]⟩++Q.txtW (wds t m0 m1 m2 m3 fu ps is))) (Q.ofP ⟨#[114,101,99,105,112,101]⟩)=D at*
  have u1: ∀x∈[D.d0,D.d1,D.d2,D.d3],Q.U x:=by simpa using hd
  have u2: ∀x∈[y0,y1,y2,y3],Q.U x:=by simpa using hy
  have z1:=Q.txtW_size [D.d0,D.d1,D.d2,D.d3]
  have z2:=Q.txtW_size [y0,y1,y2,y3]
  simp only[List.length_cons,List.length_nil] at z1 z2
  have hs2:(Q.txtW [D.d0,D.d1,D.d2,D.d3]++Q.txtW [y0,y1,y2,y3]).size≤1000000:=by
   rw[ByteArray.size_append];omega
  have l1:=lof1_w (X:=X6) (n _ (by decide)) D.d0 D.d1 D.d2 D.d3 y0 y1 y2 y3 _ _ _ _ _ _ _ _ _ _ _ _ _ _ (by omega) (by omega) (x6_word [D.d0,D.d1,D.d2,D.d3] (by simp) u1) (x6_word [y0,y1,y2,y3] (by simp) u2) (x6_dig _ hs2) (x6_dig _ hk) (x6_pair _ _)
  exact⟨⟨_,_,_,_⟩,0,L6_ok.1 _ _ _ (rel1_w (X:=X6) (n _ (by decide)) t m0 m1 m2 m3 fu ps is p0 p1 p2 p3 y0 y1 y2 y3 k1 k2 k3 k4 d0 d1 d2 d3 e0 e1 e2 e3 P1 P2 S1 S2 g1 g2 g3 g4 n1 f0 f1 f2 f3 7 _ _ _ _ _ _ _ _ o1 l1)⟩
theorem sg_inj {s t:Sg}(h:s.row=t.row):s=t:=by
 obtain⟨⟨_,_,_,_⟩,_,_,_⟩:=s
 obtain⟨⟨_,_,_,_⟩,_,_,_⟩:=t
 simpa[Sg.row,and_assoc] using h
theorem rowSg_inj : ∀{l m:List Sg},rowSg l=rowSg m→l=m
 |[],[],_=>rfl
 |[],_::_,h=>by simp at h
 |_::_,[],h=>by simp at h
 |a::l,b::m,h=>by
  simp only[List.map_cons,List.cons.injEq] at h
  rw[sg_inj h.1,rowSg_inj h.2]
structure Sd where
 b:Q.D4
 i:Int
 one:List Q.D4
 path:List Q.D4
def Sd.sg (s:Sd):Sg:=⟨s.b,s.i,rowG s.one,rowG s.path⟩
open Classical in
theorem who_t (need:Int) (Bs:List Q.D4) (m:Q.D4) (l:List Sd) (hl:l.length≤1000000) (hB:Bs.length≤1000000): ∃WR:List (List AV),SemD Tryz.prog 60 [.agg [.sl false 4 (rowG Bs),iv need],.agg m.row,.sl false 7 (rowSg (l.map Sd.sg))] [.vec 1 WR]∧WR.length≤seatN (l.map Sd.sg) Bs:=by
 have hX:OrcOk Tryz.prog (semX Tryz.prog (fun f a r=>f=71∧ ∃b,r=[bv b]) (fun _ _ _ _ _ _=>False)):=semX_ok _ _ _
 have hc: ∀(b:Q.D4) (s:Sg),∃v,s∈l.map Sd.sg→(lim Tryz.prog EW (semX Tryz.prog (fun f a r=>f=71∧ ∃b,r=[bv b]) (fun _ _ _ _ _ _=>False))).dat 71 [.agg b.row,.agg m.row,s.av]=some [bv v]:=fun b s=>by
  by_cases h:s∈l.map Sd.sg
  ·obtain⟨x,_,rfl⟩:=List.mem_map.1 h
   obtain⟨v,hv⟩:=chk_s b m x.i x.one x.path
   obtain⟨r',h1,_,v',rfl⟩:=semX_dat (Rd:=fun f a r=>f=71∧ ∃b,r=[bv b]) (Rh:=fun _ _ _ _ _ _=>False) hv ⟨rfl,v,rfl⟩
   exact⟨v',fun _=>lim_base_dat h1⟩
  ·exact⟨true,fun h'=>absurd h' h⟩
 have h:=who_s hX (fun k d a hp=>semX_hpc_none fun _ _ h=>h) need Bs m (l.map Sd.sg) (by simpa using hl) hB (fun b s=>Classical.choose (hc b s)) (fun b _ s hs=>Classical.choose_spec (hc b s) hs)
 refine⟨_,h,?_⟩
 rw[List.length_map]
 have:=whoT_seat (fun b s=>Classical.choose (hc b s)) (l.map Sd.sg) Bs Bs.length (Nat.le_refl _)
 rwa [List.take_of_length_le (Nat.le_refl _)] at this
end
section
open Go Go.Ab
theorem Wd_gx {P:Program}{E:Cfg}{k:Nat}{call:Orc}{all:Array Oper}{os:List Oper}{fr:Nat→AV}{hp:Hp}{fs:List Foot}{Q:AS→Prop}{d d' j:Nat}{b:Bool}{op:Op}{ty:TypeId}{pos:String}{aft:Array Edge}{us:List Value}(hd:(all[j]?).bind (·.dst)=some d')(hc:fr d'= .sc (.tuple ⟨us⟩))(r:Wd P E k call all os ⟨setd fr (some d) (.sc undef),hp⟩ (⟨[],[]⟩::fs) Q):Wd P E k call all (⟨some d,op,ty,pos,aft,some (j,b)⟩::os) ⟨fr,hp⟩ fs Q:=by
 obtain⟨st',fs',h1,h2⟩:=r
 exact⟨st',fs',by simp only[runDraw,stepF,guardA,hd,hc];exact h1,h2⟩
def Rd7 (f:Nat)(a r:List AV):Prop:=
 (f=5∧a=[]∧r=[bv true])∨
 (∃s:ByteArray,a=[tv s]∧(f=28∨f=34)∧r=[.agg (Q.ofP s).row])∨
 (∃p q:Q.D4,a=[.agg p.row,.agg q.row]∧f=33∧r=[.agg (Q.pairP p q).row])∨
 (∃l,a=[.sl false 1 (rowU l)]∧f=35∧r=[tv (Q.txtW l)])∨
 (f=41∧ ∃b,r=[bv b])∨
 (f=6∧ ∃(d:Q.D4) (e:Int),r=[.agg d.row,iv e])∨
 (f=60∧ ∃WR:List (List AV),r=[.vec 1 WR]∧ ∀(need:Int) (Bs:List Q.D4) (m:Q.D4) (L:List Sg),a=[.agg [.sl false 4 (rowG Bs),iv need],.agg m.row,.sl false 7 (rowSg L)]→WR.length≤seatN L Bs)
noncomputable def X7 :Orc:=semX Tryz.prog Rd7 (fun _ _ _ _ _ _=>False)
theorem X7_ok :OrcOk Tryz.prog X7:=semX_ok _ _ _
noncomputable abbrev LL7 :Orc:=lim Tryz.prog E7 X7
theorem LL7_ok :OrcOk Tryz.prog LL7:=lim_ok mixed6 E7_law X7_ok
theorem x7_of {f:Nat}{a r:List AV}(h:SemD Tryz.prog f a r)(hr:Rd7 f a r): ∃r',LL7.dat f a=some r'∧Rd7 f a r':=by
 obtain⟨r',h1,h2⟩:=semX_dat (Rd:=Rd7) (Rh:=fun _ _ _ _ _ _=>False) h hr
 exact⟨r',lim_base_dat h1,h2⟩
theorem x7_of' {f:Nat}{a r:List AV}(h:SemD Tryz.prog f a r)(hr:Rd7 f a r)(hu: ∀r',Rd7 f a r'→r'=r):LL7.dat f a=some r:=by
 obtain⟨r',h1,h2⟩:=x7_of h hr
 rw[hu r' h2] at h1
 exact h1
theorem d4_inj {p q:Q.D4}(h:p.row=q.row):p=q:=row_injD h
theorem F7X :F7 X7 where
 hX:=fun f a hb=>semX_dat_none fun r hr=>by
  rcases hr with⟨rfl,_⟩|⟨_,_,rfl|rfl,_⟩|⟨_,_,_,rfl,_⟩|⟨_,_,rfl,_⟩|⟨rfl,_⟩|⟨rfl,_⟩|⟨rfl,_⟩<;>cases hb
 hD:=fun s hs=>x7_of' (L46r_ok.1 _ _ _ (Q.d34 s hs)) (.inr (.inl ⟨s,rfl,.inr rfl,rfl⟩)) fun r' h=>by
  rcases h with⟨h,_⟩|⟨s',h,_,rfl⟩|⟨_,_,_,h,_⟩|⟨_,_,h,_⟩|⟨h,_⟩|⟨h,_⟩|⟨h,_⟩
  ·cases h
  ·simp at h;rw[h]
  all_goals cases h
 hR:=fun s hs=>x7_of' (L46r_ok.1 _ _ _ (Q.d27 s hs)) (.inr (.inl ⟨s,rfl,.inl rfl,rfl⟩)) fun r' h=>by
  rcases h with⟨h,_⟩|⟨s',h,_,rfl⟩|⟨_,_,_,h,_⟩|⟨_,_,h,_⟩|⟨h,_⟩|⟨h,_⟩|⟨h,_⟩
  ·cases h
  ·simp at h;rw[h]
  all_goals cases h
 hP:=fun a b=>x7_of' (L46r_ok.1 _ _ _ (Q.d33 a b)) (.inr (.inr (.inl ⟨a,b,rfl,rfl,rfl⟩))) fun r' h=>by
  rcases h with⟨h,_⟩|⟨_,h,_⟩|⟨p,q,h,_,rfl⟩|⟨_,_,h,_⟩|⟨h,_⟩|⟨h,_⟩|⟨h,_⟩
  ·cases h
  ·simp at h
  ·simp only[List.cons.injEq,AV.agg.injEq,and_true] at h
   rw[d4_inj h.1,d4_inj h.2]
  all_goals cases h
 hH:=fun k d f a hp=>semX_hpc_none fun _ _ h=>h
 hW:=fun l hl hU=>x7_of' (L46r_ok.1 _ _ _ (Q.d26 l hl hU)) (.inr (.inr (.inr (.inl ⟨l,rfl,rfl,rfl⟩)))) fun r' h=>by
  rcases h with⟨h,_⟩|⟨_,h,_⟩|⟨_,_,h,_⟩|⟨l',h,_,rfl⟩|⟨h,_⟩|⟨h,_⟩|⟨h,_⟩
  ·cases h
  ·simp at h
  ·simp at h
  ·simp only[List.cons.injEq,AV.sl.injEq,and_true,true_and] at h
   rw[rowW_inj h]
  all_goals cases h
theorem x7_five :LL7.dat 5 []=some [bv true]:=x7_of' alive_true (.inl ⟨rfl,rfl,rfl⟩) fun r' h=>by
  rcases h with⟨_,_,rfl⟩|⟨_,h,_⟩|⟨_,_,h,_⟩|⟨_,h,_⟩|⟨h,_⟩|⟨h,_⟩|⟨h,_⟩
  ·rfl
  ·simp at h
  ·simp at h
  ·simp at h
  all_goals cases h
theorem x7_right (t m0 m1 m2 m3 fu:Int)(ps:List Int)(is:List I4): ∃b,LL7.dat 41 [rcp t m0 m1 m2 m3 fu ps is]=some [bv b]:=by
 obtain⟨r',h1,h⟩:=x7_of (right_s t m0 m1 m2 m3 fu ps is) (.inr (.inr (.inr (.inr (.inl ⟨rfl,_,rfl⟩)))))
 rcases h with⟨h,_⟩|⟨_,_,h|h,_⟩|⟨_,_,_,h,_⟩|⟨_,_,h,_⟩|⟨_,b,rfl⟩|⟨h,_⟩|⟨h,_⟩
 any_goals cases h
 exact⟨b,h1⟩
theorem x7_rel {a:List AV}(h: ∃(d:Q.D4) (e:Int),SemD Tryz.prog 6 a [.agg d.row,iv e]): ∃(d:Q.D4) (e:Int),LL7.dat 6 a=some [.agg d.row,iv e]:=by
 obtain⟨d,e,h⟩:=h
 obtain⟨r',h1,h⟩:=x7_of h (.inr (.inr (.inr (.inr (.inr (.inl ⟨rfl,_,_,rfl⟩))))))
 rcases h with⟨h,_⟩|⟨_,_,h|h,_⟩|⟨_,_,_,h,_⟩|⟨_,_,h,_⟩|⟨h,_⟩|⟨_,d,e,rfl⟩|⟨h,_⟩
 any_goals cases h
 exact⟨d,e,h1⟩
theorem x7_who (need:Int)(Bs:List Q.D4)(m:Q.D4)(l:List Sd)(hl:l.length≤1000000)(hB:Bs.length≤1000000): ∃WR:List (List AV),LL7.dat 60 [.agg [.sl false 4 (rowG Bs),iv need],.agg m.row,.sl false 7 (rowSg (l.map Sd.sg))]=some [.vec 1 WR]∧WR.length≤seatN (l.map Sd.sg) Bs:=by
 obtain⟨WR,h,hw⟩:=who_t need Bs m l hl hB
 obtain⟨r',h1,h⟩:=x7_of h (.inr (.inr (.inr (.inr (.inr (.inr ⟨rfl,WR,rfl,fun need' Bs' m' L' e=>by
  simp only[List.cons.injEq,AV.agg.injEq,AV.sl.injEq,and_true,true_and] at e
  rw[←rowG_inj e.1.1,←rowSg_inj e.2.2]
  exact hw⟩))))))
 rcases h with⟨h,_⟩|⟨_,_,h|h,_⟩|⟨_,_,_,h,_⟩|⟨_,_,h,_⟩|⟨h,_⟩|⟨h,_⟩|⟨_,WR',rfl,hw'⟩
 any_goals cases h
 exact⟨WR',h1,hw' _ _ _ _ rfl⟩
theorem x7_holds (need:Int)(Bs:List Q.D4)(l:List Sd)(hl:l.length≤8)(hB:Bs.length≤30)(m:Q.D4): ∃v,LL7.dat 43 [.agg [.sl false 4 (rowG Bs),iv need],.agg m.row,.sl false 7 (rowSg (l.map Sd.sg))]=some [bv v]∧(((seatN (l.map Sd.sg) Bs:Nat):Int)<need→v=false):=by
 obtain⟨WR,h60,hw⟩:=x7_who need Bs m l (by omega) (by omega)
 have hs:=seatN_le (l.map Sd.sg) Bs
 by_cases h:((seatN (l.map Sd.sg) Bs:Nat):Int)<need
 ·obtain⟨_,h1,v,rfl,hv⟩:=holds_w F7X Bs need (by omega) m _ WR _ rfl (by omega) (by omega) h60
  exact⟨v,h1,fun _=>hv⟩
 ·obtain⟨_,h1,v,rfl⟩:=holds_t F7X Bs need (by omega) m _ WR _ rfl (by omega) h60
  exact⟨v,h1,fun h'=>absurd h' h⟩
attribute [-simp] Prog.bind getCs putCs
attribute [local simp ↓] run_bind
attribute [local simp ↓] runF_bind
attribute [local simp] run_getCsN runF_getCsN runF_putCsN facetsC facetsW facetsH putCs_one run_putCsN
theorem g4 (p0 p1 p2 p3 y0 y1 y2 y3 k1 k2 k3 k4 d0 d1 d2 d3 e0 e1 e2 e3 t m0 m1 m2 m3 fu n1 f0 f1 f2 f3:Int)(g1 g2 g3 g4:ByteArray)(P1 P2:List (List AV))(ps:List Int)(is:List I4)(l1 l2:List Sd)(l:List ByteArray)(Bs:List Q.D4)(need fuel:Int)(hm:Q.U m0∧Q.U m1∧Q.U m2∧Q.U m3)(hi: ∀x∈is,Q.U x.1∧Q.U x.2.1∧Q.U x.2.2.1∧Q.U x.2.2.2)(hy:Q.U y0∧Q.U y1∧Q.U y2∧Q.U y3)(hr:Q.U f0∧Q.U f1∧Q.U f2∧Q.U f3):LL7.dat 4 [.agg [uv p0,uv p1,uv p2,uv p3,uv y0,uv y1,uv y2,uv y3,iv k1,.sl false 1 P1,tv g1,iv k2,uv d0,uv d1,uv d2,uv d3,tv g2,iv k3,.sl false 1 P2,tv g3,iv k4,uv e0,uv e1,uv e2,uv e3,tv g4,iv t,uv m0,uv m1,uv m2,uv m3,.sl false 1 (ir ps),.sl false 4 (dr4 is),iv fu,.sl false 7 (rowSg (l1.map Sd.sg)),iv n1,uv f0,uv f1,uv f2,uv f3,.sl false 7 (rowSg (l2.map Sd.sg)),.sl false 1 (rowS l),.sl false 4 (rowG Bs),iv need,iv fuel]]=some [bv true]:=by
 refine fnW (P:=Tryz.prog) (E:=E7) (X:=X7) Tryz.func4 (F7X.hX _ _ rfl) rfl bodyOk_4 rfl rtys_4 rvs_4 ?_
 obtain⟨_,h8,v,rfl,hv⟩:=fewA_w F7X p0 p1 p2 p3 y0 y1 y2 y3 k1 k2 k3 k4 d0 d1 d2 d3 e0 e1 e2 e3 t m0 m1 m2 m3 fu n1 f0 f1 f2 f3 g1 g2 g3 g4 P1 P2 (ir ps) (dr4 is) (l1.map Sd.sg) (l2.map Sd.sg) l Bs need fuel
 have h5:=x7_five
 cases v with
 |false=>
  clear hv hm hi hy hr
  generalize rowSg (l1.map Sd.sg)=RS1 at*
  generalize rowSg (l2.map Sd.sg)=RS2 at*
  generalize rowS l=RS at*
  generalize rowG Bs=RB at*
  generalize ir ps=PS at*
  generalize dr4 is=IS at*
  repeat' (first|(refine ZN ?_)|(refine Z2 ?_ ?_)|(intro h h';try simp[*,-h] at h'))
  all_goals rfl
 |true=>
  obtain⟨c1,c2,c3,c4,c5,c6,c7⟩:=hv rfl
  simp only[List.length_map] at c1 c2 c4 c5
  have s1:=seats_w F7X (l1.map Sd.sg) Bs need (by simp;omega) (by omega)
  have s2:=seats_w F7X (l2.map Sd.sg) Bs need (by simp;omega) (by omega)
  by_cases hb:need≤((seatN (l1.map Sd.sg) Bs:Nat):Int)∧need≤((seatN (l2.map Sd.sg) Bs:Nat):Int)
  ·obtain⟨b1,b2⟩:=hb
   generalize seatN (l1.map Sd.sg) Bs=n1' at*
   generalize seatN (l2.map Sd.sg) Bs=n2' at*
   clear hv hm hi hy hr c1 c2 c3 c4 c5 c6 c7
   generalize rowSg (l1.map Sd.sg)=RS1 at*
   generalize rowSg (l2.map Sd.sg)=RS2 at*
   generalize rowS l=RS at*
   generalize rowG Bs=RB at*
   generalize ir ps=PS at*
   generalize dr4 is=IS at*
   repeat' (first|(refine ZN ?_)|(refine Z2 ?_ ?_)|(intro h h';try simp[*,-h] at h'))
   all_goals rfl
  ·obtain⟨ri,hri⟩:=x7_right t m0 m1 m2 m3 fu ps is
   obtain⟨dd,er,h6⟩:=x7_rel (rel_s (rowSg (l1.map Sd.sg)) (rowSg (l2.map Sd.sg)) p0 p1 p2 p3 y0 y1 y2 y3 k1 k2 k3 k4 d0 d1 d2 d3 e0 e1 e2 e3 t m0 m1 m2 m3 fu n1 f0 f1 f2 f3 g1 g2 g3 g4 P1 P2 ps is c1 c2 hm hi hy)
   obtain⟨_,h10,e,rfl,he⟩:=accept_w F7X p0 p1 p2 p3 y0 y1 y2 y3 k1 k2 k3 k4 d0 d1 d2 d3 e0 e1 e2 e3 t m0 m1 m2 m3 fu n1 f0 f1 f2 f3 g1 g2 g3 g4 P1 P2 (ir ps) (dr4 is) (l1.map Sd.sg) (l2.map Sd.sg) l Bs need fuel (by omega) ri hri (fun r hr=>by obtain⟨x,_,rfl⟩:=List.mem_map.1 hr;exact⟨_,_,_,_,rfl⟩) (by omega) (fun x hx=>Nat.le_trans (c7 x hx) (by decide)) hr dd er h6 (((seatN (l1.map Sd.sg) Bs:Nat):Int)<need) (((seatN (l2.map Sd.sg) Bs:Nat):Int)<need) (by omega) (x7_holds need Bs l1 c4 c3) (x7_holds need Bs l2 c5 c3)
   clear hv hm hi hy hr c1 c2 c3 c4 c5 c6 c7 hri h6
   generalize seatN (l1.map Sd.sg) Bs=n1' at*
   generalize seatN (l2.map Sd.sg) Bs=n2' at*
   by_cases b1:need≤(n1':Int)
   ·have b2: ¬need≤(n2':Int):=fun h=>hb ⟨b1,h⟩
    clear hb
    generalize rowSg (l1.map Sd.sg)=RS1 at*
    generalize rowSg (l2.map Sd.sg)=RS2 at*
    generalize rowS l=RS at*
    generalize rowG Bs=RB at*
    generalize ir ps=PS at*
    generalize dr4 is=IS at*
    repeat' (first|(refine ZN ?_)|(refine Z2 ?_ ?_)|(intro h h';try simp[*,-h] at h'))
    all_goals (first|rfl|simp[he])
   ·clear hb
    generalize rowSg (l1.map Sd.sg)=RS1 at*
    generalize rowSg (l2.map Sd.sg)=RS2 at*
    generalize rowS l=RS at*
    generalize rowG Bs=RB at*
    generalize ir ps=PS at*
    generalize dr4 is=IS at*
    repeat' (first|(refine ZN ?_)|(refine Z2 ?_ ?_)|(intro h h';try simp[*,-h] at h'))
    all_goals (first|rfl|simp[he])
end
end Go.Proofs.YtpedpkegmalgmaaGreatDoor
