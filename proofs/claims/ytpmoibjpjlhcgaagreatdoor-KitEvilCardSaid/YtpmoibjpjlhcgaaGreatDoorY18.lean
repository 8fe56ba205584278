/- A part of the proof: J0, J1, J2. -/
import Derived.RangeFuncBox
import Derived.RangeFuncLeaves
import Derived.Shelf.Abstract
import Derived.WalkKit
import Derived.OwnWalkIn
import Derived.TacticsInMore
import Derived.LoopNIn
import Derived.LoopIn
import Derived.Maps.AppendAt
import Derived.Sort.QuietIn
import Derived.Test.YtpmoibjpjlhcgaaGreatDoorProg
import Derived.RegionIn
import Derived.BigRegionIn
import Derived.RangeFuncNested
import Derived.Lib.Hide
set_option linter.unusedSimpArgs false
set_option linter.unusedVariables false
set_option maxRecDepth 200000
set_option maxHeartbeats 8000000
namespace Go.Proofs.YtpmoibjpjlhcgaaGreatDoor.K
open Go Go.RowKit Go.Shelf
attribute [local go_sem] Oper.semAt_some
def upto {α:Type}(f:Nat->α)(k:Nat):List α:=(List.range k).map f
theorem Jv {α:Type}(f:Nat->α)(k:Nat):upto f (k+1)=upto f k++[f k]:=by simp[upto,List.range_succ]
theorem Ea {α:Type}(f:Nat->α)(k:Nat):(upto f k).length=k:=by simp[upto]
def A1 (s:ByteArray)(i:Nat):Int:=(s.data.toList.getD i 0).toNat
def wordAt (s:ByteArray)(i:Nat):Int:=A1 s i+256*A1 s (i+1)+65536*A1 s (i+2)+16777216*A1 s (i+3)
theorem G6 {s:ByteArray}{i:Nat}(h:i<s.size):((s[i]'h).toNat:Int)=A1 s i:=by
 unfold A1
 have hlt:i<s.data.size:=h
 rw[List.getD_eq_getElem?_getD,List.getElem?_eq_getElem (by simpa using hlt)]
 simp
 rfl
theorem Dn (s:ByteArray)(i:Nat):0<=A1 s i/\A1 s i<256:=by
 unfold A1
 have:=(s.data.toList.getD i 0).toNat_lt
 omega
theorem Dx {x y:Nat}(i:Nat)(h:x<2^i):x|||y*2^i=x+y*2^i:=by
 rw[Nat.or_comm,<-Nat.shiftLeft_eq,<-Nat.shiftLeft_add_eq_or_of_lt h,Nat.shiftLeft_eq,Nat.add_comm]
theorem Jr {x y:Nat}(hx:x<4294967296)(hy:y<4294967296):bits .or .u32 (x:Int) (y:Int)=((x|||y:Nat):Int):=by
 have h:(BitVec.ofInt 32 (x:Int)|||BitVec.ofInt 32 (y:Int)).toNat=x|||y:=by
  rw[BitVec.toNat_or,BitVec.ofInt_natCast,BitVec.ofInt_natCast,BitVec.toNat_ofNat,BitVec.toNat_ofNat,Nat.mod_eq_of_lt hx,Nat.mod_eq_of_lt hy]
 show IntKind.u32.wrap ((BitVec.ofInt 32 (x:Int)|||BitVec.ofInt 32 (y:Int)).toNat:Int)=_
 rw[h,IntKind.wrap_u32]
 have:x|||y<2^32:=Nat.or_lt_two_pow (by omega) (by omega)
 omega
theorem word_or {a b c d:Nat}(ha:a<256)(hb:b<256)(hc:c<256)(hd:d<256):
  bits .or .u32 (bits .or .u32 (bits .or .u32 ((a:Int)%4294967296) ((b:Int)%4294967296*256%4294967296)) ((c:Int)%4294967296*65536%4294967296)) ((d:Int)%4294967296*16777216%4294967296)=a+256*b+65536*c+16777216*d:=by
 have e1:(a:Int)%4294967296=(a:Nat):=by omega
 have e2:(b:Int)%4294967296*256%4294967296=((b*2^8:Nat):Int):=by omega
 have e3:(c:Int)%4294967296*65536%4294967296=((c*2^16:Nat):Int):=by omega
 have e4:(d:Int)%4294967296*16777216%4294967296=((d*2^24:Nat):Int):=by omega
 rw[e1,e2,e3,e4,Jr (by omega) (by omega),Dx 8 (by omega),Jr (by omega) (by omega),Dx 16 (by omega),Jr (by omega) (by omega),Dx 24 (by omega)]
 omega
theorem Awa {s:ByteArray}{i:Nat}(h0:i<s.size)(h1:i+1<s.size)(h2:i+2<s.size)(h3:i+3<s.size):
  bits .or .u32 (bits .or .u32 (bits .or .u32 (((s[i]'h0).toNat:Int)%4294967296) (((s[i+1]'h1).toNat:Int)%4294967296*256%4294967296)) (((s[i+2]'h2).toNat:Int)%4294967296*65536%4294967296)) (((s[i+3]'h3).toNat:Int)%4294967296*16777216%4294967296)=wordAt s i:=by
 rw[word_or (s[i]'h0).toNat_lt (s[i+1]'h1).toNat_lt (s[i+2]'h2).toNat_lt (s[i+3]'h3).toNat_lt]
 unfold wordAt
 rw[<-G6 h0,<-G6 h1,<-G6 h2,<-G6 h3]
def KpB (b:Nat)(A B:World):Prop:=B.heap[b]?=A.heap[b]?
theorem KpB.cell {b i:Nat}{A B:World}(h:KpB b A B):B.cell? ⟨b,i,none⟩=A.cell? ⟨b,i,none⟩:=by
 simp only[World.cell?,show B.heap[b]?=A.heap[b]? from h]
theorem Rz (W:World)(k:Nat):W.grownBy (W.drewN k) none:=⟨rfl,rfl,rfl,Nat.le_refl _,fun _ _ _=>rfl⟩
theorem Qc (B:Nat)(W:World)(k:Nat):Below B W (W.drewN k):=⟨rfl,rfl,rfl,Nat.le_refl _,fun _ _=>rfl⟩
theorem Ava (F:Fence)(n:Nat)(h36:F.fn 129)(hro:F.round=none)(hn:1<=n)(l Bs:Nat)(s:ByteArray)(hs:s.size<=1048576)(J Jx:List Int->World->Prop)(f:Nat->Int)(hf: ∀k,f k=wordAt s (4*k))(hJ: ∀pre W k,J pre W->J pre (W.drewN k))
  (hY: ∀pre x W,J pre W->pre.length<s.size/4->YieldAt F (n - 1) Tryz.prog l #[.int .u32 x] W fun e W'=>
   (e= .returned (.bool true)/\J (pre++[x]) W'/\KpB Bs W W')\/(e= .returned (.bool false)/\Jx (pre++[x]) W'))
  (W:World) (hBs:W.cell? ⟨Bs,0,none⟩=some (.string s)) (h0:J [] W):
  CallsIn F n Tryz.prog 129 #[.func (.yield l) #[] #[],.pointer (some ⟨Bs,0,none⟩)] W fun e W'=>(∃v,e= .returned v)/\
   ((∃ys,ys=upto f (s.size/4)/\J ys W')\/(∃pre,(∃k,k<=s.size/4/\pre=upto f k)/\Jx pre W')):=by
 refine callsIn_of_wp Tryz.func129 rfl h36 ?_ hro
 simp only[Tryz.ntmps129,List.size_toArray,List.length_cons,List.length_nil,Nat.reduceAdd,Nat.reduceSub,Array.replicate_succ,Array.replicate_zero,List.push_toArray,List.append_toArray,List.nil_append,List.cons_append]
 gi_wp2
 gi_loopw [3] (fun i wr=> ∃k:Nat,k<=s.size/4/\i= .int .i64 (4*(k:Int))/\J (upto f k) wr/\KpB Bs W wr)
  (fun i _=>s.size - (intOf i).toNat)
 case atStart=>exact⟨0,Nat.zero_le _,rfl,h0,rfl⟩
 case round=>
  obtain⟨k,hk,rfl,hJs,hnx⟩:=hrel
  have hcx:wr.cell? ⟨Bs,0,none⟩=some (.string s):=(hnx.cell (i:=0)).trans hBs
  by_cases hlt:k<s.size/4
  ·have hlt4:4*k+4<=s.size:=by omega
   have p0:(0:Int)<=4*(k:Int):=by omega
   have p1:(0:Int)<=4*(k:Int)+1:=by omega
   have p2:(0:Int)<=4*(k:Int)+2:=by omega
   have p3:(0:Int)<=4*(k:Int)+3:=by omega
   have q0:4*(k:Int)<s.size:=by omega
   have q1:4*(k:Int)+1<s.size:=by omega
   have q2:4*(k:Int)+2<s.size:=by omega
   have q3:4*(k:Int)+3<s.size:=by omega
   gi_wp2
   refine wpIn_region_quiet_lit hro (by kernel_rfl) (by kernel_rfl) ?_
   repeat (gi_big_quiet_step (fail))
   refine wpQuietIn_nil ?_
   intro _ hw'
   obtain⟨nq,hw''⟩:=hw'
   subst hw''
   rw[Awa (by omega) (by omega) (by omega) (by omega),<-hf]
   clear hf
   have hJq:=hJ _ _ nq hJs
   have hnq:KpB Bs W (wr.drewN nq):=hnx
   generalize wr.drewN nq=Wq at hJq hnq⊢
   obtain⟨fn,tmps,assign,body,hy,hR⟩:=hY _ (f k) Wq hJq (by rw[Ea];exact hlt)
   gi_wp2
   refine hR.mono ?_
   rintro e W3 (⟨rfl,hJ3,hk3⟩|⟨rfl,hJx3⟩)
   ·gi_wp2
    go_roundw
    case rel=>exact⟨k+1,by omega,by simp;omega,by rw[Jv];exact hJ3,Eq.trans hk3 hnq⟩
    case measure=>simp[intOf];omega
   ·gi_wp2
    refine bodyPost_ret (results_none rfl _ _ _) rfl ?_
    exact⟨⟨_,rfl⟩,.inr ⟨_,⟨k+1,by omega,(Jv _ _).symm⟩,hJx3⟩⟩
  ·obtain rfl:k=s.size/4:=by omega
   have p4: ¬4*((s.size/4:Nat):Int)+4<=s.size:=by omega
   gi_wp2
   go_end0
   exact⟨⟨_,rfl⟩,.inl hJs⟩
end Go.Proofs.YtpmoibjpjlhcgaaGreatDoor.K
namespace Go.Proofs.YtpmoibjpjlhcgaaGreatDoor.K
open Go Go.RowKit Go.Shelf
attribute [local go_sem] Oper.semAt_some
def wordsOf (s:ByteArray):List Int:=upto (fun k=>wordAt s (4*k)) (s.size/4)
theorem Lq (s:ByteArray):(wordsOf s).length=s.size/4:=Ea _ _
theorem Aza {α:Type}(f:Nat->α){k n:Nat}(h:k<=n):upto f k<+:upto f n:=by
 unfold upto
 rw[<-Nat.add_sub_of_le h,List.range_add,List.map_append]
 exact List.prefix_append _ _
theorem Lp (F:Fence)(n:Nat)(h30:F.fn 91)(hro:F.round=none)(s:ByteArray)(w:World):
  CallsIn F n Tryz.prog 91 #[.string s] w fun e w'=>e= .returned (.func (.func 129) #[] #[.pointer (some ⟨w.heap.size,0,none⟩)])/\w'=w.alloc (.cells #[.string s] 9):=by
 refine callsIn_of_wp Tryz.func91 rfl h30 ?_ hro
 simp only[Tryz.ntmps91,List.size_toArray,List.length_cons,List.length_nil,Nat.reduceAdd,Nat.reduceSub,Array.replicate_succ,Array.replicate_zero,List.push_toArray,List.append_toArray,List.nil_append,List.cons_append]
 gi_wp2
 go_ret
 exact⟨rfl,rfl⟩
theorem Hz (F:Fence)(n:Nat)(h36:F.fn 129)(hro:F.round=none)(hn:1<=n)(Bs:Nat)(s:ByteArray)(hs:s.size<=1048576)(w:World)(hBs:Bs<w.heap.size)(hc:w.cell? ⟨Bs,0,none⟩=some (.string s)):
  SeqStopsK F n Tryz.prog 129 #[.pointer (some ⟨Bs,0,none⟩)] (fun x:Int=> #[Value.int .u32 x]) (KpB Bs) (fun ys=>ys=wordsOf s) (fun pre=>pre<+:wordsOf s) (s.size/4) w:=fun l J Jx W hW hJ _ hY h0=>by
 refine(Ava F n h36 hro hn l Bs s hs J Jx (fun k=>wordAt s (4*k)) (fun _=>rfl) (fun pre W k h=>hJ pre W (W.drewN k) none h (Rz W k) (fun r e=>by cases e)) hY W ((hW.cell (p:=⟨Bs,0,none⟩) hBs).trans hc) h0).mono ?_
 rintro e W' ⟨he,⟨ys,rfl,hj⟩|⟨pre,⟨k,hk,rfl⟩,hj⟩⟩
 ·exact⟨he,.inl ⟨_,rfl,hj⟩⟩
 ·exact⟨he,.inr ⟨_,Aza _ hk,hj⟩⟩
theorem Qo (F:Fence)(n:Nat)(h36:F.fn 129)(hro:F.round=none)(hn:1<=n)(Bs n₀:Nat)(s:ByteArray)(hs:s.size<=1048576)(w:World)(hBs:Bs<w.heap.size)(hB0:Bs<n₀)(hn₀:n₀<=w.heap.size)(hc:w.cell? ⟨Bs,0,none⟩=some (.string s)):
  SeqStopsK F n Tryz.prog 129 #[.pointer (some ⟨Bs,0,none⟩)] (fun x:Int=> #[Value.int .u32 x]) (Below n₀) (fun ys=>ys=wordsOf s) (fun pre=>pre<+:wordsOf s) (s.size/4) w:=fun l J Jx W hW hJ hJx hY h0=>
 Hz F n h36 hro hn Bs s hs w hBs hc l J Jx W hW hJ hJx (fun pre x W1 h1 h2=>by
  obtain⟨fn,tmps,assign,body,hy,hR⟩:=hY pre x W1 h1 h2
  refine⟨fn,tmps,assign,body,hy,hR.mono ?_⟩
  rintro e W' (⟨h3,h4,h5⟩|h3)
  ·exact .inl ⟨h3,h4,h5.block Bs hB0⟩
  ·exact .inr h3) h0
theorem info36 :(Tryz.prog.info? 23).map (fun i=>(i.zero,i.size,i.bytes))=some (some (.int .u32 0),1,4):=by kernel_rfl
abbrev wrdF (B:Nat):Value:= .func (.func 129) #[] #[.pointer (some ⟨B,0,none⟩)]
theorem Qd (F:Fence)(n:Nat)(h35:F.fn 128)(h36:F.fn 129)(hro:F.round=none)(hn:3<=n)(Bs:Nat)(s:ByteArray)(hs:s.size<=1048576)(w:World)(hBs:Bs<w.heap.size)(hc:w.cell? ⟨Bs,0,none⟩=some (.string s)):
  CallsIn F n Tryz.prog 128 #[.slice none 0 0,wrdF Bs] w fun e W'=> ∃v,e= .returned v/\W'.ownsRow w.heap.size 23 1 v (wordsOf s).length ((wordsOf s).map (Value.int .u32))/\Below w.heap.size w W':=by
 have h1:1<=n:=by omega
 have hwl:=Lq s
 obtain⟨i0,hi,hz0,hz1,hz2⟩:=info_parts info36
 refine callsIn_of_wp_marks Tryz.func128 rfl h35 ?_ hro
 simp only[Tryz.ntmps128,List.size_toArray,List.length_cons,List.length_nil,Nat.reduceAdd,Nat.reduceSub,Array.replicate_succ,Array.replicate_zero,List.push_toArray,List.append_toArray,List.nil_append,List.cons_append]
 gi_wp2
 have bO:=Boxed.new w 41 (.slice none 0 0)
 have hB0:Below w.heap.size w (w.alloc (.cells #[.slice none 0 0] 41)):=(Below.refl _ w).alloc (Nat.le_refl _) _
 refine wpIn_rangeFunc_ownG hro h1 (gf:=129) (lb:= #[.pointer (some ⟨Bs,0,none⟩)]) rfl h36 (enters_of Tryz.func129 (by kernel_rfl) rfl)
  (Qo F (n - 1) h36 hro (by omega) Bs w.heap.size s hs _ (by simp;omega) hBs (by simp) ((hB0.cell (p:=⟨Bs,0,none⟩) hBs).trans hc)) belowK_t (belowK_b (by simp)) (Below.refl _ _) (fun _=>rfl)
  (fun pre W=>(∃v,Boxed W w.heap.size 41 v/\W.ownsRow w.heap.size 23 1 v pre.length (pre.map (Value.int .u32))/\True)/\Below w.heap.size w W)
  (fun _ _ _=>False)
  (OwnFrom.and (Own.from (holdsRow_own w.heap.size w.heap.size 41 23 1 (fun pre:List Int=>pre.length) (fun pre:List Int=>pre.map (Value.int .u32)) (fun _ _=>True)) _) (ownFrom_below (Nat.le_refl _) (by simp<;>omega)))
  (fun _ _ _ _ _ hs _ _=>hs)
  ⟨⟨_,bO,World.ownsRow_nil _ _ _ _,trivial⟩,hB0⟩
  (fun x=>{tmps:= #[.slice none 0 0,wrdF Bs,.pointer (some ⟨w.heap.size,0,none⟩),undef,.slice none 0 0,.int .u32 x,wrdF Bs,.int .u32 x,undef,undef,undef,undef,undef],defers:=[]}) ?assign ?body ?done ?stop
 case assign=>
  intro l x W K hK
  gi_wp2
  exact hK
 case body=>
  rintro l pre x W ⟨⟨v,hv,hrow,_⟩,hB⟩ hlt
  have hc:=hv.cell
  have hmx:pre.length+1<=maxLen:=by unfold maxLen;omega
  gi_wp2_with (gi_at_builtin;refine wpListIn_append_own _ rfl _ _ 41 rfl w.heap.size 23 i0 (.int .u32 0) 1 4 Tryz.underlying41 hi hz0 hz1 hz2 rfl (by decide) _ _ _ rfl (hrow.alloc _) ⟨W.heap.size,0,none⟩ 1 1 [.int .u32 x] rfl rfl (cell_one_new _ _ _) (by simp[Value.oneCell']) (by omega) (by omega) (by have:=hB.size;simp;omega) ?_;intro v' w1 hown' hgrow _;obtain⟨g',cap',rfl⟩:=ownsRow_succ hown';obtain⟨hv1,hv2,hr2,hk2,hb2⟩:=hv.appended (by decide) hrow hB.size (Nat.le_refl _) hown' hgrow;have hc1:=hv1.cell;have hf1:=hv1.frozen)
  exact⟨hk2.from _,hb2,⟨_,hv2,by simpa using hr2,trivial⟩,hB.trans hb2⟩
 case done=>
  rintro D ys W hD rfl ⟨⟨v,hv,hrow,_⟩,hB⟩ hK
  have hc:=hv.cell
  gi_wp2
  refine⟨by simp,.inl ⟨_,_,rfl,run_takeDeferred hK,?_⟩⟩
  exact⟨_,results_tmp rfl _ _ _,v,rfl,ownsRow_putObj hrow _ hK rfl,hB.trans (belowK_b (w:=w) (Nat.le_refl _) W D _ _ (by simp at hD;omega) hK rfl rfl)⟩
 case stop=>
  rintro D c pre W _ _ h _
  exact h.elim
end Go.Proofs.YtpmoibjpjlhcgaaGreatDoor.K
namespace Go.Proofs.YtpmoibjpjlhcgaaGreatDoor.K
open Go Go.RowKit Go.Shelf
attribute [local go_sem] Oper.semAt_some
theorem Ve (F:Fence)(n:Nat)(h29:F.fn 90)(h35:F.fn 128)(h36:F.fn 129)(hro:F.round=none)(hn:4<=n)(Bs:Nat)(s:ByteArray)(hs:s.size<=1048576)(w:World)(hBs:Bs<w.heap.size)(hc:w.cell? ⟨Bs,0,none⟩=some (.string s)):
  CallsIn F n Tryz.prog 90 #[wrdF Bs] w fun e W'=> ∃v,e= .returned v/\W'.ownsRow w.heap.size 23 1 v (wordsOf s).length ((wordsOf s).map (Value.int .u32))/\Below w.heap.size w W':=by
 have h1:1<=n:=by omega
 refine callsIn_of_wp Tryz.func90 rfl h29 ?_ hro
 simp only[Tryz.ntmps90,List.size_toArray,List.length_cons,List.length_nil,Nat.reduceAdd,Nat.reduceSub,Array.replicate_succ,Array.replicate_zero,List.push_toArray,List.append_toArray,List.nil_append,List.cons_append]
 gi_wp2_with (gi_at_call 128;refine(Qd F (n - 1) h35 h36 hro (by omega) Bs s hs _ hBs hc).mono ?_;rintro e w' ⟨v,rfl,hown,hB⟩)
 go_ret
 exact⟨_,rfl,hown,hB⟩
def badR :Value:= .tuple #[.agg #[.slice none 0 0,.int .i64 0],.int .i64 7]
def isImg (s:ByteArray):Prop:=12<=s.size/\s.extract 0 4=⟨#[83,69,69,68]⟩/\s.size<=65548/\wordAt s 8<=32768/\(s.size:Int)=12+4*wordAt s 4
theorem Mk {w:World}{base n:Nat}{v:Value}{xs:List Value}(h:w.ownsRow base 23 1 v n xs)(hn:0<n): ∃g cap,v= .slice (some ⟨g,0,none⟩) n cap/\base<=g/\g<w.heap.size/\n<=cap/\ ∀i,i<n->w.cell? ⟨g,i,none⟩=xs[i]?:=by
 obtain⟨hl,⟨rfl,h0⟩|⟨g,cap,cur,rfl,hb,hg,hc,hm,hs,ht⟩⟩:=h
 ·omega
 ·refine⟨g,cap,rfl,hb,(Array.getElem?_eq_some_iff.1 hg).1,hc,fun i hi=>?_⟩
  rw[<-ht,List.getElem?_take_of_lt (by omega)]
  simp[World.cell?,hg]
theorem Bh {w:World}{b i:Nat}{cs:Array Value}{t:TypeId}{v:Value}(h:w.heap[b]?=some (.cells cs t))(hi:cs[i]?=some v):w.cell? ⟨b,i,none⟩=some v:=by
 simp[World.cell?,h,hi]
theorem A6 {w:World}{b:Nat}{cs:Array Value}{t:TypeId}(h:w.heap[b]?=some (.cells cs t))(i:Nat):w.frozen? ⟨b,i,none⟩=false:=by
 simp[World.frozen?,h]
theorem On (W:World)(b i:Nat)(v:Value):W.grownBy (W.setCell ⟨b,i,none⟩ v) (some b):=
 ⟨rfl,rfl,rfl,(KeepsWalks.setCell W _ v).size,fun k _ hk=>Below.heap_setCell _ _ _ k (fun e=>hk (by rw[e]))⟩
theorem Gpa {W:World}{b b' n:Nat}{v:Value}{xs:List Value}(h:W.ownsRow b 23 1 v n xs)(hb:b'<=b):W.ownsRow b' 23 1 v n xs:=
 ⟨h.1,h.2.imp id fun⟨g,cap,cur,h1,h2,h3⟩=>⟨g,cap,cur,h1,by omega,h3⟩⟩
theorem Jj {W:World}{b i:Nat}{cs:Array Value}{t:TypeId}{fz:Nat×Nat}(h:W.heap[b]?=some (.cells cs t fz))(v:Value):(W.setCell ⟨b,i,none⟩ v).heap[b]?=some (.cells (cs.setIfInBounds i v) t fz):=by
 simp[World.setCell,Array.getElem?_modify,h]
theorem Ez (s:ByteArray)(i:Nat):0<=wordAt s i/\wordAt s i<4294967296:=by
 have h0:=Dn s i
 have h1:=Dn s (i+1)
 have h2:=Dn s (i+2)
 have h3:=Dn s (i+3)
 unfold wordAt
 omega
theorem Qp (s:ByteArray)(h:12<=s.size):wordsOf (s.extract 4 12)=[wordAt s 4,wordAt s 8]:=by
 have hsz:(s.extract 4 12).size=8:=by rw[ByteArray.size_extract];omega
 unfold wordsOf upto
 rw[hsz]
 have hb: ∀i,i<8->A1 (s.extract 4 12) i=A1 s (4+i):=fun i hi=>by
  unfold A1
  rw[ByteArray.data_extract]
  congr 2
  have hl:i<(List.take 8 (List.drop 4 s.data.toList)).length:=by
   have:s.data.size=s.size:=rfl
   simp;omega
  simp[List.getD_eq_getElem?_getD,List.getElem?_take_of_lt hi]
 simp[List.range_succ,wordAt,hb]
theorem info28 :(Tryz.prog.info? 58).map (·.size)=some 2:=by kernel_rfl
theorem results22 {tmps:Array Value}{w:World}{g:Nat}{cs:Array Value}{fr:Nat×Nat}{e:Value}(h2:tmps.getD 2 undef= .pointer (some ⟨g,0,none⟩))(hg:w.heap[g]?=some (.cells cs 58 fr))(hs:cs.size=2)(h3:tmps.getD 3 undef=e):
  (results Tryz.f56 tmps).run Tryz.prog w= .ok (.tuple #[.agg cs,e]) w:=by
 rw[results_cell_tmp (p:=2) (u:=3) (ty:=58) rfl,h2,h3]
 simp[asAddr,run_loadVar_row w g 58 58 cs fr _ hg Tryz.underlying58 rfl (by rw[info28,hs]),Result.andThen]
theorem read_in (F:Fence)(n:Nat)(h22:F.fn 56)(h29:F.fn 90)(h30:F.fn 91)(h35:F.fn 128)(h36:F.fn 129)(hro:F.round=none)(hn:6<=n)(s:ByteArray)(hs:s.size<=1048576)(w:World):
  CallsIn F n Tryz.prog 56 #[.string s] w fun e W'=>(¬isImg s/\e= .returned badR/\Below w.heap.size w W')\/
   (isImg s/\ ∃v,e= .returned (.tuple #[.agg #[v,.int .i64 (wordAt s 8)],.int .i64 0])/\W'.ownsRow w.heap.size 23 1 v (wordsOf (s.extract 12 s.size)).length ((wordsOf (s.extract 12 s.size)).map (Value.int .u32))/\Below w.heap.size w W'):=by
 have h1:1<=n:=by omega
 obtain⟨i0,hi,hz0,hz1,hz2⟩:=info_parts info36
 refine callsIn_of_wp_marks Tryz.func56 rfl h22 ?_ hro
 simp only[Tryz.ntmps56,List.size_toArray,List.length_cons,List.length_nil,Nat.reduceAdd,Nat.reduceSub,Array.replicate_succ,Array.replicate_zero,List.push_toArray,List.append_toArray,List.nil_append,List.cons_append]
 have hB1:Below w.heap.size w (w.alloc (.cells #[.slice none 0 0,.int .i64 0] 58)):=(Below.refl _ w).alloc (Nat.le_refl _) _
 have hB2:Below w.heap.size w ((w.alloc (.cells #[.slice none 0 0,.int .i64 0] 58)).alloc (.cells #[.string (s.extract 4 12)] 9)):=hB1.alloc (by simp) _
 have hcs:=Boxed.new (w.alloc (.cells #[.slice none 0 0,.int .i64 0] 58)) 9 (.string (s.extract 4 12))
 rw[World.size_alloc] at hcs
 have hx4:(s.extract 4 12).size<=1048576:=by rw[ByteArray.size_extract];omega
 by_cases c0:s.size<12
 ·have d0:(s.size:Int)<12:=by omega
  gi_wp2
  exact⟨_,results22 rfl (World.alloc_heap_new w _) rfl rfl,.inl ⟨fun h=>by have:=h.1;omega,rfl,hB1⟩⟩
 ·have d0: ¬(s.size:Int)<12:=by omega
  by_cases c1:s.extract 0 4=⟨#[83,69,69,68]⟩
  ·have hm:(s.extract 0 4).toList=[83,69,69,68]:=by rw[c1,ByteArray.toList_eq]
   by_cases c2:65548<s.size
   ·have d2:(65548:Int)<s.size:=by omega
    gi_wp2
    exact⟨_,results22 rfl (World.alloc_heap_new w _) rfl rfl,.inl ⟨fun h=>by have:=h.2.2.1;omega,rfl,hB1⟩⟩
   ·have d2: ¬(65548:Int)<s.size:=by omega
    have hcol:=fun w0 (h:w.heap.size+1<w0.heap.size) hc=>Ve F (n - 1) h29 h35 h36 hro (by omega) (w.heap.size+1) (s.extract 4 12) hx4 w0 h hc
    rw[Qp s (by omega)] at hcol
    have x4:=Ez s 4
    have x8:=Ez s 8
    have u4:IntKind.u64.wrap (wordAt s 4)=wordAt s 4:=by rw[IntKind.wrap_u64];omega
    have u44:IntKind.u64.wrap (4*wordAt s 4)=4*wordAt s 4:=by rw[IntKind.wrap_u64];omega
    have u12:IntKind.u64.wrap (12+4*wordAt s 4)=12+4*wordAt s 4:=by rw[IntKind.wrap_u64];omega
    have hres0:((w.alloc (.cells #[.slice none 0 0,.int .i64 0] 58)).alloc (.cells #[.string (s.extract 4 12)] 9)).heap[w.heap.size]?=some (.cells #[.slice none 0 0,.int .i64 0] 58):=(Below.heap_alloc _ _ _ (by simp)).trans (World.alloc_heap_new w _)
    have bad: ∀w2:World,Below (w.heap.size+1+1) ((w.alloc (.cells #[.slice none 0 0,.int .i64 0] 58)).alloc (.cells #[.string (s.extract 4 12)] 9)) w2->w2.heap[w.heap.size]?=some (.cells #[.slice none 0 0,.int .i64 0] 58)->
      ((w2.setCell ⟨w.heap.size,0,none⟩ (.slice none 0 0)).setCell ⟨w.heap.size,1,none⟩ (.int .i64 0)).heap[w.heap.size]?=some (.cells #[.slice none 0 0,.int .i64 0] 58)/\Below w.heap.size w ((w2.setCell ⟨w.heap.size,0,none⟩ (.slice none 0 0)).setCell ⟨w.heap.size,1,none⟩ (.int .i64 0)):=fun w2 h1 h2=>
     ⟨Jj (Jj h2 _) _,((hB2.trans (h1.mono (by omega))).setCell (p:=⟨w.heap.size,0,none⟩) (Nat.le_refl _) _).setCell (p:=⟨w.heap.size,1,none⟩) (Nat.le_refl _) _⟩
    by_cases c3:32768<wordAt s 8
    ·gi_wp2_with (first|(gi_at_call 91;refine(Lp F (n - 1) h30 hro _ _).mono ?_;rintro e w' ⟨rfl,rfl⟩)|(gi_at_call 90;refine(hcol _ (by simp) hcs.cell).mono ?_;rintro e w2 ⟨v2,rfl,hown2,hC2⟩;obtain⟨g2,cap2,rfl,hg2,hg2',hcap2,hcell2⟩:=Mk hown2 (by simp);have hk0:=hcell2 0 (by simp);have hk1:=hcell2 1 (by simp);simp at hk0 hk1;have hrb:=(hC2.block w.heap.size (by simp;omega)).trans hres0;have hr0:=Bh hrb (i:=0) rfl;have hr1:=Bh hrb (i:=1) rfl;have hf0:=A6 hrb 0;have hf1:=A6 hrb 1))
     obtain⟨z1,z2⟩:=bad w2 (by simpa using hC2) hrb
     exact⟨_,results22 rfl z1 rfl rfl,.inl ⟨fun h=>by have:=h.2.2.2.1;omega,rfl,z2⟩⟩
    ·by_cases c4:(s.size:Int)=12+4*wordAt s 4
     ·have c5:((s.size:Int)!=12+4*wordAt s 4)=false:=by simp[c4]
      have hmx:(wordAt s 4).toNat<=maxLen:=by unfold maxLen;omega
      have hNe:wordAt s 4=((wordAt s 4).toNat:Int):=by omega
      have HC4:=Lib.hid c4
      have HN:=Lib.hid hNe
      clear c4 hNe
      gi_wp2_with (first|(gi_at_call 91;refine(Lp F (n - 1) h30 hro _ _).mono ?_;rintro e w' ⟨rfl,rfl⟩)|(gi_at_call 90;refine(hcol _ (by simp) hcs.cell).mono ?_;rintro e w2 ⟨v2,rfl,hown2,hC2⟩;obtain⟨g2,cap2,rfl,hg2,hg2',hcap2,hcell2⟩:=Mk hown2 (by simp);have hk0:=hcell2 0 (by simp);have hk1:=hcell2 1 (by simp);simp at hk0 hk1;have hrb:=(hC2.block w.heap.size (by simp;omega)).trans hres0;have hr0:=Bh hrb (i:=0) rfl;have hr1:=Bh hrb (i:=1) rfl;have hf0:=A6 hrb 0;have hf1:=A6 hrb 1)|(gi_at_make;refine wpListIn_make_own _ rfl _ _ 41 rfl w2.heap.size 23 i0 (.int .u32 0) 1 Tryz.underlying41 hi hz0 hz1 .i64 .u32 (wordAt s 4) (wordAt s 4).toNat rfl rfl HN.out (by rw[hz2];omega) hmx (Nat.le_refl _) ?_;intro w3 hown3 hgrow3))
      have hx12:(s.extract 12 s.size).size<=1048576:=by rw[ByteArray.size_extract];omega
      have h23:w2.heap.size<=w3.heap.size:=hgrow3.size
      have bC:=Boxed.new w3 41 (.slice (some ⟨w2.heap.size,0,none⟩) 0 (wordAt s 4).toNat)
      have bS:=Boxed.new (w3.alloc (.cells #[.slice (some ⟨w2.heap.size,0,none⟩) 0 (wordAt s 4).toNat] 41)) 9 (.string (s.extract 12 s.size))
      rw[World.size_alloc] at bS
      have hC3:Below w2.heap.size w2 ((w3.alloc (.cells #[.slice (some ⟨w2.heap.size,0,none⟩) 0 (wordAt s 4).toNat] 41)).alloc (.cells #[.string (s.extract 12 s.size)] 9)):=(((Below.refl w2.heap.size w2).grown hgrow3 (Nat.le_refl _) (fun k e=>by cases e)).alloc h23 _).alloc (by simp;omega) _
      refine wpIn_rangeFunc_ownG hro h1 (gf:=129) (lb:= #[.pointer (some ⟨w3.heap.size+1,0,none⟩)]) rfl h36 (enters_of Tryz.func129 (by kernel_rfl) rfl)
       (Hz F (n - 1) h36 hro (by omega) (w3.heap.size+1) (s.extract 12 s.size) hx12 _ (by simp) bS.cell) (fun h h'=>Eq.trans h' h) ?kb (Below.refl _ _) (fun _=>rfl)
       (fun pre W=>(∃v,Boxed W w3.heap.size 41 v/\W.ownsRow w2.heap.size 23 1 v pre.length (pre.map (Value.int .u32))/\True)/\Boxed W (w3.heap.size+1) 9 (.string (s.extract 12 s.size))/\Below w2.heap.size w2 W)
       (fun _ _ _=>False)
       (OwnFrom.and (Own.from (holdsRow_own w2.heap.size w3.heap.size 41 23 1 (fun pre:List Int=>pre.length) (fun pre:List Int=>pre.map (Value.int .u32)) (fun _ _=>True)) _) (OwnFrom.and (Own.from (boxed_own _ _ _) _) (ownFrom_below (Nat.le_refl _) (by simp;omega))))
       (fun _ _ _ _ _ hs _ _=>hs)
       ⟨⟨_,bC.alloc _,(hown3.alloc _).alloc _,trivial⟩,bS,hC3⟩
       ?a1 ?assign ?body ?done ?stop
      case kb=>
       intro W l o o' hl hlo _ _
       have hlt:=(Array.getElem?_eq_some_iff.1 hlo).1
       simp at hl
       exact(grownBy_putObj' W l o').block _ (by omega) (fun e=>by cases e;omega)
      case assign=>
       intro l x W K hK
       gi_wp2
       exact hK
      case body=>
       rintro l pre x W ⟨⟨v,hv,hrow,_⟩,hbs,hB⟩ hlt
       have hc:=hv.cell
       rw[ByteArray.size_extract] at hlt
       have hmx2:pre.length+1<=maxLen:=by unfold maxLen;omega
       gi_wp2_with (gi_at_builtin;refine wpListIn_append_own _ rfl _ _ 41 rfl w2.heap.size 23 i0 (.int .u32 0) 1 4 Tryz.underlying41 hi hz0 hz1 hz2 rfl (by decide) _ _ _ rfl (hrow.alloc _) ⟨W.heap.size,0,none⟩ 1 1 [.int .u32 x] rfl rfl (cell_one_new _ _ _) (by simp[Value.oneCell']) (by omega) (by omega) (by have:=hB.size;simp;omega) ?_;intro v' w1 hown' hgrow _;obtain⟨g',cap',rfl⟩:=ownsRow_succ hown';have hbs1:=((hbs.alloc _).kept hgrow (hbs.not_row (by decide) hrow)).other (B':=w3.heap.size) (by omega) (.slice (some ⟨g',0,none⟩) (pre.length+1) cap');obtain⟨hv1,hv2,hr2,hk2,hb2⟩:=hv.appended (by decide) hrow hB.size h23 hown' hgrow;have hc1:=hv1.cell;have hf1:=hv1.frozen)
       exact⟨hk2.from _,hbs1.trans hbs.symm,⟨_,hv2,by simpa using hr2,trivial⟩,hbs1,hB.trans hb2⟩
      case stop=>
       rintro D c pre W _ _ h _
       exact h.elim
      case done=>
       rintro D ys W hD rfl ⟨⟨v,hv,hrow,_⟩,hbs,hB⟩ hK
       have hrb3:=(hB.block w.heap.size (by have:=hC2.size;simp at this;omega)).trans hrb
       have er0:=Bh hrb3 (i:=0) rfl
       have er1:=Bh hrb3 (i:=1) rfl
       have ef0:=A6 hrb3 0
       have ef1:=A6 hrb3 1
       have ek1:=(hB.cell (p:=⟨g2,1,none⟩) hg2').trans hk1
       have i8:IntKind.i64.wrap (wordAt s 8)=wordAt s 8:=by rw[IntKind.wrap_i64];omega
       obtain⟨A,len,cap,rfl⟩: ∃A len cap,v= .slice A len cap:=by
        rcases hrow.2 with⟨rfl,_⟩|⟨g,cap,cur,rfl,_⟩
        ·exact⟨_,_,_,rfl⟩
        ·exact⟨_,_,_,rfl⟩
       have hc:=hv.cell
       gi_wp2
       have hw2:w.heap.size<w2.heap.size:=by have:=hC2.size;simp at this;omega
       have X1:=Jj (i:=1) (Jj (i:=0) hrb3 (.slice A len cap)) (.int .i64 (wordAt s 8))
       have X2:((W.setCell ⟨w.heap.size,0,none⟩ (.slice A len cap)).setCell ⟨w.heap.size,1,none⟩ (.int .i64 (wordAt s 8))).heap[D]?=some (.deferred (some [])):=(KeepsOthers.setCell _ _ _).same D _ ((KeepsOthers.setCell _ _ _).same D _ hK rfl) rfl
       have hno: ∀k,(Value.slice A len cap).ownBlock=some k->k≠w.heap.size:=fun k e=>by have:=(hrow.lt k e).1;omega
       have X3:=Gpa ((hrow.kept (On W w.heap.size 0 (.slice A len cap)) (.inr fun e=>hno _ e rfl)).kept (On _ w.heap.size 1 (.int .i64 (wordAt s 8))) (.inr fun e=>hno _ e rfl)) (Nat.le_of_lt hw2)
       have X4:Below w.heap.size w ((W.setCell ⟨w.heap.size,0,none⟩ (.slice A len cap)).setCell ⟨w.heap.size,1,none⟩ (.int .i64 (wordAt s 8))):=(((hB2.trans (hC2.mono (by simp;omega))).trans (hB.mono (Nat.le_of_lt hw2))).setCell (p:=⟨w.heap.size,0,none⟩) (Nat.le_refl _) _).setCell (p:=⟨w.heap.size,1,none⟩) (Nat.le_refl _) _
       have hDw:D≠w.heap.size:=by simp at hD;omega
       have him:isImg s:=⟨by omega,c1,by omega,by omega,HC4.out⟩
       generalize hX:(W.setCell ⟨w.heap.size,0,none⟩ (.slice A len cap)).setCell ⟨w.heap.size,1,none⟩ (.int .i64 (wordAt s 8))=X at X1 X2 X3 X4
       have fin: ∀tmps:Array Value,tmps.getD 2 undef= .pointer (some ⟨w.heap.size,0,none⟩)->tmps.getD 3 undef= .int .i64 0->LeavesInM F n Tryz.prog Tryz.f56 tmps (fun e W'=>(¬isImg s/\e= .returned badR/\Below w.heap.size w W')\/
         (isImg s/\ ∃v,e= .returned (.tuple #[.agg #[v,.int .i64 (wordAt s 8)],.int .i64 0])/\W'.ownsRow w.heap.size 23 1 v (wordsOf (s.extract 12 s.size)).length ((wordsOf (s.extract 12 s.size)).map (Value.int .u32))/\Below w.heap.size w W')) [{target:= .collected D,args:= #[]}] .returning X.drew:=fun tmps h2 h3=>by
        refine⟨by simp,.inl ⟨_,_,rfl,run_takeDeferred (show X.drew.heap[D]?=_ from X2),?_⟩⟩
        refine⟨_,results22 (g:=w.heap.size) (cs:= #[.slice A len cap,.int .i64 (wordAt s 8)]) (fr:=(0,0)) h2 ?_ rfl h3,.inr ⟨him,_,rfl,?_,?_⟩⟩
        ·exact((grownBy_putObj' X.drew D (.deferred none)).block w.heap.size (Array.getElem?_eq_some_iff.1 X1).1 (fun e=>hDw (by cases e;rfl))).trans X1
        ·exact ownsRow_putObj (show X.drew.ownsRow _ _ _ _ _ _ from X3) _ (show X.drew.heap[D]?=_ from X2) rfl
        ·exact(X4.trans (Qc _ X 1)).trans (belowK_b (w:=w) (Nat.le_refl _) X.drew D _ _ (by simp at hD;omega) (show X.drew.heap[D]?=_ from X2) rfl rfl)
       gi_region
       all_goals (try rw[hX])
       all_goals gi_wp2
       all_goals exact fin _ rfl rfl
     ·have c5:((s.size:Int)!=12+4*wordAt s 4)=true:=by simp[c4]
      gi_wp2_with (first|(gi_at_call 91;refine(Lp F (n - 1) h30 hro _ _).mono ?_;rintro e w' ⟨rfl,rfl⟩)|(gi_at_call 90;refine(hcol _ (by simp) hcs.cell).mono ?_;rintro e w2 ⟨v2,rfl,hown2,hC2⟩;obtain⟨g2,cap2,rfl,hg2,hg2',hcap2,hcell2⟩:=Mk hown2 (by simp);have hk0:=hcell2 0 (by simp);have hk1:=hcell2 1 (by simp);simp at hk0 hk1;have hrb:=(hC2.block w.heap.size (by simp;omega)).trans hres0;have hr0:=Bh hrb (i:=0) rfl;have hr1:=Bh hrb (i:=1) rfl;have hf0:=A6 hrb 0;have hf1:=A6 hrb 1))
      obtain⟨z1,z2⟩:=bad w2 (by simpa using hC2) hrb
      exact⟨_,results22 rfl z1 rfl rfl,.inl ⟨fun h=>c4 h.2.2.2.2,rfl,z2⟩⟩
  ·have hm: ¬(s.extract 0 4).toList=[83,69,69,68]:=fun h=>c1 (by
    apply ByteArray.ext;apply Array.ext'
    rw[<-ByteArray.toList_eq,h])
   gi_wp2
   exact⟨_,results22 rfl (World.alloc_heap_new w _) rfl rfl,.inl ⟨fun h=>c1 h.2.1,rfl,hB1⟩⟩
end Go.Proofs.YtpmoibjpjlhcgaaGreatDoor.K
