/- A part of the proof: Gl, Ab1, Ab2, Ab3, Ab4, Ab5, Ab6, Ab7. -/
import Derived.KernelRfl
import Derived.WalkKit
import Derived.Deep.Draws
set_option linter.unusedSimpArgs false
set_option linter.unusedVariables false
namespace Go.Ab
section
open Go
def globT :Nat→Option (List Value)
 |0=>some [.int .i64 7,.int .i64 9,.int .i64 13,.int .i64 18]
 |1=>some [.string ⟨#[60,60]⟩,.string ⟨#[62,62]⟩,.string ⟨#[61,61]⟩,.string ⟨#[38,38]⟩,.string ⟨#[124,124]⟩,.string ⟨#[40]⟩,.string ⟨#[41]⟩,.string ⟨#[123]⟩,.string ⟨#[125]⟩,.string ⟨#[91]⟩,.string ⟨#[93]⟩,.string ⟨#[59]⟩,.string ⟨#[44]⟩,.string ⟨#[61]⟩,.string ⟨#[43]⟩,.string ⟨#[45]⟩,.string ⟨#[42]⟩,.string ⟨#[47]⟩,.string ⟨#[37]⟩,.string ⟨#[38]⟩,.string ⟨#[124]⟩,.string ⟨#[94]⟩,.string ⟨#[60]⟩,.string ⟨#[33]⟩]
 |2=>some [.string ⟨#[118,97,114]⟩,.string ⟨#[97,114,114,97,121]⟩,.string ⟨#[102,117,110,99]⟩,.string ⟨#[119,111,114,100]⟩,.string ⟨#[105,102]⟩,.string ⟨#[101,108,115,101]⟩,.string ⟨#[119,104,105,108,101]⟩,.string ⟨#[114,101,116,117,114,110]⟩,.string ⟨#[112,117,116]⟩,.string ⟨#[103,101,116]⟩]
 |_=>none
theorem globT_one {g:Nat}{vs:List Value}(h:globT g=some vs): ∀v∈vs,v.oneCell'=true:=by
 unfold globT at h
 split at h
 ·cases h;simp[Value.oneCell']
 ·cases h;simp[Value.oneCell']
 ·cases h;simp[Value.oneCell']
 ·cases h
theorem Zh {p:Prop}(h:p:=by repeat' (first|(with_reducible apply And.intro)|kernel_rfl)):p:=h
theorem Zj {p:Prop}(h:p:=by repeat' (first|(with_reducible apply And.intro)|rfl)):p:=h
theorem Zo {p:Prop}(h:p:=by omega):p:=h
theorem Zm {p:Prop}(h:p:=by simp[*]):p:=h
theorem Zi {p:Prop}(h:p:=by simp):p:=h
theorem Zf {p:Prop}(h:p:=by kernel_rfl):p:=h
theorem Zd {p:Prop}(h:p:=by decide):p:=h
end
section
open Go
structure Nm where
 d:Nat
 i:Nat
 c:Nat
deriving DecidableEq
inductive AV where
 |any
 |sc (v:Value)
 |sl (full:Bool) (sz:Nat) (rows:List (List AV))
 |dp (cells:List AV) (off:Nat)
 |own (x:Nm) (g n:Nat)
 |ptr (x:Nm) (g off:Nat)
 |eptr (x:Nm) (g i off:Nat)
 |agg (cs:List AV)
 |tup (vs:List AV)
 |vec (sz:Nat) (rows:List (List AV))
 |fn (f:Nat) (caps:List AV)
 |bsl (x:Nm) (g sz off n:Nat)
 |mp (x:Nm) (g:Nat)
 |dmp (ag:Bool) (ks:List Value) (rows:List (List AV))
inductive AObj where
 |no (g:Nat)
 |box (g:Nat) (cells:List AV) (fz:Bool)
 |arr (g sz:Nat) (e:TypeId) (rows:List (List AV)) (fz:Bool)
 |map (g:Nat) (ag:Bool) (ks:List Value) (rows:List (List AV)) (fz:Bool)
def AObj.gen :AObj→Nat
 | .no g=>g
 | .box g _ _=>g
 | .arr g _ _ _ _=>g
 | .map g _ _ _ _=>g
def AObj.live :AObj→Bool
 | .no _=>false
 |_=>true
abbrev Hp :=Nm→AObj
abbrev Mp :=Nm→Option (Nat×Nat)
def upd {α:Type}(hp:Nm→α)(x:Nm)(o:α):Nm→α:=fun y=>if y=x then o else hp y
theorem upd_same {α:Type}(hp:Nm→α)(x:Nm)(o:α):upd hp x o x=o:=by simp[upd]
theorem upd_other {α:Type}(hp:Nm→α){x y:Nm}(o:α)(h:y≠x):upd hp x o y=hp y:=by simp[upd,h]
def CellsAt (w:World)(b o:Nat)(us:List Value):Prop:= ∀j v,us[j]?=some v→w.cell? ⟨b,o+j,none⟩=some v
def mkFn (f:Nat)(us:List Value):Value:= .func (.func (if f<1000000 then f else f - 1000000)) (if f<1000000 then #[] else⟨us⟩) (if f<1000000 then⟨us⟩ else #[])
mutual
def RepD (I:Nat→Prop) (w:World):AV→Value→Prop
 | .sc v,u=>u=v∧v.oneCell'=true
 | .sl full sz rows,u=> ∃A cap,u= .slice A rows.length cap∧rows.length≤cap∧cap≤maxLen∧(full=true→cap=rows.length)∧
   (rows=[]∨ ∃b o us,A=some ⟨b,o,none⟩∧I b∧CellsAt w b o us∧RepRows I w sz rows us)
 | .dp cells off,u=> ∃b o us,u= .pointer (some ⟨b,o+off,none⟩)∧I b∧CellsAt w b o us∧RepDL I w cells us
 | .fn f caps,u=> ∃us,u=mkFn f us∧RepDL I w caps us
 | .dmp ag ks rows,u=> ∃b es clock,u= .map (some b)∧I b∧w.heap[b]?=some (.map es clock)∧es.toList.map (·.key)=ks∧RepMs I w ag rows (es.toList.map (·.val))
 |_,_=>False
def RepDL (I:Nat→Prop) (w:World):List AV→List Value→Prop
 |[],us=>us=[]
 |a::as,us=> ∃v vs,us=v::vs∧RepD I w a v∧RepDL I w as vs
def RepRows (I:Nat→Prop) (w:World) (sz:Nat):List (List AV)→List Value→Prop
 |[],us=>us=[]
 |r::rs,us=> ∃u1 u2,us=u1++u2∧u1.length=sz∧RepDL I w r u1∧RepRows I w sz rs u2
def RepMs (I:Nat→Prop) (w:World) (ag:Bool):List (List AV)→List Value→Prop
 |[],vs=>vs=[]
 |r::rs,vs=> ∃v vt us,vs=v::vt∧v=(if ag then .agg ⟨us⟩ else v)∧(ag=false→us=[v]∧v.oneCell'=true)∧RepDL I w r us∧RepMs I w ag rs vt
end
mutual
def Rep (D:Nat) (I:Nat→Prop) (m:Mp) (hp:Hp) (w:World):AV→Value→Prop
 | .any,_=>True
 | .own x g n,u=>x.d≤D∧g≤(hp x).gen∧ ∀sz e rows fz,hp x= .arr g sz e rows fz→n≤rows.length∧
   ((m x=none∧u= .slice none 0 0∧n=0)∨ ∃b cap,m x=some (b,cap)∧u= .slice (some ⟨b,0,none⟩) n cap)
 | .ptr x g off,u=>x.d≤D∧g≤(hp x).gen∧ ∀cells fz,hp x= .box g cells fz→ ∃b c,m x=some (b,c)∧u= .pointer (some ⟨b,off,none⟩)
 | .eptr x g i off,u=>x.d≤D∧g≤(hp x).gen∧ ∀sz e rows fz,hp x= .arr g sz e rows fz→ ∃b c,m x=some (b,c)∧u= .pointer (some ⟨b,i*sz+off,none⟩)
 | .agg cs,u=> ∃us,u= .agg ⟨us⟩∧RepL D I m hp w cs us
 | .tup cs,u=> ∃us,u= .tuple ⟨us⟩∧RepL D I m hp w cs us
 | .fn f caps,u=> ∃us,u=mkFn f us∧RepL D I m hp w caps us
 | .bsl x g sz off n,u=>x.d≤D∧g≤(hp x).gen∧ ∀cells fz,hp x= .box g cells fz→ ∃b c cap,m x=some (b,c)∧n≤cap∧(cap≤maxLen∧off+cap*sz≤c)∧u= .slice (some ⟨b,off,none⟩) n cap
 | .vec _ _,_=>False
 | .mp x g,u=>x.d≤D∧g≤(hp x).gen∧ ∀ag ks rows fz,hp x= .map g ag ks rows fz→ ∃b c,m x=some (b,c)∧u= .map (some b)
 | .dmp ag ks rows,u=>RepD I w (.dmp ag ks rows) u
 | .sc v,u=>u=v
 | .sl full sz rows,u=>RepD I w (.sl full sz rows) u
 | .dp cells off,u=>RepD I w (.dp cells off) u
def RepL (D:Nat) (I:Nat→Prop) (m:Mp) (hp:Hp) (w:World):List AV→List Value→Prop
 |[],us=>us=[]
 |a::as,us=> ∃v vs,us=v::vs∧Rep D I m hp w a v∧RepL D I m hp w as vs
end
def NoMark (us:Array Value)(mk:Nat×Nat):Prop:= ∀j,j<us.size→(mk.1≤j&&j<mk.2)=false
def ObjOk (I K:Nat→Prop)(m:Mp)(hp:Hp)(w:World)(x:Nm):AObj→Prop
 | .no _=>True
 | .box _ cells fz=> ∃b c us T mk,m x=some (b,c)∧w.heap[b]?=some (.cells us T mk)∧(NoMark us mk∧us.size=c)∧RepL x.d I m hp w cells (us.toList.take cells.length)∧
   (fz=true→I b∧RepDL I w cells (us.toList.take cells.length))∧(fz=false→ ¬I b∧ ¬K b)
 | .arr _ sz e rows fz=>(m x=none∧rows=[])∨ ∃b cap us mk,m x=some (b,cap)∧w.heap[b]?=some (.cells us e mk)∧NoMark us mk∧us.size=cap*sz∧
   rows.length≤cap∧cap≤maxLen∧RepRows I w sz rows (us.toList.take (rows.length*sz))∧(fz=true→I b)∧(fz=false→ ¬I b∧ ¬K b)
 | .map _ ag ks rows fz=> ∃b c es clock,m x=some (b,c)∧w.heap[b]?=some (.map es clock)∧es.toList.map (·.key)=ks∧RepMs I w ag rows (es.toList.map (·.val))∧(fz=true→I b)∧(fz=false→ ¬I b∧ ¬K b)
def GlOk (I:Nat→Prop)(w:World):Prop:= ∀g vs,globT g=some vs→I g∧CellsAt w g 0 vs∧ ∀cs t mk,w.heap[g]?=some (.cells cs t mk)→cs.size=vs.length
structure Gam (I K:Nat→Prop)(m:Mp)(hp:Hp)(w:World):Prop where
 obj: ∀x,ObjOk I K m hp w x (hp x)
 inj: ∀x y p q,(hp x).live=true→(hp y).live=true→m x=some p→m y=some q→p.1=q.1→x=y
 ilt: ∀b,I b→b<w.heap.size
 klt: ∀b,K b→b<w.heap.size
 ik: ∀b,I b→ ¬K b
 gl:GlOk I w
structure Ext (I K:Nat→Prop)(m:Mp)(hp:Hp)(w:World)(I':Nat→Prop)(m':Mp)(hp':Hp)(w':World):Prop where
 isub: ∀b,I b→I' b
 keep: ∀b,I b∨K b→w'.heap[b]?=w.heap[b]?
 size:w.heap.size≤w'.heap.size
 os:w'.os=w.os
 tape:w'.tape=w.tape
 output:w'.output=w.output
 gmono: ∀x,(hp x).gen≤(hp' x).gen
 stable: ∀x,(hp' x).gen=(hp x).gen→
  match hp x with
  | .no _=>(∃g,hp' x= .no g)
  | .box _ _ _=>m' x=m x∧ ∃g cells' fz',hp' x= .box g cells' fz'
  | .arr _ sz e rows _=>m' x=m x∧ ∃g rows' fz',hp' x= .arr g sz e rows' fz'∧rows.length≤rows'.length
  | .map _ _ _ _ _=>m' x=m x∧ ∃g ag ks rows fz,hp' x= .map g ag ks rows fz
theorem CellsAt.keep {w w':World}{b o:Nat}{us:List Value}(h:CellsAt w b o us)(hb:w'.heap[b]?=w.heap[b]?):CellsAt w' b o us:=
 fun j v hv=>(World.cell?_of_block (w:=w) (a:=⟨b,o+j,none⟩) hb).trans (h j v hv)
theorem GlOk.mono {I I':Nat→Prop}{w w':World}(h:GlOk I w)(hi: ∀b,I b→I' b)(hk: ∀b,I b→w'.heap[b]?=w.heap[b]?):GlOk I' w':=
 fun g vs hg=>⟨hi _ (h g vs hg).1,(h g vs hg).2.1.keep (hk _ (h g vs hg).1),fun cs t mk hc=>(h g vs hg).2.2 cs t mk ((hk _ (h g vs hg).1).symm.trans hc)⟩
section
variable {I I':Nat→Prop}{w w':World}
mutual
theorem RepD.mono (hi: ∀b,I b→I' b) (hk: ∀b,I b→w'.heap[b]?=w.heap[b]?): ∀(a:AV) (u:Value),RepD I w a u→RepD I' w' a u
 | .any,_,h=>by simp[RepD] at h
 | .sc v,u,h=>by simpa[RepD] using h
 | .sl full sz rows,u,h=>by
  simp only[RepD] at h⊢
  obtain⟨A,cap,hu,h1,h2,h3,h4⟩:=h
  refine⟨A,cap,hu,h1,h2,h3,?_⟩
  rcases h4 with h4|⟨b,o,us,hA,hb,hc,hr⟩
  ·exact .inl h4
  ·exact .inr ⟨b,o,us,hA,hi b hb,hc.keep (hk b hb),RepRows.mono hi hk sz rows us hr⟩
 | .dp cells off,u,h=>by
  simp only[RepD] at h⊢
  obtain⟨b,o,us,hu,hb,hc,hr⟩:=h
  exact⟨b,o,us,hu,hi b hb,hc.keep (hk b hb),RepDL.mono hi hk cells us hr⟩
 | .own ..,_,h=>by simp[RepD] at h
 | .ptr ..,_,h=>by simp[RepD] at h
 | .eptr ..,_,h=>by simp[RepD] at h
 | .agg ..,_,h=>by simp[RepD] at h
 | .tup ..,_,h=>by simp[RepD] at h
 | .vec ..,_,h=>by simp[RepD] at h
 | .bsl ..,_,h=>by simp[RepD] at h
 | .mp ..,_,h=>by simp[RepD] at h
 | .fn f caps,u,h=>by
  simp only[RepD] at h⊢
  obtain⟨us,hu,h⟩:=h
  exact⟨us,hu,RepDL.mono hi hk caps us h⟩
 | .dmp ag ks rows,u,h=>by
  simp only[RepD] at h⊢
  obtain⟨b,es,clock,hu,hb,hc,hkk,hr⟩:=h
  exact⟨b,es,clock,hu,hi b hb,(hk b hb).trans hc,hkk,RepMs.mono hi hk ag rows _ hr⟩
theorem RepDL.mono (hi: ∀b,I b→I' b) (hk: ∀b,I b→w'.heap[b]?=w.heap[b]?): ∀(as:List AV) (us:List Value),RepDL I w as us→RepDL I' w' as us
 |[],us,h=>by simpa[RepDL] using h
 |a::as,us,h=>by
  simp only[RepDL] at h⊢
  obtain⟨v,vs,hu,h1,h2⟩:=h
  exact⟨v,vs,hu,RepD.mono hi hk a v h1,RepDL.mono hi hk as vs h2⟩
theorem RepRows.mono (hi: ∀b,I b→I' b) (hk: ∀b,I b→w'.heap[b]?=w.heap[b]?) (sz:Nat): ∀(rows:List (List AV)) (us:List Value),RepRows I w sz rows us→RepRows I' w' sz rows us
 |[],us,h=>by simpa[RepRows] using h
 |r::rs,us,h=>by
  simp only[RepRows] at h⊢
  obtain⟨u1,u2,hu,hl,h1,h2⟩:=h
  exact⟨u1,u2,hu,hl,RepDL.mono hi hk r u1 h1,RepRows.mono hi hk sz rs u2 h2⟩
theorem RepMs.mono (hi: ∀b,I b→I' b) (hk: ∀b,I b→w'.heap[b]?=w.heap[b]?) (ag:Bool): ∀(rows:List (List AV)) (vs:List Value),RepMs I w ag rows vs→RepMs I' w' ag rows vs
 |[],vs,h=>by simpa[RepMs] using h
 |r::rs,vs,h=>by
  simp only[RepMs] at h⊢
  obtain⟨v,vt,us,hu,h1,h2,h3,h4⟩:=h
  exact⟨v,vt,us,hu,h1,h2,RepDL.mono hi hk r us h3,RepMs.mono hi hk ag rs vt h4⟩
end
end
section
variable {I K I':Nat→Prop}{m m':Mp}{hp hp':Hp}{w w':World}
theorem Ext.own (E:Ext I K m hp w I' m' hp' w')(D:Nat){x:Nm}{g n:Nat}{u:Value}(h:Rep D I m hp w (.own x g n) u):Rep D I' m' hp' w' (.own x g n) u:=by
 simp only[Rep] at h⊢
 obtain⟨hd,hg,h⟩:=h
 refine⟨hd,Nat.le_trans hg (E.gmono x),fun sz e rows fz hx=>?_⟩
 have hgg:(hp' x).gen=g:=by rw[hx];rfl
 have heq:(hp' x).gen=(hp x).gen:=Nat.le_antisymm (by rw[hgg];exact hg) (E.gmono x)
 have hs:=E.stable x heq
 cases hpx:hp x with
 |no g'=>rw[hpx] at hs;obtain⟨g2,hg2⟩:=hs;rw[hg2] at hx;cases hx
 |box g' cells fz'=>rw[hpx] at hs;obtain⟨_,g2,c2,f2,hg2⟩:=hs;rw[hg2] at hx;cases hx
 |map _ _ _ _ _=>rw[hpx] at hs;obtain⟨_,_,_,_,_,_,hg2⟩:=hs;rw[hg2] at hx;cases hx
 |arr g' sz' e' rows' fz'=>
  rw[hpx] at hs
  obtain⟨hm,g2,r2,f2,hg2,hle⟩:=hs
  rw[hg2] at hx
  cases hx
  have hg':g'=g:=by rw[hpx] at heq;rw[hgg] at heq;simpa[AObj.gen] using heq.symm
  subst hg'
  obtain⟨h1,h2⟩:=h sz e rows' fz' hpx
  exact⟨Nat.le_trans h1 hle,by rw[hm];exact h2⟩
theorem Ext.ptr (E:Ext I K m hp w I' m' hp' w')(D:Nat){x:Nm}{g off:Nat}{u:Value}(h:Rep D I m hp w (.ptr x g off) u):Rep D I' m' hp' w' (.ptr x g off) u:=by
 simp only[Rep] at h⊢
 obtain⟨hd,hg,h⟩:=h
 refine⟨hd,Nat.le_trans hg (E.gmono x),fun cells fz hx=>?_⟩
 have hgg:(hp' x).gen=g:=by rw[hx];rfl
 have heq:(hp' x).gen=(hp x).gen:=Nat.le_antisymm (by rw[hgg];exact hg) (E.gmono x)
 have hs:=E.stable x heq
 cases hpx:hp x with
 |no g'=>rw[hpx] at hs;obtain⟨g2,hg2⟩:=hs;rw[hg2] at hx;cases hx
 |arr g' sz' e' rows' fz'=>rw[hpx] at hs;obtain⟨_,g2,c2,f2,hg2,_⟩:=hs;rw[hg2] at hx;cases hx
 |map _ _ _ _ _=>rw[hpx] at hs;obtain⟨_,_,_,_,_,_,hg2⟩:=hs;rw[hg2] at hx;cases hx
 |box g' cells' fz'=>
  rw[hpx] at hs
  obtain⟨hm,_⟩:=hs
  have hg':g'=g:=by rw[hpx] at heq;rw[hgg] at heq;simpa[AObj.gen] using heq.symm
  subst hg'
  rw[hm]
  exact h cells' fz' hpx
theorem Ext.bsl (E:Ext I K m hp w I' m' hp' w')(D:Nat){x:Nm}{g sz off n:Nat}{u:Value}(h:Rep D I m hp w (.bsl x g sz off n) u):Rep D I' m' hp' w' (.bsl x g sz off n) u:=by
 simp only[Rep] at h⊢
 obtain⟨hd,hg,h⟩:=h
 refine⟨hd,Nat.le_trans hg (E.gmono x),fun cells fz hx=>?_⟩
 have hgg:(hp' x).gen=g:=by rw[hx];rfl
 have heq:(hp' x).gen=(hp x).gen:=Nat.le_antisymm (by rw[hgg];exact hg) (E.gmono x)
 have hs:=E.stable x heq
 cases hpx:hp x with
 |no g'=>rw[hpx] at hs;obtain⟨g2,hg2⟩:=hs;rw[hg2] at hx;cases hx
 |arr g' sz' e' rows' fz'=>rw[hpx] at hs;obtain⟨_,g2,r2,f2,hg2,_⟩:=hs;rw[hg2] at hx;cases hx
 |map _ _ _ _ _=>rw[hpx] at hs;obtain⟨_,_,_,_,_,_,hg2⟩:=hs;rw[hg2] at hx;cases hx
 |box g' cells' fz'=>
  rw[hpx] at hs
  obtain⟨hm,_⟩:=hs
  have hg':g'=g:=by rw[hpx] at heq;rw[hgg] at heq;simpa[AObj.gen] using heq.symm
  subst hg'
  rw[hm]
  exact h cells' fz' hpx
theorem Ext.eptr (E:Ext I K m hp w I' m' hp' w')(D:Nat){x:Nm}{g i off:Nat}{u:Value}(h:Rep D I m hp w (.eptr x g i off) u):Rep D I' m' hp' w' (.eptr x g i off) u:=by
 simp only[Rep] at h⊢
 obtain⟨hd,hg,h⟩:=h
 refine⟨hd,Nat.le_trans hg (E.gmono x),fun sz e rows fz hx=>?_⟩
 have hgg:(hp' x).gen=g:=by rw[hx];rfl
 have heq:(hp' x).gen=(hp x).gen:=Nat.le_antisymm (by rw[hgg];exact hg) (E.gmono x)
 have hs:=E.stable x heq
 cases hpx:hp x with
 |no g'=>rw[hpx] at hs;obtain⟨g2,hg2⟩:=hs;rw[hg2] at hx;cases hx
 |box g' cells fz'=>rw[hpx] at hs;obtain⟨_,g2,c2,f2,hg2⟩:=hs;rw[hg2] at hx;cases hx
 |map _ _ _ _ _=>rw[hpx] at hs;obtain⟨_,_,_,_,_,_,hg2⟩:=hs;rw[hg2] at hx;cases hx
 |arr g' sz' e' rows' fz'=>
  rw[hpx] at hs
  obtain⟨hm,g2,r2,f2,hg2,hle⟩:=hs
  rw[hg2] at hx
  cases hx
  have hg':g'=g:=by rw[hpx] at heq;rw[hgg] at heq;simpa[AObj.gen] using heq.symm
  subst hg'
  rw[hm]
  exact h sz e rows' fz' hpx
theorem Ext.mp (E:Ext I K m hp w I' m' hp' w')(D:Nat){x:Nm}{g:Nat}{u:Value}(h:Rep D I m hp w (.mp x g) u):Rep D I' m' hp' w' (.mp x g) u:=by
 simp only[Rep] at h⊢
 obtain⟨hd,hg,h⟩:=h
 refine⟨hd,Nat.le_trans hg (E.gmono x),fun ag ks rows fz hx=>?_⟩
 have hgg:(hp' x).gen=g:=by rw[hx];rfl
 have heq:(hp' x).gen=(hp x).gen:=Nat.le_antisymm (by rw[hgg];exact hg) (E.gmono x)
 have hs:=E.stable x heq
 cases hpx:hp x with
 |no g'=>rw[hpx] at hs;obtain⟨g2,hg2⟩:=hs;rw[hg2] at hx;cases hx
 |box g' cells fz'=>rw[hpx] at hs;obtain⟨_,g2,c2,f2,hg2⟩:=hs;rw[hg2] at hx;cases hx
 |arr g' sz' e' rows' fz'=>rw[hpx] at hs;obtain⟨_,g2,r2,f2,hg2,_⟩:=hs;rw[hg2] at hx;cases hx
 |map g' ag' ks' rows' fz'=>
  rw[hpx] at hs
  obtain⟨hm,_⟩:=hs
  have hg':g'=g:=by rw[hpx] at heq;rw[hgg] at heq;simpa[AObj.gen] using heq.symm
  subst hg'
  rw[hm]
  exact h ag' ks' rows' fz' hpx
mutual
theorem Rep.mono (E:Ext I K m hp w I' m' hp' w') (D:Nat): ∀(a:AV) (u:Value),Rep D I m hp w a u→Rep D I' m' hp' w' a u
 | .any,_,_=>by simp[Rep]
 | .sc v,u,h=>by simpa[Rep] using h
 | .sl full sz rows,u,h=>by
  simp only[Rep] at h⊢
  exact RepD.mono E.isub (fun b hb=>E.keep b (.inl hb)) _ _ h
 | .dp cells off,u,h=>by
  simp only[Rep] at h⊢
  exact RepD.mono E.isub (fun b hb=>E.keep b (.inl hb)) _ _ h
 | .own ..,_,h=>E.own D h
 | .ptr ..,_,h=>E.ptr D h
 | .eptr ..,_,h=>E.eptr D h
 | .bsl ..,_,h=>E.bsl D h
 | .mp ..,_,h=>E.mp D h
 | .dmp ag ks rows,u,h=>by
  simp only[Rep] at h⊢
  exact RepD.mono E.isub (fun b hb=>E.keep b (.inl hb)) _ _ h
 | .agg cs,u,h=>by
  simp only[Rep] at h⊢
  obtain⟨us,hu,h⟩:=h
  exact⟨us,hu,RepL.mono E D cs us h⟩
 | .tup cs,u,h=>by
  simp only[Rep] at h⊢
  obtain⟨us,hu,h⟩:=h
  exact⟨us,hu,RepL.mono E D cs us h⟩
 | .fn f cs,u,h=>by
  simp only[Rep] at h⊢
  obtain⟨us,hu,h⟩:=h
  exact⟨us,hu,RepL.mono E D cs us h⟩
 | .vec ..,_,h=>by simp[Rep] at h
theorem RepL.mono (E:Ext I K m hp w I' m' hp' w') (D:Nat): ∀(as:List AV) (us:List Value),RepL D I m hp w as us→RepL D I' m' hp' w' as us
 |[],us,h=>by simpa[RepL] using h
 |a::as,us,h=>by
  simp only[RepL] at h⊢
  obtain⟨v,vs,hu,h1,h2⟩:=h
  exact⟨v,vs,hu,Rep.mono E D a v h1,RepL.mono E D as vs h2⟩
end
end
end
end Go.Ab
namespace Go.Ab
open Go
inductive Head where
 |no
 |box (g n:Nat) (fz:Bool)
 |arr (g sz:Nat) (e:TypeId) (n:Nat) (fz:Bool)
 |map (g:Nat) (fz:Bool)
def AObj.head :AObj→Head
 | .no _=> .no
 | .box g cells fz=> .box g cells.length fz
 | .arr g sz e rows fz=> .arr g sz e rows.length fz
 | .map g _ _ _ fz=> .map g fz
inductive Prog (α:Type) where
 |ret (a:α)
 |get (x:Nm) (k:AObj→Prog α)
 |put (x:Nm) (o:AObj) (k:Prog α)
 |hdr (x:Nm) (k:Head→Prog α)
 |getC (x:Nm) (off:Nat) (k:AV→Prog α)
 |putC (x:Nm) (off:Nat) (v:AV) (k:Prog α)
 |ext (g:Hp→Option (AV×Hp)) (k:AV→Prog α)
 |fail
def cellOf :AObj→Nat→Option AV
 | .box _ cells _,off=>cells[off]?
 |_,_=>none
def setCellOf :AObj→Nat→AV→Option AObj
 | .box g cells fz,off,v=>if off<cells.length then some (.box g (cells.set off v) fz) else none
 |_,_,_=>none
namespace Prog
def bind {α β:Type}:Prog α→(α→Prog β)→Prog β
 | .ret a,f=>f a
 | .get x k,f=> .get x fun o=>(k o).bind f
 | .put x o k,f=> .put x o (k.bind f)
 | .hdr x k,f=> .hdr x fun o=>(k o).bind f
 | .getC x off k,f=> .getC x off fun v=>(k v).bind f
 | .putC x off v k,f=> .putC x off v (k.bind f)
 | .ext g k,f=> .ext g fun v=>(k v).bind f
 | .fail,_=> .fail
def run {α:Type}:Prog α→Hp→Option (α×Hp)
 | .ret a,hp=>some (a,hp)
 | .get x k,hp=>(k (hp x)).run hp
 | .put x o k,hp=>k.run (upd hp x o)
 | .hdr x k,hp=>(k (hp x).head).run hp
 | .getC x off k,hp=>match cellOf (hp x) off with
  |some v=>(k v).run hp
  |none=>none
 | .putC x off v k,hp=>match setCellOf (hp x) off v with
  |some o=>k.run (upd hp x o)
  |none=>none
 | .ext g k,hp=>match g hp with
  |some (v,hp')=>(k v).run hp'
  |none=>none
 | .fail,_=>none
end Prog
/-! ### types -/
def slel (P:Program)(t:TypeId):Option TypeId:=match P.underlying t with|some (.slice e)=>some e|_=>none
def isAggB (P:Program)(t:TypeId):Bool:=match P.underlying t with|some (.struct _)=>true|some (.array _ _)=>true|_=>false
def tOk (P:Program)(t:TypeId):Bool:=(P.info? t).isSome&&(P.underlying t).isSome
def flds (P:Program)(t:TypeId):List (Nat×Nat×TypeId):=match P.underlying t with
 |some (.struct fs)=>fs.toList.map fun f=>(f.offset,P.cellsOf f.type,f.type)
 |_=>[]
def arrOf (P:Program)(t:TypeId):Option (Nat×TypeId):=match P.underlying t with|some (.array n e)=>some (n,e)|_=>none
def strB (P:Program)(t:TypeId):Bool:=match P.underlying t with|some .string=>true|_=>false
def bolB (P:Program)(t:TypeId):Bool:=match P.underlying t with|some .bool=>true|_=>false
def intK (P:Program)(t:TypeId):Option IntKind:=match P.underlying t with|some (.int k)=>some k|_=>none
def zeros (P:Program)(t:TypeId):Option (List Value):=((P.info? t).bind (·.zero)).map (·.cells.toList)
def bldOk (P:Program)(t:TypeId):Bool:=(zeros P t).isSome&&match P.underlying t with
 |some (.struct fs)=>fs.toList.all fun f=>(P.info? f.type).isSome
 |some (.array _ e)=>(P.info? e).isSome
 |_=>false
def tcsN (P:Program):Nat→TypeId→List TypeId
 |0,_=>[]
 |n+1,t=>match P.underlying t with
  |some (.struct fs)=>fs.toList.flatMap fun f=>tcsN P n f.type
  |some (.array k e)=>(List.replicate k (tcsN P n e)).flatten
  |_=>[t]
def tcs (P:Program)(t:TypeId):List TypeId:=tcsN P 8 t
def zdat (P:Program)(ct:TypeId):Value→AV
 | .slice none 0 0=> .sl false (match slel P ct with|some e=>P.cellsOf e|none=>0) []
 |v=> .sc v
def zrow (P:Program)(t:TypeId):Option (List AV):=match zeros P t with|some z=>if z.all (·.oneCell') then some (List.zipWith (zdat P) (tcs P t) z) else none|none=>none
def flatT (P:Program)(t:TypeId):Bool:=(tcs P t).all fun c=>match P.underlying c with
 |some .bool=>true|some (.int _)=>true|some .string=>true|_=>false
/-! ### scalars -/
def evInt (op:BinOp)(k:IntKind)(a b:Int):Option Value:=
 match op with
 | .add=>some (.int k (k.wrap (a+b)))
 | .sub=>some (.int k (k.wrap (a - b)))
 | .mul=>some (.int k (k.wrap (a*b)))
 | .quo=>if b=0 then none else some (.int k (k.wrap (a.tdiv b)))
 | .rem=>if b=0 then none else some (.int k (a.tmod b))
 | .and=>some (.int k (k.wrap (BitVec.ofInt k.bits a&&&BitVec.ofInt k.bits b).toNat))
 | .or=>some (.int k (k.wrap (BitVec.ofInt k.bits a|||BitVec.ofInt k.bits b).toNat))
 | .xor=>some (.int k (k.wrap (BitVec.ofInt k.bits a^^^BitVec.ofInt k.bits b).toNat))
 | .andNot=>some (.int k (k.wrap (BitVec.ofInt k.bits a&&& ~~~ BitVec.ofInt k.bits b).toNat))
 | .eql=>some (.bool (a==b))
 | .neq=>some (.bool (a !=b))
 | .lss=>some (.bool (decide (a<b)))
 | .leq=>some (.bool (decide (a≤b)))
 | .gtr=>some (.bool (decide (b<a)))
 | .geq=>some (.bool (decide (b≤a)))
 |_=>none
def evStr (op:BinOp)(a b:ByteArray):Option Value:=
 match op with
 | .add=>if a.size+b.size≤9223372036854775807 then some (.string (a++b)) else none
 | .eql=>some (.bool (decide (a=b)))
 | .neq=>some (.bool (decide (a≠b)))
 | .lss=>some (.bool (Op.bytesLess a.toList b.toList))
 |_=>none
def eqV :AV→AV→Option Bool
 | .sc (.int k a),.sc (.int k' b)=>if k=k' then some (a==b) else none
 | .sc (.string a),.sc (.string b)=>some (decide (a=b))
 | .sc (.bool a),.sc (.bool b)=>some (a==b)
 |_,_=>none
def eqL :List AV→List AV→Option Bool
 |[],[]=>some true
 |a::as,b::bs=>match eqV a b,eqL as bs with
  |some x,some y=>some (x&&y)
  |_,_=>none
 |_,_=>none
def cellFits (P:Program)(t:TypeId):AV→Bool
 | .sc (.int _ _)=>(intK P t).isSome
 | .sc (.string _)=>strB P t
 | .sc (.bool _)=>bolB P t
 |_=>false
def fitsL (P:Program):List TypeId→List AV→Bool
 |[],[]=>true
 |t::ts,x::xs=>cellFits P t x&&fitsL P ts xs
 |_,_=>false
def mapB (P:Program)(t:TypeId):Bool:=match P.underlying t with|some (.map _ _)=>true|_=>false
def evBin (P:Program)(E:TypeId→Bool)(op:BinOp)(t:TypeId):AV→AV→Option AV
 | .sc (.int k a),.sc (.int k' b)=>
  match op with
  | .shl=>if b<0 then none else some (.sc (.int k (k.wrap (a*2^(min b.toNat k.bits)))))
  | .shr=>if b<0 then none else some (.sc (.int k (a.fdiv (2^(min b.toNat k.bits)))))
  |op=>if k=k' then(evInt op k a b).map .sc else none
 | .sc (.string a),.sc (.string b)=>(evStr op a b).map .sc
 | .sc (.bool a),.sc (.bool b)=>if bolB P t then(match op with
  | .eql=>some (.sc (.bool (a==b)))
  | .neq=>some (.sc (.bool (a !=b)))
  |_=>none) else none
 | .sc (.map a),.sc (.map none)=>if mapB P t then(match op with
  | .eql=>some (.sc (.bool a.isNone))
  | .neq=>some (.sc (.bool a.isSome))
  |_=>none) else none
 | .sl _ _ (_::_),.sc (.slice none 0 0)=>if (slel P t).isSome then(match op with
  | .eql=>some (.sc (.bool false))
  | .neq=>some (.sc (.bool true))
  |_=>none) else none
 | .agg xs,.agg ys=>if E t∧fitsL P (tcs P t) xs∧fitsL P (tcs P t) ys then(match op,eqL xs ys with
  | .eql,some b=>some (.sc (.bool b))
  | .neq,some b=>some (.sc (.bool (!b)))
  |_,_=>none) else none
 |_,_=>none
def evUn (op:UnOp):AV→Option AV
 | .sc (.int k n)=>match op with
  | .neg=>some (.sc (.int k (k.wrap (0 - n))))
  | .xor=>some (.sc (.int k (k.wrap (BitVec.ofInt k.bits (if k.signed then -1 else k.max)^^^BitVec.ofInt k.bits n).toNat)))
  |_=>none
 | .sc (.bool b)=>match op with
  | .not=>some (.sc (.bool !b))
  |_=>none
 |_=>none
/-! ### data,and what is owned -/
def cellsA :AV→List AV
 | .agg cs=>cs
 | .sc (.agg us)=>us.toList.map .sc
 |v=>[v]
def aggA :AV→Bool
 | .agg _=>true
 | .sc (.agg _)=>true
 |_=>false
def allSc :AV→Bool
 | .sc _=>true
 | .agg cs=>cs.all fun| .sc _=>true|_=>false
 |_=>false
def chk :AV→Prog Unit
 | .any=> .fail
 | .ptr x g _=> .hdr x fun| .box g' _ _=>if g'=g then .ret () else .fail|_=> .fail
 | .eptr _ _ _ _=> .fail
 | .own x g _=> .hdr x fun| .arr g' _ _ _ _=>if g'=g then .ret () else .fail|_=> .fail
 | .bsl x g _ _ _=> .hdr x fun| .box g' _ _=>if g'=g then .ret () else .fail|_=> .fail
 | .mp x g=> .hdr x fun| .map g' _=>if g'=g then .ret () else .fail|_=> .fail
 |_=> .ret ()
def chkL :List AV→Prog Unit
 |[]=> .ret ()
 |v::vs=>(chk v).bind fun _=>chkL vs
def splice (l:List AV)(off:Nat)(vs:List AV):List AV:=if vs.length=l.length then vs else l.take off++vs++l.drop (off+vs.length)
def chunks (sz:Nat):Nat→List AV→List (List AV)
 |0,_=>[]
 |n+1,l=>l.take sz::chunks sz n (l.drop sz)
def isDat0 :AV→Bool
 | .sc v=>v.oneCell'
 | .sl _ _ _=>true
 | .dp _ _=>true
 | .dmp _ _ _=>true
 |_=>false
def isDat :AV→Bool
 | .sc v=>v.oneCell'
 | .sl _ _ _=>true
 | .dp _ _=>true
 | .dmp _ _ _=>true
 | .fn _ caps=>caps.all isDat0
 |_=>false
def ownD :AV→Prog AV
 | .own x g n=> .get x fun
  | .arr g' sz _ rows _=>if g'=g then .ret (.sl false sz (rows.take n)) else .fail
  |_=> .fail
 | .mp x g=> .get x fun
  | .map g' ag ks rows _=>if g'=g then .ret (.dmp ag ks rows) else .fail
  |_=> .fail
 |v=>if isDat v then .ret v else .fail
def ownDL :List AV→Prog (List AV)
 |[]=> .ret []
 |v::vs=>(ownD v).bind fun v'=>(ownDL vs).bind fun vs'=> .ret (v'::vs')
def capD (fz:Bool):AV→Prog AV
 | .sc v=>if v.oneCell' then .ret (.sc v) else .fail
 | .sl f sz rows=> .ret (.sl f sz rows)
 | .dp c o=> .ret (.dp c o)
 | .ptr x g off=> .get x fun
  | .box g' cells _=>if g'=g∧cells.all isDat then(if fz then .put x (.box g cells true) (.ret (.dp cells off)) else .ret (.dp cells off))
   else if g'=g∧fz=false then(ownDL cells).bind fun cs=> .ret (.dp cs off) else .fail
  |_=> .fail
 | .dmp ag ks rows=> .ret (.dmp ag ks rows)
 | .mp x g=> .get x fun
  | .map g' ag ks rows f=>if g'=g then(if fz then .put x (.map g ag ks rows true) (.ret (.dmp ag ks rows)) else if f then .ret (.dmp ag ks rows) else .ret (.dmp ag ks rows)) else .fail
  |_=> .fail
 |_=> .fail
def capDL (fz:Bool):List AV→Prog (List AV)
 |[]=> .ret []
 |v::vs=>(capD fz v).bind fun v'=>(capDL fz vs).bind fun vs'=> .ret (v'::vs')
def ownF :AV→Prog AV
 | .own x g n=> .get x fun
  | .arr g' sz e rows _=>if g'=g then .put x (.arr g sz e rows true) (.ret (.sl false sz (rows.take n))) else .fail
  |_=> .fail
 |v=>if isDat v then .ret v else .fail
def ownFL :List AV→Prog (List AV)
 |[]=> .ret []
 |v::vs=>(ownF v).bind fun v'=>(ownFL vs).bind fun vs'=> .ret (v'::vs')
def toDat (P:Program)(fz:Bool)(ct:TypeId):AV→Prog AV
 | .sc (.slice none 0 0)=>match slel P ct with
  |some e=> .ret (.sl false (P.cellsOf e) [])
  |none=> .fail
 | .sc v=>if v.oneCell' then .ret (.sc v) else .fail
 | .sl _ sz rows=> .ret (.sl false sz rows)
 | .dp c o=> .ret (.dp c o)
 | .own x g n=> .get x fun
  | .arr g' sz e rows f=>if g'=g then(if fz then .put x (.arr g sz e rows true) (.ret (.sl false sz (rows.take n))) else if f then .ret (.sl false sz (rows.take n)) else .ret (.sl false sz (rows.take n))) else .fail
  |_=> .fail
 | .fn f caps=>(capDL fz caps).bind fun cs=> .ret (.fn f cs)
 | .dmp ag ks rows=> .ret (.dmp ag ks rows)
 | .mp x g=> .get x fun
  | .map g' ag ks rows f=>if g'=g then(if fz then .put x (.map g ag ks rows true) (.ret (.dmp ag ks rows)) else if f then .ret (.dmp ag ks rows) else .ret (.dmp ag ks rows)) else .fail
  |_=> .fail
 | .bsl x g sz off n=> .get x fun
  | .box g' cells _=>if g'=g∧off+n*sz≤cells.length∧cells.all isDat then(if fz then .put x (.box g cells true) (.ret (.sl false sz (chunks sz n (cells.drop off)))) else .ret (.sl false sz (chunks sz n (cells.drop off))))
   else if fz=true∧g'=g∧off+n*sz≤cells.length then(ownFL cells).bind fun cs=> .get x fun
    | .box g'' _ _=>if g''=g then .put x (.box g cs true) (.ret (.sl false sz (chunks sz n (cs.drop off)))) else .fail
    |_=> .fail
   else .fail
  |_=> .fail
 |_=> .fail
def toDatL (P:Program)(fz:Bool):List TypeId→List AV→Prog (List AV)
 |_,[]=> .ret []
 |[],_::_=> .fail
 |t::ts,v::vs=>(toDat P fz t v).bind fun v'=>(toDatL P fz ts vs).bind fun vs'=> .ret (v'::vs')
def chkC (d:Nat):AV→Prog Unit
 | .ptr x g _=> .hdr x fun| .box g' _ _=>if g'=g∧x.d≤d then .ret () else .fail|_=> .fail
 | .mp x g=> .hdr x fun| .map g' _=>if g'=g∧x.d≤d then .ret () else .fail|_=> .fail
 |v=>if isDat0 v then .ret () else .fail
def chkCs (d:Nat):List AV→Prog Unit
 |[]=> .ret ()
 |v::vs=>(chkC d v).bind fun _=>chkCs d vs
def settle (P:Program)(y:Nm)(ct:TypeId):AV→Prog AV
 | .sc (.slice none 0 0)=>match slel P ct with
  |some e=> .get y fun o=> .put y (.arr (o.gen+1) (P.cellsOf e) e [] false) (.ret (.own y (o.gen+1) 0))
  |none=> .fail
 | .sc v=>if v.oneCell' then .ret (.sc v) else .fail
 | .own x g n=> .get x fun
  | .arr g' sz e rows f=>if g'=g then(if x=y then .ret (.own x g n) else if f=false∧n=rows.length then
    .put x (.no (g+1)) (.get y fun o=> .put y (.arr (o.gen+1) sz e rows false) (.ret (.own y (o.gen+1) n)))
    else .put x (.arr g sz e rows true) (.ret (.sl false sz (rows.take n)))) else .fail
  |_=> .fail
 | .sl f sz rows=> .ret (.sl f sz rows)
 | .dp c o=> .ret (.dp c o)
 | .fn f caps=>(chkCs y.d caps).bind fun _=> .ret (.fn f caps)
 | .ptr x g off=> .hdr x fun| .box g' _ _=>if g'=g∧x.d≤y.d then .ret (.ptr x g off) else .fail|_=> .fail
 | .bsl x g sz off n=> .hdr x fun| .box g' _ _=>if g'=g∧x.d≤y.d then .ret (.bsl x g sz off n) else .fail|_=> .fail
 | .dmp ag ks rows=> .ret (.dmp ag ks rows)
 | .mp x g=> .hdr x fun| .map g' _=>if g'=g∧x.d≤y.d then .ret (.mp x g) else .fail|_=> .fail
 |_=> .fail
def settleL (P:Program)(d i:Nat):Nat→List TypeId→List AV→Prog (List AV)
 |_,_,[]=> .ret []
 |_,[],_::_=> .fail
 |off,t::ts,v::vs=>(settle P ⟨d,i,off+1⟩ t v).bind fun v'=>(settleL P d i (off+1) ts vs).bind fun vs'=> .ret (v'::vs')
def newBox (P:Program)(k i:Nat)(t:TypeId)(cells:List AV):Prog AV:=
 if cells.length=P.cellsOf t then
  (settleL P k i 0 (tcs P t) cells).bind fun cs=> .get ⟨k,i,0⟩ fun o=> .put ⟨k,i,0⟩ (.box (o.gen+1) cs false) (.ret (.ptr ⟨k,i,0⟩ (o.gen+1) 0))
 else .fail
def liveA :AV→Bool
 | .fn _ caps=> !(caps.all isDat0)
 | .ptr _ _ _=>true
 | .mp _ _=>true
 |_=>false
def newArr (y:Nm)(sz:Nat)(e:TypeId)(rows:List (List AV)):Prog AV:=
 .get y fun o=> .put y (.arr (o.gen+1) sz e rows false) (.ret (.own y (o.gen+1) rows.length))
def oneV (agg:Bool)(cs:List AV):Prog AV:=if agg then .ret (.agg cs) else match cs with|[c]=> .ret c|_=> .fail
/-! ### memory -/
def getCs (x:Nm):Nat→Nat→Prog (List AV)
 |_,0=> .ret []
 |off,n+1=> .getC x off fun v=>(getCs x (off+1) n).bind fun vs=> .ret (v::vs)
def putCs (x:Nm):Nat→List AV→Prog AV
 |_,[]=> .ret .any
 |off,v::vs=> .putC x off v (putCs x (off+1) vs)
def cellsFrom (n:Nat):AV→Prog (List AV)
 | .ptr x g off=> .hdr x fun| .box g' l _=>if g'=g∧off+n≤l then getCs x off n else .fail|_=> .fail
 | .eptr x g i off=> .get x fun| .arr g' _ _ rows _=>if g'=g then(match rows[i]? with|some r=>if off+n≤r.length then .ret ((r.drop off).take n) else .fail|none=> .fail) else .fail|_=> .fail
 | .dp cells off=>if off+n≤cells.length then .ret ((cells.drop off).take n) else .fail
 |_=> .fail
def loadP (P:Program)(t:TypeId)(a:AV):Prog AV:=
 if isAggB P t then(if 0<P.cellsOf t then(cellsFrom (P.cellsOf t) a).bind fun cs=> .ret (.agg cs) else .fail)
 else if (P.underlying t).isSome then(cellsFrom 1 a).bind fun cs=>match cs with|[v]=> .ret v|_=> .fail
 else .fail
def storeP (P:Program)(t:TypeId)(a v:AV):Prog AV:=
 let vs:=cellsA v
 if vs.length=P.cellsOf t then
  match a with
  | .ptr x g off=>(settleL P x.d x.i off (tcs P t) vs).bind fun vs'=> .hdr x fun
   | .box g' l f=>if g'=g∧f=false∧off+vs'.length≤l then putCs x off vs' else .fail
   |_=> .fail
  | .eptr x g i off=>(toDatL P true (tcs P t) vs).bind fun vs'=> .get x fun
   | .arr g' sz e rows f=>if g'=g∧f=false then(match rows[i]? with
    |some r=>if off+vs'.length≤r.length then .put x (.arr g sz e (rows.set i (splice r off vs')) false) (.ret .any) else .fail
    |none=> .fail) else .fail
   |_=> .fail
  |_=> .fail
 else .fail
def shiftA (n:Nat):AV→Prog AV
 | .ptr x g off=> .hdr x fun| .box g' _ _=>if g'=g then .ret (.ptr x g (off+n)) else .fail|_=> .fail
 | .eptr x g i off=> .hdr x fun| .arr g' _ _ _ _=>if g'=g then .ret (.eptr x g i (off+n)) else .fail|_=> .fail
 | .dp cells off=> .ret (.dp cells (off+n))
 |_=> .fail
def fieldP (P:Program)(s:TypeId)(x:AV)(f:Nat):Prog AV:=
 match (flds P s)[f]? with
 |some (off,sz,_)=>if sz=0 then .fail else shiftA off x
 |none=> .fail
def indexP (P:Program)(t:TypeId)(x:AV):AV→Prog AV
 | .sc (.int _ i)=>
  if 0≤i then
   match x with
   | .sl _ sz rows=>match slel P t with
    |some e=>if sz=P.cellsOf e∧tOk P e then(match rows[i.toNat]? with|some r=> .ret (.dp r 0)|none=> .fail) else .fail
    |none=> .fail
   | .own y g n=>match slel P t with
    |some e=> .hdr y fun
     | .arr g' sz _ _ _=>if g'=g∧sz=P.cellsOf e∧tOk P e∧i.toNat<n then .ret (.eptr y g i.toNat 0) else .fail
     |_=> .fail
    |none=> .fail
   | .bsl y g sz off n=>match slel P t with
    |some e=> .hdr y fun
     | .box g' _ _=>if g'=g∧sz=P.cellsOf e∧tOk P e∧i.toNat<n then .ret (.ptr y g (off+i.toNat*P.cellsOf e)) else .fail
     |_=> .fail
    |none=> .fail
   |x=>match arrOf P t with
    |some (len,e)=>if i.toNat<len∧tOk P e then shiftA (i.toNat*P.cellsOf e) x else .fail
    |none=> .fail
  else .fail
 |_=> .fail
def bound (dflt:Nat):Option AV→Option Nat
 |none=>some dflt
 |some (.sc (.int _ i))=>if 0≤i then some i.toNat else none
 |_=>none
def sliceP (P:Program)(t:TypeId)(x:AV)(lo hi mx:Option AV):Prog AV:=
 match x with
 | .sc (.string s)=>match strB P t,bound 0 lo,bound s.size hi,mx with
  |true,some l,some h,none=>if l≤h∧h≤s.size then .ret (.sc (.string (s.extract l h))) else .fail
  |_,_,_,_=> .fail
 | .sl _ sz rows=>match slel P t,bound 0 lo,bound rows.length hi,mx with
  |some e,some l,some h,none=>if l≤h∧h≤rows.length∧sz=P.cellsOf e∧tOk P e then .ret (.sl false sz ((rows.take h).drop l)) else .fail
  |some e,some l,some h,some m=>match bound 0 (some m) with
   |some m=>if l≤h∧h=m∧h≤rows.length∧sz=P.cellsOf e∧hi.isSome∧tOk P e then .ret (.sl true sz ((rows.take h).drop l)) else .fail
   |none=> .fail
  |_,_,_,_=> .fail
 | .own y g n=> .get y fun
  | .arr g' sz e' rows f=>match slel P t,bound 0 lo,bound n hi,mx with
   |some e,some l,some h,none=>if g'=g∧l≤h∧h≤n∧sz=P.cellsOf e∧tOk P e then
     (if l=0 then .ret (.own y g h) else .put y (.arr g sz e' rows true) (.ret (.sl false sz ((rows.take h).drop l)))) else .fail
   |some e,some l,some h,some m=>match bound 0 (some m) with
    |some m=>if g'=g∧l≤h∧h=m∧h≤n∧sz=P.cellsOf e∧hi.isSome∧tOk P e then .put y (.arr g sz e' rows true) (.ret (.sl true sz ((rows.take h).drop l))) else .fail
    |none=> .fail
   |_,_,_,_=>if f then .fail else .fail
  |_=> .fail
 | .ptr y g off=>match arrOf P t,bound 0 lo,mx with
  |some (n,e),some l,none=>match bound n hi with
   |some h=> .hdr y fun
    | .box g' len _=>if g'=g∧n≤maxLen∧off+n*P.cellsOf e≤len∧l≤h∧h≤n∧tOk P e then .ret (.bsl y g (P.cellsOf e) (if n=l then off else off+l*P.cellsOf e) (h - l)) else .fail
    |_=> .fail
   |none=> .fail
  |_,_,_=> .fail
 | .dp cells off=>match arrOf P t,lo,hi,mx with
  |some (n,e),none,none,none=>if n*P.cellsOf e≤(cells.drop off).length∧tOk P e∧n≤maxLen then .ret (.sl true (P.cellsOf e) (chunks (P.cellsOf e) n (cells.drop off))) else .fail
  |_,_,_,_=> .fail
 |_=> .fail
def rowsP :AV→Prog (Nat×List (List AV))
 | .sl _ sz rows=> .ret (sz,rows)
 | .own x g n=> .get x fun| .arr g' sz _ rows _=>if g'=g∧n≤rows.length then .ret (sz,rows.take n) else .fail|_=> .fail
 | .sc (.slice none 0 0)=> .ret (0,[])
 | .sc (.string s)=> .ret (1,s.data.toList.map fun b=>[.sc (.int .u8 b.toNat)])
 | .bsl x g sz off n=> .get x fun| .box g' cells _=>if g'=g∧off+n*sz≤cells.length∧cells.all isDat then .ret (sz,chunks sz n (cells.drop off)) else .fail|_=> .fail
 |_=> .fail
def lenP (P:Program)(t:TypeId):AV→Prog AV
 | .sc (.string s)=>if strB P t then .ret (.sc (.int .i64 s.size)) else .fail
 | .sl _ _ rows=>if (slel P t).isSome then .ret (.sc (.int .i64 rows.length)) else .fail
 | .own x g n=>if (slel P t).isSome then .hdr x fun| .arr g' _ _ _ _=>if g'=g then .ret (.sc (.int .i64 n)) else .fail|_=> .fail else .fail
 | .sc (.slice none 0 0)=>if (slel P t).isSome then .ret (.sc (.int .i64 0)) else .fail
 | .bsl x g _ _ n=>if (slel P t).isSome then .hdr x fun| .box g' _ _=>if g'=g then .ret (.sc (.int .i64 n)) else .fail|_=> .fail else .fail
 |_=> .fail
def zok (P:Program)(e:TypeId):Bool:=match zeros P e with|some z=>z.length==P.cellsOf e&&decide (0<P.cellsOf e)|none=>false
def srcT (P:Program)(t:TypeId):Bool:=match P.underlying t with|some (.slice _)=>true|some .string=>true|_=>false
def appR1 (P:Program)(y:Nm)(e:TypeId)(src:List (List AV))(s:AV):Prog AV:=
 match s with
 | .own z g n=> .get z fun
  | .arr g' sz e' rows f=>if g'=g∧f=false∧n=rows.length∧(sz=P.cellsOf e∧e'=e)∧(n+src.length)*P.bytesOf e≤140737488355328∧n+src.length≤maxLen then
    .put z (.arr (g+1) sz e (rows++src) false) (.ret (.own z (g+1) (n+src.length))) else .fail
  |_=> .fail
 | .sc (.slice none 0 0)=>if src.length*P.bytesOf e≤140737488355328∧src.length≤maxLen then newArr y (P.cellsOf e) e src else .fail
 | .sl true sz rows=>if sz=P.cellsOf e∧0<src.length∧(rows.length+src.length)*P.bytesOf e≤140737488355328∧rows.length+src.length≤maxLen then newArr y sz e (rows++src) else .fail
 |_=> .fail
def appR (P:Program)(y:Nm)(e:TypeId)(src:List (List AV))(s:AV):Prog AV:=
 match s with
 | .own z g n=> .get z fun
  | .arr g' sz e' rows f=>if g'=g∧f=false∧n<rows.length then .put z (.arr (g+1) sz e' (rows.take n) false) (appR1 P y e src (.own z (g+1) n)) else appR1 P y e src (.own z g n)
  |_=> .fail
 |s=>appR1 P y e src s
def appendP (P:Program)(y:Nm)(t t':TypeId)(s x:AV):Prog AV:=
 match slel P t with
 |some e=>if zok P e∧srcT P t' then(rowsP x).bind fun(sz',src)=>
  if sz'=P.cellsOf e∨src=[] then appR P y e src s else .fail
  else .fail
 |none=> .fail
def copyP (P:Program)(t:TypeId)(d s:AV):Prog AV:=
 match slel P t with
 |some e=>if tOk P e then(rowsP s).bind fun(sz',src)=>
  if sz'=P.cellsOf e∨src=[] then
   match d with
   | .bsl x g sz off n=> .hdr x fun
    | .box g' l f=>if g'=g∧f=false∧sz=P.cellsOf e∧src.length≤n∧off+src.flatten.length≤l then(putCs x off src.flatten).bind fun _=> .ret (.sc (.int .i64 src.length)) else .fail
    |_=> .fail
   | .own x g n=> .get x fun
    | .arr g' sz e' rows f=>if g'=g∧f=false∧sz=P.cellsOf e∧src.length≤n∧n≤rows.length then .put x (.arr g sz e' (src++rows.drop src.length) false) (.ret (.sc (.int .i64 src.length))) else .fail
    |_=> .fail
   |_=> .fail
  else .fail
  else .fail
 |none=> .fail
def makeP (P:Program)(y:Nm)(t:TypeId):AV→AV→Prog AV
 | .sc (.int _ l),.sc (.int _ c)=>match slel P t with
  |some e=>match zrow P e with
   |some z=>if 0≤l∧l≤c∧c≤9223372036854775807∧c*P.bytesOf e≤140737488355328∧z.length=P.cellsOf e∧zok P e then newArr y (P.cellsOf e) e (List.replicate l.toNat z) else .fail
   |none=> .fail
  |none=> .fail
 |_,_=> .fail
def makeBP (P:Program)(y:Nm)(t:TypeId):AV→AV→Prog AV
 | .sc (.int _ l),.sc (.int _ c)=>match slel P t with
  |some e=>match zrow P e with
   |some z=>if 0≤l∧l=c∧c≤9223372036854775807∧c*P.bytesOf e≤140737488355328∧z.length=P.cellsOf e∧zok P e then
     .get y fun o=> .put y (.box (o.gen+1) (List.replicate l.toNat z).flatten false) (.ret (.bsl y (o.gen+1) (P.cellsOf e) 0 l.toNat)) else .fail
   |none=> .fail
  |none=> .fail
 |_,_=> .fail
/-! Lists that grow as boxes:their elements may be lists that are written. -/
def cellsBP :AV→Prog (Nat×Nat×List AV)
 | .bsl x g sz off n=> .get x fun| .box g' cells _=>if g'=g∧off+n*sz≤cells.length then .ret (sz,n,(cells.drop off).take (n*sz)) else .fail|_=> .fail
 |v=>(rowsP v).bind fun(sz,rows)=> .ret (sz,rows.length,rows.flatten)
def lenB :AV→Nat
 | .own _ _ n=>n
 | .bsl _ _ _ _ n=>n
 |_=>0
def tgtB (y:Nm):AV→Nm
 | .own z _ _=>if z.c=0 then z else y
 | .bsl z _ _ _ _=>z
 |_=>y
def growBP (sz:Nat)(t:Nm)(n':Nat)(cs:List AV):AV→Prog AV
 | .sc (.slice none 0 0)=> .get t fun o=> .put t (.box (o.gen+1) cs false) (.ret (.bsl t (o.gen+1) sz 0 n'))
 | .own z g n=> .get z fun
  | .arr g' sz' _ rows f=>if g'=g∧f=false∧n≤rows.length∧sz'=sz then
    .put z (.no (g+1)) (.get t fun o=> .put t (.box (o.gen+1) ((rows.take n).flatten++cs) false) (.ret (.bsl t (o.gen+1) sz 0 (n+n')))) else .fail
  |_=> .fail
 | .bsl z g sz' off n=> .get z fun
  | .box g' cells f=>if g'=g∧f=false∧off=0∧n*sz≤cells.length∧sz'=sz∧z=t then
    .put z (.no (g+1)) (.get t fun o=> .put t (.box (o.gen+1) (cells.take (n*sz)++cs) false) (.ret (.bsl t (o.gen+1) sz 0 (n+n')))) else .fail
  |_=> .fail
 |_=> .fail
def appendBP (P:Program)(y:Nm)(t t':TypeId)(s x:AV):Prog AV:=
 match slel P t with
 |some e=>if zok P e∧srcT P t' then(cellsBP x).bind fun(sz',n',cells)=>
  if sz'=P.cellsOf e∧0<n'∧(lenB s+n')*P.bytesOf e≤140737488355328∧lenB s+n'≤maxLen then
   (settleL P (tgtB y s).d (tgtB y s).i (lenB s*P.cellsOf e) (List.replicate n' (tcs P e)).flatten cells).bind fun cs=>growBP (P.cellsOf e) (tgtB y s) n' cs s
  else .fail
  else .fail
 |none=> .fail
/-! ### maps -/
def mapT (P:Program)(t:TypeId):Option (TypeId×TypeId):=match P.underlying t with|some (.map kt et)=>some (kt,et)|_=>none
def arrPl (P:Program)(t:TypeId):Bool:=match P.underlying t with
 |some (.array n e)=> !isAggB P e&&tOk P e&&P.cellsOf e==1&&P.cellsOf t==n&&(P.info? e).isSome&&(P.info? t).isSome
 |_=>false
def typesOf (P:Program)(t:TypeId):List TypeId:=match P.underlying t with
 |some (.array n e)=>List.replicate n e
 |_=>[t]
def keyOk (P:Program)(kt:TypeId):Value→Bool
 | .int _ _=>(intK P kt).isSome
 | .string _=>strB P kt
 | .agg us=>arrPl P kt&&fitsL P (typesOf P kt) (us.toList.map .sc)
 |_=>false
def keyEq :Value→Value→Option Bool
 | .int k a,.int k' b=>if k=k' then some (a==b) else none
 | .string a,.string b=>some (decide (a=b))
 | .agg a,.agg b=>eqL (a.toList.map .sc) (b.toList.map .sc)
 |_,_=>none
def plainL :List AV→Option (List Value)
 |[]=>some []
 | .sc v::cs=>(plainL cs).map (v:: ·)
 |_=>none
def keyA :AV→Option Value
 | .sc v=>some v
 | .agg cs=>(plainL cs).map fun us=> .agg ⟨us⟩
 |_=>none
def findK (key:Value):List Value→Nat→Option (Option Nat)
 |[],_=>some none
 |k::ks,i=>match keyEq key k with
  |some true=>some (some i)
  |some false=>findK key ks (i+1)
  |none=>none
def mapRows (P:Program):AV→Prog (Bool×List Value×List (List AV))
 | .sc (.map none)=> .ret (false,[],[])
 | .dmp ag ks rows=> .ret (ag,ks,rows)
 | .mp x g=> .get x fun
  | .map g' ag ks rows _=>if g'=g then .ret (ag,ks,rows) else .fail
  |_=> .fail
 |_=> .fail
def zeroV (P:Program)(e:TypeId):Prog AV:=match zrow P e,(P.info? e).bind (·.zero) with
 |some z,some (.agg _)=>if zok P e∧z.length=P.cellsOf e∧isAggB P e then .ret (.agg z) else .fail
 |some [c],some zv=>if zok P e∧1=P.cellsOf e∧isAggB P e=false∧zv.oneCell' then .ret c else .fail
 |_,_=> .fail
def lookupP (P:Program)(t:TypeId)(x:AV)(ok:Bool)(i:AV):Prog AV:=
 match keyA i with
 |some key=>match mapT P t with
  |some (kt,e)=>if keyOk P kt key then(mapRows P x).bind fun(ag,ks,rows)=>match findK key ks 0 with
   |some (some i)=>match rows[i]? with
    |some r=>if ag=isAggB P e then(oneV ag r).bind fun v=> .ret (if ok then .tup [v,.sc (.bool true)] else v) else .fail
    |none=> .fail
   |some none=>(zeroV P e).bind fun v=> .ret (if ok then .tup [v,.sc (.bool false)] else v)
   |none=> .fail
   else .fail
  |none=> .fail
 |none=> .fail
def insertP (P:Program)(t:TypeId)(x key v:AV):Prog AV:=
 match mapT P t,keyA key with
 |some (kt,e),some kv=>if keyOk P kt kv∧(cellsA v).length=P.cellsOf e∧aggA v=isAggB P e then
   (toDatL P true (tcs P e) (cellsA v)).bind fun r=>match x with
    | .mp x g=> .get x fun
     | .map g' ag ks rows f=>if g'=g∧f=false∧(ks=[]∨ag=isAggB P e) then(match findK kv ks 0 with
      |some (some i)=> .put x (.map g (isAggB P e) ks (rows.set i r) false) (.ret .any)
      |some none=> .put x (.map g (isAggB P e) (ks++[kv]) (rows++[r]) false) (.ret .any)
      |none=> .fail) else .fail
     |_=> .fail
    |_=> .fail
   else .fail
 |_,_=> .fail
def fillA (place:Nat→Option (Nat×Nat))(cells:List AV):List (Nat×AV)→Option (List AV)
 |[]=>some cells
 |(i,v)::rest=>match place i with
  |none=>none
  |some (off,size)=>if (cellsA v).length=size∧off+(cellsA v).length≤cells.length then fillA place (splice cells off (cellsA v)) rest else none
def buildP (P:Program)(t:TypeId)(parts:List (Nat×AV)):Prog AV:=
 if bldOk P t then
  match fillA (match arrOf P t with
    |some (_,e)=>fun i=>some (i*P.cellsOf e,P.cellsOf e)
    |none=>fun i=>((flds P t)[i]?).map fun f=>(f.1,f.2.1)) (((zeros P t).getD []).map .sc) parts with
  |some cs=> .ret (.agg cs)
  |none=> .fail
 else .fail
def rowsOfParts (P:Program)(e:TypeId):List (Nat×AV)→List (List AV)→Prog (List (List AV))
 |[],rows=> .ret rows
 |(i,v)::rest,rows=>if (cellsA v).length=P.cellsOf e∧i<rows.length then(toDatL P true (tcs P e) (cellsA v)).bind fun r=>rowsOfParts P e rest (rows.set i r) else .fail
def buildSliceP (P:Program)(y:Nm)(t:TypeId)(len:Nat)(parts:List (Nat×AV)):Prog AV:=
 match slel P t with
 |some e=>match zrow P e with
  |some z=>if z.length=P.cellsOf e∧zok P e∧len*P.cellsOf e≤16777216∧len≤maxLen then
    (rowsOfParts P e parts (List.replicate len z)).bind fun rows=>newArr y (P.cellsOf e) e rows else .fail
  |none=> .fail
 |none=> .fail
def boxSliceP (P:Program)(k i:Nat)(t:TypeId)(len:Nat)(parts:List (Nat×AV)):Prog AV:=
 match slel P t with
 |some e=>match zeros P e with
  |some z=>if zok P e∧z.all (·.oneCell')∧len*P.cellsOf e≤16777216∧len≤maxLen then
    match fillA (fun j=>some (j*P.cellsOf e,P.cellsOf e)) (List.replicate len (z.map AV.sc)).flatten parts with
    |some cs=>(settleL P k i 0 (List.replicate len (tcs P e)).flatten cs).bind fun cs'=> .get ⟨k,i,0⟩ fun o=> .put ⟨k,i,0⟩ (.box (o.gen+1) cs' false) (.ret (.bsl ⟨k,i,0⟩ (o.gen+1) (P.cellsOf e) 0 len))
    |none=> .fail
   else .fail
  |none=> .fail
 |none=> .fail
def partA (P:Program)(t:TypeId)(cs:List AV)(off:Nat):Prog AV:=
 if !tOk P t then .fail
 else if isAggB P t then(if off+P.cellsOf t≤cs.length then .ret (.agg ((cs.drop off).take (P.cellsOf t))) else .fail)
 else match cs[off]? with|some v=> .ret v|none=> .fail
def fieldVP (P:Program)(t:TypeId)(x:AV)(f:Nat):Prog AV:=
 match (flds P t)[f]?,x with
 |some (off,_,ft),.agg cs=>partA P ft cs off
 |_,_=> .fail
def indexVP (P:Program)(t:TypeId)(x:AV):AV→Prog AV
 | .sc (.int _ i)=>if 0≤i then
   match x with
   | .agg cs=>match arrOf P t with
    |some (len,e)=>if i.toNat<len∧tOk P e then partA P e cs (i.toNat*P.cellsOf e) else .fail
    |none=> .fail
   | .sc (.string s)=>if strB P t then(match s.data[i.toNat]? with
    |some b=> .ret (.sc (.int .u8 b.toNat))
    |none=> .fail) else .fail
   |_=> .fail
  else .fail
 |_=> .fail
def bytesOfRows :List (List AV)→Option (List UInt8)
 |[]=>some []
 |[.sc (.int .u8 n)]::rs=>(bytesOfRows rs).map (UInt8.ofNat n.toNat:: ·)
 |_=>none
def convertP (P:Program)(y:Nm)(src dst:TypeId)(x:AV):Prog AV:=
 match x with
 | .sc (.int _ n)=>match intK P dst with
  |some k=>if (P.underlying src).isSome then .ret (.sc (.int k (k.wrap n))) else .fail
  |none=> .fail
 | .sc (.string s)=>if strB P src then(if strB P dst then .ret (.sc (.string s)) else match slel P dst with
  |some e=>if intK P e=some .u8∧P.cellsOf e=1∧s.size≤maxLen then newArr y 1 e (s.data.toList.map fun b=>[.sc (.int .u8 b.toNat)]) else .fail
  |none=> .fail) else .fail
 |x=>match slel P src with
  |some e=>if strB P dst∧intK P e=some .u8 then(rowsP x).bind fun(sz,rows)=>match bytesOfRows rows with
    |some l=>if sz=1∨rows=[] then .ret (.sc (.string ⟨⟨l⟩⟩)) else .fail
    |none=> .fail
   else .fail
  |none=> .fail
/-! ### calls -/
def argsP (P:Program)(fz:Bool):List TypeId→List AV→Prog (List AV)
 |[],[]=> .ret []
 |t::ts,v::vs=>
  if (cellsA v).length=P.cellsOf t∧aggA v=isAggB P t then
   (chk v).bind fun _=>(toDatL P fz (tcs P t) (cellsA v)).bind fun cs=>(argsP P fz ts vs).bind fun r=>
    (oneV (isAggB P t) cs).bind fun a=> .ret (a::r)
  else .fail
 |[],v::vs=>(capD fz v).bind fun a=>(argsP P fz [] vs).bind fun r=> .ret (a::r)
 |_::_,[]=> .fail
def handCell (P:Program)(ct:TypeId):AV→Prog AV
 | .sc (.slice none 0 0)=>match slel P ct with
  |some e=> .ret (.vec (P.cellsOf e) [])
  |none=> .fail
 | .sc v=>if v.oneCell' then .ret (.sc v) else .fail
 | .sl _ sz rows=> .ret (.sl false sz rows)
 | .dp c o=> .ret (.dp c o)
 | .own x g n=> .get x fun
  | .arr g' sz e rows f=>if g'=g then(if f=false∧n=rows.length∧slel P ct=some e then .put x (.no (g+1)) (.ret (.vec sz rows)) else .put x (.arr g sz e rows true) (.ret (.sl false sz (rows.take n)))) else .fail
  |_=> .fail
 | .fn f caps=>(capDL true caps).bind fun cs=> .ret (.fn f cs)
 | .dmp ag ks rows=> .ret (.dmp ag ks rows)
 | .mp x g=> .get x fun
  | .map g' ag ks rows _=>if g'=g then .put x (.map g ag ks rows true) (.ret (.dmp ag ks rows)) else .fail
  |_=> .fail
 | .bsl x g sz off n=>toDat P true ct (.bsl x g sz off n)
 |_=> .fail
def handL (P:Program):List TypeId→List AV→Prog (List AV)
 |_,[]=> .ret []
 |[],_::_=> .fail
 |t::ts,v::vs=>(handCell P t v).bind fun v'=>(handL P ts vs).bind fun vs'=> .ret (v'::vs')
def hand (P:Program)(t:TypeId)(v:AV):Prog AV:=
 if (cellsA v).length=P.cellsOf t∧aggA v=isAggB P t then(chk v).bind fun _=>(handL P (tcs P t) (cellsA v)).bind fun cs=>oneV (isAggB P t) cs
 else .fail
def resultP (P:Program)(fr:Nat→AV)(t:TypeId):ResultVar→Prog AV
 | .tmp s=>hand P t (fr s)
 | .cell a t'=>if t'=t then(loadP P t (fr a)).bind (hand P t) else .fail
def resultsP (P:Program)(fr:Nat→AV):List TypeId→List ResultVar→Prog (List AV)
 |[],[]=> .ret []
 |t::ts,r::rs=>(resultP P fr t r).bind fun v=>(resultsP P fr ts rs).bind fun vs=> .ret (v::vs)
 |_,_=> .fail
def takeCell (P:Program)(ct:TypeId)(y:Nm):AV→Prog AV
 | .vec sz rows=>match slel P ct with
  |some e=> .get y fun o=> .put y (.arr (o.gen+1) sz e rows false) (.ret (.own y (o.gen+1) rows.length))
  |none=> .fail
 | .sc v=> .ret (.sc v)
 | .sl f sz rows=> .ret (.sl f sz rows)
 | .dp c o=> .ret (.dp c o)
 | .fn f caps=> .ret (.fn f caps)
 | .dmp ag ks rows=> .ret (.dmp ag ks rows)
 |_=> .fail
def takeL (P:Program)(k d:Nat):Nat→List TypeId→List AV→Prog (List AV)
 |_,_,[]=> .ret []
 |_,[],_::_=> .fail
 |c,t::ts,v::vs=>(takeCell P t ⟨k,d,c⟩ v).bind fun v'=>(takeL P k d (c+1) ts vs).bind fun vs'=> .ret (v'::vs')
def takeOne (P:Program)(k d c:Nat)(t:TypeId)(v:AV):Prog AV:=
 if (cellsA v).length=P.cellsOf t then
  if isAggB P t then(match v with
   | .agg vs=>(takeL P k d (c+1) (tcs P t) vs).bind fun cs=> .ret (.agg cs)
   |_=> .fail) else takeCell P t ⟨k,d,c⟩ v
 else .fail
def takeAll (P:Program)(k d:Nat):Nat→List TypeId→List AV→Prog (List AV)
 |_,[],[]=> .ret []
 |c,t::ts,v::vs=>(takeOne P k d c t v).bind fun v'=>(takeAll P k d (c+1000) ts vs).bind fun vs'=> .ret (v'::vs')
 |_,_,_=> .fail
def takeRes (P:Program)(k d:Nat):List TypeId→List AV→Prog AV
 |[t],[v]=>takeOne P k d 0 t v
 |ts,vs=>(takeAll P k d 1000 ts vs).bind fun r=> .ret (.tup r)
/-! ### functions -/
def okFn (P:Program)(f:Nat):Bool:=match P.funcs[f]? with
 |some fn=>fn.body.isSome&& !(fn.name== "runtime.NumGoroutine")
 |none=>false
def ptys (P:Program)(f:Nat):List TypeId:=match P.funcs[f]? with|some fn=>fn.params.toList|none=>[]
def rtys (P:Program)(f:Nat):List TypeId:=match P.funcs[f]? with|some fn=>fn.resultTypes.toList|none=>[]
def flatF (P:Program)(f:Nat):Bool:=(rtys P f).all (flatT P)
def opA (fr:Nat→AV):Operand→AV
 | .tmp t=>fr t
 | .const (.agg us)=> .agg (us.toList.map .sc)
 | .const v=> .sc v
 | .func f=>if f<1000000 then .fn f [] else .any
 | .global g=>match globT g with
  |some vs=> .dp (vs.map .sc) 0
  |none=> .any
structure Orc where
 dat:Nat→List AV→Option (List AV)
 hpc:Nat→Nat→Nat→List AV→Hp→Option (AV×Hp)
structure Cfg where
 eq:TypeId→Bool
 hp:Nat→Bool
 yl:Nat→Bool
 inl:Nat→Bool:=fun _=>false
 frz:Nat→Bool:=fun _=>false
 off:Nat:=0
 ws:Nat:=0
 bx:TypeId→Bool:=fun _=>false
 cl:Bool:=false
def Cfg.dry (E:Cfg):Cfg:={E with yl:=fun _=>false}
def Cfg.at (E:Cfg)(o:Nat):Cfg:={E with off:=o}
def callP (P:Program)(E:Cfg)(k d:Nat)(call:Orc)(f:Nat)(args:List AV):Prog AV:=
 if okFn P f then
  if E.hp f then .ext (call.hpc k d f args) .ret else
  (argsP P (!flatF P f) (ptys P f) args).bind fun as=>match call.dat f as with
   |some rs=>if !flatF P f||rs.all allSc then takeRes P k d (rtys P f) rs else .fail
   |none=> .fail
 else .fail
def assignP (P:Program)(y:Nm)(t:TypeId):AV→Prog AV
 | .sc (.slice none 0 0)=>match slel P t with
  |some e=>newArr y (P.cellsOf e) e []
  |none=> .fail
 |v=> .ret v
def notIface (P:Program)(t:TypeId):Bool:=match P.underlying t with|some (.interface _)=>false|some _=>true|none=>false
def fnN (f:Nat):Nat:=if f<1000000 then f else f - 1000000
def fnA (f:Nat)(as cs:List AV):List AV:=if f<1000000 then as++cs else cs++as
def scalars :List AV→Option (List Value)
 |[]=>some []
 | .sc v::cs=>(scalars cs).map (v:: ·)
 | .fn f []::cs=>(scalars cs).map (mkFn f []:: ·)
 |_=>none
def evOp (P:Program)(E:Cfg)(k:Nat)(call:Orc)(fr:Nat→AV)(o:Oper):Prog AV:=
 match o.op with
 | .move x=> .ret (opA fr x)
 | .assign x=>assignP P ⟨k,E.off+o.dst.getD 0,0⟩ o.type (opA fr x)
 | .pick c a b=>match opA fr c with
  | .sc (.bool t)=> .ret (if t then opA fr a else opA fr b)
  |_=> .fail
 | .alloc t=>match zeros P t with
  |some z=>newBox P k (E.off+o.dst.getD 0) t (z.map .sc)
  |none=> .fail
 | .box t x=>(chk (opA fr x)).bind fun _=>newBox P k (E.off+o.dst.getD 0) t (cellsA (opA fr x))
 | .build t parts=>(chkL (parts.toList.map fun p=>opA fr p.2)).bind fun _=>buildP P t (parts.toList.map fun p=>(p.1,opA fr p.2))
 | .buildSlice t len parts=>(chkL (parts.toList.map fun p=>opA fr p.2)).bind fun _=>if (E.bx t||parts.toList.any fun p=>(cellsA (opA fr p.2)).any liveA) then boxSliceP P k (E.off+o.dst.getD 0) t len (parts.toList.map fun p=>(p.1,opA fr p.2)) else buildSliceP P ⟨k,E.off+o.dst.getD 0,0⟩ t len (parts.toList.map fun p=>(p.1,opA fr p.2))
 | .load t a=>loadP P t (opA fr a)
 | .store t a v=>if (P.info? t).isSome then(chk (opA fr v)).bind fun _=>storeP P t (opA fr a) (opA fr v) else .fail
 | .nilCheck x=>shiftA 0 (opA fr x)
 | .binOp op t x y _=>match evBin P E.eq op t (opA fr x) (opA fr y) with
  |some v=> .ret v
  |none=> .fail
 | .unOp op _ x=>match evUn op (opA fr x) with
  |some v=> .ret v
  |none=> .fail
 | .convert s d x=>convertP P ⟨k,E.off+o.dst.getD 0,0⟩ s d (opA fr x)
 | .makeMap t none=>if (mapT P t).isSome then .get ⟨k,E.off+o.dst.getD 0,0⟩ fun b=> .put ⟨k,E.off+o.dst.getD 0,0⟩ (.map (b.gen+1) false [] [] false) (.ret (.mp ⟨k,E.off+o.dst.getD 0,0⟩ (b.gen+1))) else .fail
 | .lookup t x i ok=>lookupP P t (opA fr x) ok (opA fr i)
 | .mapUpdate t x key v=>(chk (opA fr v)).bind fun _=>insertP P t (opA fr x) (opA fr key) (opA fr v)
 | .insert t x key v=>(chk (opA fr v)).bind fun _=>insertP P t (opA fr x) (opA fr key) (opA fr v)
 | .makeSlice t l c=>if E.bx t then makeBP P ⟨k,E.off+o.dst.getD 0,0⟩ t (opA fr l) (opA fr c) else makeP P ⟨k,E.off+o.dst.getD 0,0⟩ t (opA fr l) (opA fr c)
 | .slice t x lo hi mx=>sliceP P t (opA fr x) (lo.map (opA fr)) (hi.map (opA fr)) (mx.map (opA fr))
 | .fieldAddr s x f=>fieldP P s (opA fr x) f
 | .field t x f=>fieldVP P t (opA fr x) f
 | .indexAddr t x i=>indexP P t (opA fr x) (opA fr i)
 | .index t x i=>indexVP P t (opA fr x) (opA fr i)
 | .extract t i=>match opA fr t with
  | .tup vs=>match vs[i]? with
   |some v=> .ret v
   |none=> .fail
  |_=> .fail
 | .makeInterface t x=>if notIface P t then match opA fr x with
  | .sc v=> .ret (.sc (.iface t v))
  | .agg cs=>match scalars cs with
   |some us=> .ret (.sc (.iface t (.agg ⟨us⟩)))
   |none=> .fail
  |_=> .fail
  else .fail
 | .makeFunc (.func f) first caps=>if f<1000000 then(if first.isEmpty then .ret (.fn f (caps.toList.map (opA fr))) else if caps.isEmpty then .ret (.fn (f+1000000) (first.toList.map (opA fr))) else .fail) else .fail
 | .call c=>match c.callee,c.args.toList,c.argTypes.toList with
  | .builtin .len,[x],[t]=>lenP P t (opA fr x)
  | .builtin .append,[s,x],[t,t']=>if E.bx t then appendBP P ⟨k,E.off+o.dst.getD 0,0⟩ t t' (opA fr s) (opA fr x) else appendP P ⟨k,E.off+o.dst.getD 0,0⟩ t t' (opA fr s) (opA fr x)
  | .builtin .copy,[d,x],[t,_]=>copyP P t (opA fr d) (opA fr x)
  | .builtin .min,[x,y],_=>match opA fr x,opA fr y with
   | .sc (.int k a),.sc (.int _ b)=> .ret (.sc (.int k (min a b)))
   |_,_=> .fail
  | .builtin .max,[x,y],_=>match opA fr x,opA fr y with
   | .sc (.int k a),.sc (.int _ b)=> .ret (.sc (.int k (max a b)))
   |_,_=> .fail
  | .value x,args,_=>match opA fr x with
   | .fn f cs=>callP P E k (E.off+o.dst.getD 0) call (fnN f) (fnA f (args.map (opA fr)) cs)
   | .sc (.func (.yield l) a b)=>if E.yl l=true∧args.length=1∧a.size=0∧b.size=0 then .ret (.sc (.bool true)) else .fail
   |_=> .fail
  |_,_,_=> .fail
 |_=> .fail
/-! ### regions and code -/
structure AS where
 fr:Nat→AV
 hp:Hp
def setd (fr:Nat→AV)(d:Option Nat)(v:AV):Nat→AV:=match d with
 |some d=>fun i=>if i=d then v else fr i
 |none=>fr
def guardA (all:Array Oper)(fr:Nat→AV)(o:Oper):Option Bool:=match o.guard with
 |none=>some true
 |some (j,b)=>match (all[j]?).bind (·.dst) with
  |some d=>match fr d with
   | .sc (.bool c)=>some (c==b)
   | .sc (.tuple _)=>some false
   |_=>none
  |none=>none
def evOps (P:Program)(E:Cfg)(k:Nat)(call:Orc)(all:Array Oper):List Oper→AS→Option AS
 |[],st=>some st
 |o::os,st=>match guardA all st.fr o with
  |some true=>match (evOp P E k call st.fr o).run st.hp with
   |some (v,hp)=>evOps P E k call all os ⟨setd st.fr o.dst v,hp⟩
   |none=>none
  |some false=>evOps P E k call all os ⟨setd st.fr o.dst (.sc undef),st.hp⟩
  |none=>none
/-! A region that draws its order:what each operation reads and writes. -/
def eqS :Value→Value→Bool
 | .int k n,.int k' n'=>decide (k=k')&&decide (n=n')
 | .bool a,.bool b=>a==b
 | .string a,.string b=>decide (a=b)
 | .nilFunc,.nilFunc=>true
 | .nilIface,.nilIface=>true
 |_,_=>false
mutual
def eqA :AV→AV→Bool
 | .any,.any=>true
 | .sc v,.sc u=>eqS v u
 | .sl f s r,.sl f' s' r'=>f==f'&&s==s'&&eqAR r r'
 | .dp c o,.dp c' o'=>o==o'&&eqAL c c'
 | .own x g n,.own x' g' n'=>decide (x=x')&&g==g'&&n==n'
 | .ptr x g n,.ptr x' g' n'=>decide (x=x')&&g==g'&&n==n'
 | .eptr x g i n,.eptr x' g' i' n'=>decide (x=x')&&g==g'&&i==i'&&n==n'
 | .agg c,.agg c'=>eqAL c c'
 | .tup c,.tup c'=>eqAL c c'
 | .vec s r,.vec s' r'=>s==s'&&eqAR r r'
 | .fn f c,.fn f' c'=>f==f'&&eqAL c c'
 | .bsl x g s o n,.bsl x' g' s' o' n'=>decide (x=x')&&g==g'&&s==s'&&o==o'&&n==n'
 | .mp x g,.mp x' g'=>decide (x=x')&&g==g'
 |_,_=>false
def eqAL :List AV→List AV→Bool
 |[],[]=>true
 |a::l,b::m=>eqA a b&&eqAL l m
 |_,_=>false
def eqAR :List (List AV)→List (List AV)→Bool
 |[],[]=>true
 |a::l,b::m=>eqAL a b&&eqAR l m
 |_,_=>false
end
def eqO :AObj→AObj→Bool
 | .no g,.no g'=>g==g'
 | .box g c f,.box g' c' f'=>g==g'&&eqAL c c'&&f==f'
 | .arr g s e r f,.arr g' s' e' r' f'=>g==g'&&s==s'&&decide (e=e')&&eqAR r r'&&f==f'
 |_,_=>false
inductive Facet where
 |all (x:Nm)
 |hd (x:Nm)
 |cl (x:Nm) (off:Nat)
 |top
 |but (l:List Nm)
deriving DecidableEq
def Facet.nm :Facet→Nm
 | .top=>⟨0,0,0⟩
 | .but _=>⟨0,0,0⟩
 | .all x=>x
 | .hd x=>x
 | .cl x _=>x
def Facet.meets :Facet→Facet→Bool
 | .top,_=>true
 |_,.top=>true
 | .but _,.but _=>true
 | .but l,g=> !l.contains g.nm
 |f,.but l=> !l.contains f.nm
 | .all x,g=>x==g.nm
 |f,.all y=>f.nm==y
 | .hd x,.hd y=>x==y
 | .cl x o,.cl y q=>x==y&&o==q
 |_,_=>false
def Prog.runF {α:Type}:Prog α→Hp→List Facet→List Facet→Option (α×Hp×List Facet×List Facet)
 | .ret a,hp,R,W=>some (a,hp,R,W)
 | .get x k,hp,R,W=>(k (hp x)).runF hp (.all x::R) W
 | .put x o k,hp,R,W=>k.runF (upd hp x o) R (.all x::W)
 | .hdr x k,hp,R,W=>(k (hp x).head).runF hp (.hd x::R) W
 | .getC x off k,hp,R,W=>match cellOf (hp x) off with
  |some v=>(k v).runF hp (.cl x off:: .hd x::R) W
  |none=>none
 | .putC x off v k,hp,R,W=>match setCellOf (hp x) off v with
  |some o=>k.runF (upd hp x o) (.hd x::R) (.cl x off::W)
  |none=>none
 | .ext g k,hp,R,W=>match g hp with
  |some (v,hp')=>(k v).runF hp' (.top::R) (.top::W)
  |none=>none
 | .fail,_,_,_=>none
structure Foot where
 R:List Facet
 W:List Facet
def neV :AV→AV→Bool
 | .sc (.int _ n),.sc (.int _ m)=>n !=m
 | .own _ _ n,.own _ _ m=>n !=m
 |_,_=>false
def neL :List AV→List AV→Bool
 |a::l,b::m=>neV a b||neL l m
 |[],[]=>false
 |_,_=>true
def neO :AObj→AObj→Bool
 | .no g,.no h=>g !=h
 | .box g c _,.box h d _=>g !=h||neL c d
 | .arr g _ _ r _,.arr h _ _ q _=>g !=h||r.length !=q.length
 | .no _,.box .. =>true
 | .no _,.arr .. =>true
 |_,_=>false
open Classical in
noncomputable def eqP (a b:AObj):Bool:=if eqO a b then true else if neO a b then false else decide (a=b)
noncomputable def refW (E:Cfg)(k:Nat)(hp hp':Hp)(W:List Facet):List Facet:=
 if E.ws=0 then W else if W.contains .top then[.but ((((List.range E.ws).flatMap fun i=>(List.range 6).map fun c=>(⟨k,E.off+i,c⟩:Nm))).filter fun x=>if E.cl then eqP (hp x) (hp' x) else eqO (hp x) (hp' x))] else W
noncomputable def stepF (P:Program)(E:Cfg)(k:Nat)(call:Orc)(all:Array Oper)(o:Oper)(st:AS):Option (AS×Foot):=
 match guardA all st.fr o with
 |some true=>match (evOp P E k call st.fr o).runF st.hp [] [] with
  |some (v,hp,R,W)=>some (⟨setd st.fr o.dst v,hp⟩,⟨R,refW E k st.hp hp W⟩)
  |none=>none
 |some false=>some (⟨setd st.fr o.dst (.sc undef),st.hp⟩,⟨[],[]⟩)
 |none=>none
noncomputable def runDraw (P:Program)(E:Cfg)(k:Nat)(call:Orc)(all:Array Oper):List Oper→AS→List Foot→Option (AS×List Foot)
 |[],st,fs=>some (st,fs.reverse)
 |o::os,st,fs=>match stepF P E k call all o st with
  |some (st',f)=>runDraw P E k call all os st' (f::fs)
  |none=>none
def slotsOf (all:Array Oper)(o:Oper):List Nat:=
 (o.op.operands.toList.filterMap fun| .tmp t=>some t|_=>none)++
 (match o.guard with|some (j,_)=>((all[j]?).bind (·.dst)).toList|none=>[])
def wMask (r:List Nat)(es:List Edge):Nat:=es.foldl (fun m e=>if Region.binds .any e then m|||(1<<<e.on|||r.getD e.on 0) else m) 0
def waits :List Oper→List Nat→List Nat
 |[],acc=>acc.reverse
 |o::os,acc=>waits os (wMask acc.reverse o.after.toList::acc)
def apartF (f g:Foot):Bool:=f.W.all (fun x=>g.R.all (fun y=> !x.meets y)&&g.W.all (fun y=> !x.meets y))&&g.W.all (fun x=>f.R.all (fun y=> !x.meets y))
def apartS (all:Array Oper)(o p:Oper):Bool:=
 (match o.dst with|some d=> !((slotsOf all p).contains d)&&p.dst !=some d|none=>true)&&(match p.dst with|some d=> !((slotsOf all o).contains d)|none=>true)
def drawS (all:Array Oper):Bool:=
 let ws:=waits all.toList []
 ((List.range all.size).all fun j=>(all.getD j default).after.toList.all fun e=> !(Region.binds .any e)||decide (e.on<j))&&
 ((List.range all.size).all fun j=>(List.range j).all fun i=>((ws.getD j 0).testBit i)||apartS all (all.getD i default) (all.getD j default))
def drawF (all:Array Oper)(fs:List Foot):Bool:=
 let ws:=waits all.toList []
 (List.range all.size).all fun j=>(List.range j).all fun i=>((ws.getD j 0).testBit i)||apartF (fs.getD i ⟨[],[]⟩) (fs.getD j ⟨[],[]⟩)
def drySlots (ops:Array Oper):List Nat:=(ops.toList.filterMap fun o=>match o.op with| .load _ (.tmp s)=>some s|_=>none).filter fun s=>
 !(ops.toList.any fun o=>(match o.op with| .store _ (.tmp t) _=>t==s|_=>false)||o.dst==some s)
def dryOne (s:Nat)(st:AS):AS:=match st.fr s with
 | .ptr x g off=>match (capD true (.ptr x g off)).run st.hp with
  |some (v,hp')=>⟨fun i=>if i=s then v else st.fr i,hp'⟩
  |none=>st
 |_=>st
def dryAll :List Nat→AS→AS
 |[],st=>st
 |s::ss,st=>dryAll ss (dryOne s st)
noncomputable def evRegion (P:Program)(E:Cfg)(k:Nat)(call:Orc)(ops:Array Oper)(draw:Bool)(st:AS):Option AS:=
 if draw then
  match runDraw P E.dry k call ops ops.toList st [] with
  |some (st',fs)=>if drawS ops&&drawF ops fs then some st' else
   match runDraw P E.dry k call ops ops.toList (dryAll (drySlots ops) st) [] with
   |some (st',fs)=>if drawS ops&&drawF ops fs then some st' else none
   |none=>none
  |none=>none
 else evOps P E k call ops ops.toList st
inductive Ex where
 |normal
 |exit (id:Nat)
 |ret
 |panic (v:Value)
noncomputable def evC (P:Program)(E:Cfg)(k:Nat)(call:Orc):Nat→Code→AS→Option (Ex×AS)
 |0,_,_=>none
 |n+1,c,st=>match c with
  | .skip=>some (.normal,st)
  | .label _=>some (.normal,st)
  | .region _ ops d=>(evRegion P E k call ops d st).map fun s=>(.normal,s)
  | .seq a b=>match evC P E k call n a st with
   |some (.normal,s)=>evC P E k call n b s
   |r=>r
  | .cond c a b=>match opA st.fr c with
   | .sc (.bool t)=>if t then evC P E k call n a st else evC P E k call n b st
   |_=>none
  | .block id c=>match evC P E k call n c st with
   |some (.exit i,s)=>if i=id then some (.normal,s) else some (.exit i,s)
   |r=>r
  | .loop c=>match evC P E k call n c st with
   |some (.normal,s)=>evC P E k call n (.loop c) s
   |r=>r
  | .exit id=>some (.exit id,st)
  | .ret=>some (.ret,st)
  | .scope c=>evC P E k call n c st
  |_=>none
def slotsIn (N:Nat):Code→Bool
 | .region _ ops _=>ops.toList.all fun o=>(o.dst.toList.all (· <N))&&o.op.operands.toList.all fun| .tmp t=>decide (t<N)|_=>true
 | .seq a b=>slotsIn N a&&slotsIn N b
 | .cond c a b=>(match c with| .tmp t=>decide (t<N)|_=>true)&&slotsIn N a&&slotsIn N b
 | .block _ c=>slotsIn N c
 | .loop c=>slotsIn N c
 | .scope c=>slotsIn N c
 |_=>true
def resIn (N:Nat):ResultVar→Bool
 | .tmp t=>decide (t<N)
 | .cell t _=>decide (t<N)
def frame0 (args:List AV):Nat→AV:=fun i=>args.getD i (.sc undef)
def hp0 :Hp:=fun _=> .no 0
def bodyOk (fn:Func):Bool:=match fn.body with
 |some c=>slotsIn fn.ntmps c&&fn.results.toList.all (resIn fn.ntmps)&&decide (fn.params.size+fn.nfree≤fn.ntmps)
 |none=>false
noncomputable def evFn (P:Program)(E:Cfg)(call:Orc)(n:Nat)(fn:Func)(args:List AV):Option (List AV):=
 match fn.body with
 |some c=>if bodyOk fn&&args.length==fn.params.size+fn.nfree then match evC P E 0 call n c ⟨frame0 args,hp0⟩ with
   |some (.exit _,_)=>none
   |some (_,st)=>((resultsP P st.fr fn.resultTypes.toList fn.results.toList).run st.hp).map (·.1)
   |none=>none
  else none
 |none=>none
/-! A call on the caller's heap:what comes of it is lowered to names of the caller. -/
def moveB (x:Nm)(g:Nat)(y:Nm)(cs:List AV)(off:Nat):Prog AV:= .get x fun
 | .box g' _ fz=>if g'=g∧fz=false∧x≠y then .put x (.no (g+1)) (.get y fun o=> .put y (.box (o.gen+1) cs false) (.ret (.ptr y (o.gen+1) off))) else .fail
 |_=> .fail
def escL (f:Nat→AV→Prog AV):Nat→List AV→Prog (List AV)
 |_,[]=> .ret []
 |c,v::vs=>(f c v).bind fun v'=>(escL f (c+1) vs).bind fun vs'=> .ret (v'::vs')
def escC (P:Program)(k d:Nat):Nat→Bool→Nat→AV→Prog AV
 |_,_,_,.sc v=> .ret (.sc v)
 |_,_,_,.sl f sz rows=> .ret (.sl f sz rows)
 |_,_,_,.dp c o=> .ret (.dp c o)
 |_,_,_,.dmp ag ks rows=> .ret (.dmp ag ks rows)
 |_,_,_,.mp x g=>if x.d≤k then .ret (.mp x g) else .get x fun
  | .map g' ag ks rows _=>if g'=g then .put x (.map g ag ks rows true) (.ret (.dmp ag ks rows)) else .fail
  |_=> .fail
 |_,_,c,.own x g n=>if x.d≤k then .ret (.own x g n) else settle P ⟨k,d,c⟩ 0 (.own x g n)
 |_,_,_,.eptr x g i off=>if x.d≤k then .ret (.eptr x g i off) else .fail
 |0,_,_,.ptr x g off=>if x.d≤k then .ret (.ptr x g off) else .fail
 |n+1,cap,c,.ptr x g off=>if x.d≤k then .ret (.ptr x g off) else .get x fun
  | .box g' cells fz=>if g'=g then
    (if cap&&cells.all isDat then .put x (.box g cells true) (.ret (.dp cells off))
     else if fz=false then(escL (escC P k d n false) (c*100+1) cells).bind fun cs=>moveB x g ⟨k,d,c⟩ cs off else .fail) else .fail
  |_=> .fail
 |n+1,_,c,.fn f caps=>(escL (escC P k d n true) (c*100+1) caps).bind fun cs=> .ret (.fn f cs)
 |_,_,_,_=> .fail
def lowerC (P:Program)(k:Nat)(y:Nm)(v:AV):Prog AV:=escC P k y.i 6 false y.c v
def lowerL (P:Program)(k d:Nat):Nat→List AV→Prog (List AV)
 |_,[]=> .ret []
 |c,v::vs=>(lowerC P k ⟨k,d,c⟩ v).bind fun v'=>(lowerL P k d (c+1) vs).bind fun vs'=> .ret (v'::vs')
def lowerV (P:Program)(k d c:Nat):AV→Prog AV
 | .agg cs=>(lowerL P k d (c+1) cs).bind fun vs=> .ret (.agg vs)
 |v=>lowerC P k ⟨k,d,c⟩ v
def resultV (P:Program)(fr:Nat→AV):ResultVar→Prog AV
 | .tmp s=> .ret (fr s)
 | .cell a t=>loadP P t (fr a)
def lowerAll (P:Program)(fr:Nat→AV)(k d:Nat):Nat→List ResultVar→Prog (List AV)
 |_,[]=> .ret []
 |c,r::rs=>(resultV P fr r).bind fun v=>(lowerV P k d c v).bind fun v'=>(lowerAll P fr k d (c+1000) rs).bind fun vs=> .ret (v'::vs)
def lowerRes (P:Program)(fr:Nat→AV)(k d:Nat):List ResultVar→Prog AV
 |[r]=>(resultV P fr r).bind fun v=>lowerV P k d 0 v
 |rs=>(lowerAll P fr k d 1000 rs).bind fun vs=> .ret (.tup vs)
noncomputable def evFnH (P:Program)(E:Cfg)(call:Orc)(n:Nat)(fn:Func)(k d:Nat)(args:List AV)(hp:Hp):Option (AV×Hp):=
 match fn.body with
 |some c=>if bodyOk fn&&args.length==fn.params.size+fn.nfree then match evC P E (k+1) call n c ⟨frame0 args,hp⟩ with
   |some (.exit _,_)=>none
   |some (_,st)=>(lowerRes P st.fr k d fn.results.toList).run st.hp
   |none=>none
  else none
 |none=>none
def inlAll (P:Program)(fr:Nat→AV):List ResultVar→Prog (List AV)
 |[]=> .ret []
 |r::rs=>(resultV P fr r).bind fun v=>(inlAll P fr rs).bind fun vs=> .ret (v::vs)
def inlRes (P:Program)(fr:Nat→AV):List ResultVar→Prog AV
 |[r]=>resultV P fr r
 |rs=>(inlAll P fr rs).bind fun vs=> .ret (.tup vs)
noncomputable def evFnI (P:Program)(E:Cfg)(call:Orc)(n:Nat)(fn:Func)(k d:Nat)(args:List AV)(hp:Hp):Option (AV×Hp):=
 match fn.body with
 |some c=>if bodyOk fn&&args.length==fn.params.size+fn.nfree then match evC P (E.at ((d+1)*1000)) k call n c ⟨frame0 args,hp⟩ with
   |some (.exit _,_)=>none
   |some (_,st)=>(inlRes P st.fr fn.results.toList).run st.hp
   |none=>none
  else none
 |none=>none
def packV :List AV→AV
 |[v]=>v
 |vs=> .tup vs
def frzRes (P:Program)(fr:Nat→AV)(ts:List TypeId)(rvs:List ResultVar):Prog AV:=
 (inlAll P fr rvs).bind fun vs=>(argsP P true ts vs).bind fun as=> .ret (packV as)
noncomputable def evFnZ (P:Program)(E:Cfg)(call:Orc)(n:Nat)(fn:Func)(k:Nat)(args:List AV)(hp:Hp):Option (AV×Hp):=
 match fn.body with
 |some c=>if bodyOk fn&&args.length==fn.params.size+fn.nfree then match evC P E (k+1) call n c ⟨frame0 args,hp⟩ with
   |some (.exit _,_)=>none
   |some (_,st)=>(frzRes P st.fr fn.resultTypes.toList fn.results.toList).run st.hp
   |none=>none
  else none
 |none=>none
noncomputable def evCall (P:Program)(E:Cfg)(X:Orc):Nat→Orc
 |0=>X
 |n+1=>{
  dat:=fun f args=>match X.dat f args with
   |some rs=>some rs
   |none=>match P.funcs[f]? with
    |some fn=>evFn P E (evCall P E X n) n fn args
    |none=>none
  hpc:=fun k d f args hp=>match X.hpc k d f args hp with
   |some r=>some r
   |none=>match P.funcs[f]? with
    |some fn=>if E.inl f then evFnI P E (evCall P E X n) n fn k d args hp else if E.frz f then evFnZ P E (evCall P E X n) n fn k args hp else evFnH P E (evCall P E X n) n fn k d args hp
    |none=>none}
end Go.Ab
namespace Go.Ab
section
open Go
/-! ### lists,one by one -/
def AllR (R:AV→Value→Prop)(as:List AV)(us:List Value):Prop:=as.length=us.length∧ ∀(i:Nat) (a:AV) (u:Value),as[i]?=some a→us[i]?=some u→R a u
theorem AllR.nil {R:AV→Value→Prop}:AllR R [] []:=⟨rfl,fun i a u h=>by simp at h⟩
theorem AllR.cons {R:AV→Value→Prop}{a:AV}{u:Value}{as:List AV}{us:List Value}(h:R a u)(hs:AllR R as us):AllR R (a::as) (u::us):=by
 refine⟨by simp[hs.1],fun i b v hb hv=>?_⟩
 cases i with
 |zero=>simp at hb hv;subst hb;subst hv;exact h
 |succ i=>exact hs.2 i b v (by simpa using hb) (by simpa using hv)
theorem AllR.cons_inv {R:AV→Value→Prop}{a:AV}{as:List AV}{us:List Value}(h:AllR R (a::as) us): ∃v vs,us=v::vs∧R a v∧AllR R as vs:=by
 cases us with
 |nil=>have:=h.1;simp at this
 |cons v vs=>exact⟨v,vs,rfl,h.2 0 a v rfl rfl,by have:=h.1;simpa using this,fun i b u hb hu=>h.2 (i+1) b u (by simpa using hb) (by simpa using hu)⟩
theorem AllR.imp {R R':AV→Value→Prop}(hr: ∀a u,R a u→R' a u){as:List AV}{us:List Value}(h:AllR R as us):AllR R' as us:=⟨h.1,fun i a u ha hu=>hr _ _ (h.2 i a u ha hu)⟩
theorem AllR.get {R:AV→Value→Prop}{as:List AV}{us:List Value}(h:AllR R as us){i:Nat}{a:AV}(ha:as[i]?=some a): ∃u,us[i]?=some u∧R a u:=by
 have hi:i<us.length:=by rw[←h.1];exact(List.getElem?_eq_some_iff.1 ha).1
 exact⟨us[i],List.getElem?_eq_getElem hi,h.2 i a _ ha (List.getElem?_eq_getElem hi)⟩
theorem AllR.append {R:AV→Value→Prop}{as bs:List AV}{us vs:List Value}(h:AllR R as us)(h':AllR R bs vs):AllR R (as++bs) (us++vs):=by
 refine⟨by simp[h.1,h'.1],fun i a u ha hu=>?_⟩
 by_cases hi:i<as.length
 ·rw[List.getElem?_append_left hi] at ha
  rw[List.getElem?_append_left (by rw[←h.1];exact hi)] at hu
  exact h.2 i a u ha hu
 ·rw[List.getElem?_append_right (by omega)] at ha
  rw[List.getElem?_append_right (by rw[←h.1];omega)] at hu
  exact h'.2 _ a u ha (by rw[h.1];exact hu)
theorem AllR.take {R:AV→Value→Prop}{as:List AV}{us:List Value}(h:AllR R as us)(n:Nat):AllR R (as.take n) (us.take n):=by
 refine⟨by simp[h.1],fun i a u ha hu=>?_⟩
 rw[List.getElem?_take] at ha hu
 split at ha
 ·rename_i hi;rw[if_pos hi] at hu;exact h.2 i a u ha hu
 ·cases ha
theorem AllR.drop {R:AV→Value→Prop}{as:List AV}{us:List Value}(h:AllR R as us)(n:Nat):AllR R (as.drop n) (us.drop n):=by
 refine⟨by simp[h.1],fun i a u ha hu=>?_⟩
 rw[List.getElem?_drop] at ha hu
 exact h.2 _ a u ha hu
theorem AllR.splice {R:AV→Value→Prop}{as vs:List AV}{us ws:List Value}(h:AllR R as us)(h':AllR R vs ws)(off:Nat)(hl:off+vs.length≤as.length):
  AllR R (splice as off vs) (us.take off++ws++us.drop (off+ws.length)):=by
 unfold Go.Ab.splice
 split
 ·rename_i e
  have e0:off=0:=by omega
  subst e0
  have hd:us.drop (0+ws.length)=[]:=by rw[List.drop_eq_nil_iff];rw[←h'.1,←h.1];omega
  rw[hd,List.take_zero,List.nil_append,List.append_nil]
  exact h'
 ·rw[←h'.1]
  exact((h.take off).append h').append (h.drop _)
theorem RepDL_iff {I:Nat→Prop}{w:World}: ∀(as:List AV) (us:List Value),RepDL I w as us↔AllR (RepD I w) as us
 |[],us=>by
  simp only[RepDL]
  exact⟨fun h=>by subst h;exact .nil,fun h=>List.eq_nil_of_length_eq_zero (by rw[←h.1];rfl)⟩
 |a::as,us=>by
  simp only[RepDL]
  constructor
  ·rintro⟨v,vs,rfl,h1,h2⟩
   exact .cons h1 ((RepDL_iff as vs).1 h2)
  ·intro h
   obtain⟨v,vs,rfl,h1,h2⟩:=h.cons_inv
   exact⟨v,vs,rfl,h1,(RepDL_iff as vs).2 h2⟩
theorem RepL_iff {D:Nat}{I:Nat→Prop}{m:Mp}{hp:Hp}{w:World}: ∀(as:List AV) (us:List Value),RepL D I m hp w as us↔AllR (Rep D I m hp w) as us
 |[],us=>by
  simp only[RepL]
  exact⟨fun h=>by subst h;exact .nil,fun h=>List.eq_nil_of_length_eq_zero (by rw[←h.1];rfl)⟩
 |a::as,us=>by
  simp only[RepL]
  constructor
  ·rintro⟨v,vs,rfl,h1,h2⟩
   exact .cons h1 ((RepL_iff as vs).1 h2)
  ·intro h
   obtain⟨v,vs,rfl,h1,h2⟩:=h.cons_inv
   exact⟨v,vs,rfl,h1,(RepL_iff as vs).2 h2⟩
def Even (sz:Nat)(rows:List (List AV)):Prop:= ∀r∈rows,r.length=sz
theorem RepRows_iff {I:Nat→Prop}{w:World}{sz:Nat}: ∀(rows:List (List AV)) (us:List Value),RepRows I w sz rows us↔Even sz rows∧AllR (RepD I w) rows.flatten us
 |[],us=>by
  simp only[RepRows,List.flatten_nil]
  exact⟨fun h=>by subst h;exact⟨fun r h=>by simp at h,.nil⟩,fun h=>List.eq_nil_of_length_eq_zero (by rw[←h.2.1];rfl)⟩
 |r::rs,us=>by
  simp only[RepRows,List.flatten_cons]
  constructor
  ·rintro⟨u1,u2,rfl,hl,h1,h2⟩
   have h1':=(RepDL_iff r u1).1 h1
   obtain⟨h3,h4⟩:=(RepRows_iff rs u2).1 h2
   refine⟨fun x hx=>?_,h1'.append h4⟩
   rcases List.mem_cons.1 hx with rfl|hx
   ·rw[h1'.1,hl]
   ·exact h3 x hx
  ·rintro⟨h1,h2⟩
   have hr:r.length=sz:=h1 r (by simp)
   have a1:=h2.take r.length
   have a2:=h2.drop r.length
   simp only[List.take_left',List.drop_left'] at a1 a2
   refine⟨us.take r.length,us.drop r.length,by simp,by rw[←a1.1];exact hr,(RepDL_iff _ _).2 a1,(RepRows_iff rs _).2 ⟨fun x hx=>h1 x (by simp[hx]),a2⟩⟩
theorem Even.length {sz:Nat}: ∀{rows:List (List AV)},Even sz rows→rows.flatten.length=rows.length*sz
 |[],_=>by simp
 |r::rs,h=>by
  have h1:r.length=sz:=h r (by simp)
  have h2:=Even.length (rows:=rs) (fun x hx=>h x (by simp[hx]))
  simp only[List.flatten_cons,List.length_append,List.length_cons,h1,h2,Nat.add_mul]
  omega
theorem Even.take {sz:Nat}{rows:List (List AV)}(h:Even sz rows)(n:Nat):Even sz (rows.take n):=fun r hr=>h r (List.mem_of_mem_take hr)
theorem Even.drop {sz:Nat}{rows:List (List AV)}(h:Even sz rows)(n:Nat):Even sz (rows.drop n):=fun r hr=>h r (List.mem_of_mem_drop hr)
theorem Even.append {sz:Nat}{a b:List (List AV)}(h:Even sz a)(h':Even sz b):Even sz (a++b):=fun r hr=>by
 rcases List.mem_append.1 hr with hr|hr
 ·exact h r hr
 ·exact h' r hr
theorem Even.flatten_take {sz:Nat}: ∀{rows:List (List AV)},Even sz rows→ ∀n,(rows.take n).flatten=rows.flatten.take (n*sz)
 |[],_,n=>by simp
 |r::rs,h,0=>by simp
 |r::rs,h,n+1=>by
  have h1:r.length=sz:=h r (by simp)
  have h2:=Even.flatten_take (rows:=rs) (fun x hx=>h x (by simp[hx])) n
  simp only[List.take_succ_cons,List.flatten_cons,h2]
  have e:(n+1)*sz=r.length+n*sz:=by rw[h1,Nat.add_mul];omega
  rw[e,List.take_length_add_append]
theorem Even.flatten_drop {sz:Nat}: ∀{rows:List (List AV)},Even sz rows→ ∀n,(rows.drop n).flatten=rows.flatten.drop (n*sz)
 |[],_,n=>by simp
 |r::rs,h,0=>by simp
 |r::rs,h,n+1=>by
  have h1:r.length=sz:=h r (by simp)
  have h2:=Even.flatten_drop (rows:=rs) (fun x hx=>h x (by simp[hx])) n
  simp only[List.drop_succ_cons,List.flatten_cons,h2]
  have e:(n+1)*sz=r.length+n*sz:=by rw[h1,Nat.add_mul];omega
  rw[e,List.drop_length_add_append]
theorem Even.row {sz:Nat}{rows:List (List AV)}(h:Even sz rows){i:Nat}{r:List AV}(hr:rows[i]?=some r):(rows.flatten.drop (i*sz)).take sz=r:=by
 rw[←h.flatten_drop]
 have hi:i<rows.length:=(List.getElem?_eq_some_iff.1 hr).1
 rw[List.drop_eq_getElem_cons hi]
 have e:rows[i]=r:=(List.getElem?_eq_some_iff.1 hr).2
 simp only[List.flatten_cons,e]
 exact List.take_left' (h r (by rw[←e];exact List.getElem_mem hi))
theorem flatten_set {sz:Nat}{rows:List (List AV)}(h:Even sz rows){i:Nat}{r':List AV}(hi:i<rows.length):
  (rows.set i r').flatten=rows.flatten.take (i*sz)++r'++rows.flatten.drop (i*sz+sz):=by
 rw[List.set_eq_take_append_cons_drop,if_pos hi]
 simp only[List.flatten_append,List.flatten_cons]
 rw[h.flatten_take,h.flatten_drop,Nat.add_mul,Nat.one_mul,List.append_assoc]
theorem Even.set {sz:Nat}{rows:List (List AV)}(h:Even sz rows){i:Nat}{r':List AV}(hr:r'.length=sz):Even sz (rows.set i r'):=fun r hx=>by
 rcases List.mem_or_eq_of_mem_set hx with hx|hx
 ·exact h r hx
 ·rw[hx];exact hr
theorem RepD.one {I:Nat→Prop}{w:World}{a:AV}{u:Value}(h:RepD I w a u):u.oneCell'=true:=by
 cases a<;>simp only[RepD] at h
 case sc=>rw[h.1];exact h.2
 case sl=>obtain⟨A,cap,rfl,_⟩:=h;rfl
 case dp=>obtain⟨b,o,us,rfl,_⟩:=h;rfl
 case fn=>obtain⟨us,rfl,_⟩:=h;rfl
 case dmp=>obtain⟨b,es,clock,rfl,_⟩:=h;rfl
theorem AllR.one {I:Nat→Prop}{w:World}{as:List AV}{us:List Value}(h:AllR (RepD I w) as us): ∀u∈us,u.oneCell'=true:=by
 intro u hu
 obtain⟨i,hi,rfl⟩:=List.getElem_of_mem hu
 have hi':i<as.length:=by rw[h.1];exact hi
 exact(h.2 i as[i] us[i] (List.getElem?_eq_getElem hi') (List.getElem?_eq_getElem hi)).one
mutual
theorem RepD.rep' {D:Nat} {I:Nat→Prop} {m:Mp} {hp:Hp} {w:World}: ∀(a:AV) (u:Value),RepD I w a u→Rep D I m hp w a u
 | .any,_,h=>by simp[RepD] at h
 | .sc v,u,h=>by simp only[RepD] at h;simp only[Rep];exact h.1
 | .sl ..,u,h=>by simp only[Rep];exact h
 | .dp ..,u,h=>by simp only[Rep];exact h
 | .own ..,_,h=>by simp[RepD] at h
 | .ptr ..,_,h=>by simp[RepD] at h
 | .eptr ..,_,h=>by simp[RepD] at h
 | .agg ..,_,h=>by simp[RepD] at h
 | .tup ..,_,h=>by simp[RepD] at h
 | .vec ..,_,h=>by simp[RepD] at h
 | .bsl ..,_,h=>by simp[RepD] at h
 | .mp ..,_,h=>by simp[RepD] at h
 | .dmp ..,u,h=>by simp only[Rep];exact h
 | .fn f caps,u,h=>by
  simp only[RepD] at h
  simp only[Rep]
  obtain⟨us,hu,h⟩:=h
  exact⟨us,hu,RepDL.rep' caps us h⟩
theorem RepDL.rep' {D:Nat} {I:Nat→Prop} {m:Mp} {hp:Hp} {w:World}: ∀(as:List AV) (us:List Value),RepDL I w as us→RepL D I m hp w as us
 |[],us,h=>by simpa[RepDL,RepL] using h
 |a::as,us,h=>by
  simp only[RepDL] at h
  simp only[RepL]
  obtain⟨v,vs,hu,h1,h2⟩:=h
  exact⟨v,vs,hu,RepD.rep' a v h1,RepDL.rep' as vs h2⟩
end
theorem RepD.rep {D:Nat}{I:Nat→Prop}{m:Mp}{hp:Hp}{w:World}{a:AV}{u:Value}(h:RepD I w a u):Rep D I m hp w a u:=RepD.rep' a u h
/-! ### going on -/
section
variable {I K I' I'':Nat→Prop}{m m' m'':Mp}{hp hp' hp'':Hp}{w w' w'':World}
theorem Ext.refl (I K:Nat→Prop)(m:Mp)(hp:Hp)(w:World):Ext I K m hp w I m hp w where
 isub:=fun _ h=>h
 keep:=fun _ _=>rfl
 size:=Nat.le_refl _
 os:=rfl
 tape:=rfl
 output:=rfl
 gmono:=fun _=>Nat.le_refl _
 stable:=fun x _=>by
  cases h:hp x with
  |no g=>exact⟨g,rfl⟩
  |box g c f=>exact⟨rfl,g,c,f,rfl⟩
  |arr g sz e rows f=>exact⟨rfl,g,rows,f,rfl,Nat.le_refl _⟩
  |map g ag ks rows f=>exact⟨rfl,g,ag,ks,rows,f,rfl⟩
theorem Ext.trans (E:Ext I K m hp w I' m' hp' w')(F:Ext I' K m' hp' w' I'' m'' hp'' w''):Ext I K m hp w I'' m'' hp'' w'' where
 isub:=fun b h=>F.isub b (E.isub b h)
 keep:=fun b h=>(F.keep b (h.imp (E.isub b) id)).trans (E.keep b h)
 size:=Nat.le_trans E.size F.size
 os:=F.os.trans E.os
 tape:=F.tape.trans E.tape
 output:=F.output.trans E.output
 gmono:=fun x=>Nat.le_trans (E.gmono x) (F.gmono x)
 stable:=fun x hx=>by
  have h1:(hp' x).gen=(hp x).gen:=by have:=E.gmono x;have:=F.gmono x;omega
  have h2:(hp'' x).gen=(hp' x).gen:=by omega
  have s1:=E.stable x h1
  have s2:=F.stable x h2
  cases h:hp x with
  |no g=>rw[h] at s1;obtain⟨g1,e1⟩:=s1;rw[e1] at s2;exact s2
  |box g c f=>
   rw[h] at s1;obtain⟨hm,g1,c1,f1,e1⟩:=s1
   rw[e1] at s2;obtain⟨hm2,g2,c2,f2,e2⟩:=s2
   exact⟨hm2.trans hm,g2,c2,f2,e2⟩
  |arr g sz e rows f=>
   rw[h] at s1;obtain⟨hm,g1,r1,f1,e1,l1⟩:=s1
   rw[e1] at s2;obtain⟨hm2,g2,r2,f2,e2,l2⟩:=s2
   exact⟨hm2.trans hm,g2,r2,f2,e2,Nat.le_trans l1 l2⟩
  |map g ag ks rows f=>
   rw[h] at s1;obtain⟨hm,g1,a1,k1,r1,f1,e1⟩:=s1
   rw[e1] at s2;obtain⟨hm2,g2,a2,k2,r2,f2,e2⟩:=s2
   exact⟨hm2.trans hm,g2,a2,k2,r2,f2,e2⟩
def AObj.fz :AObj→Bool
 | .no _=>true
 | .box _ _ f=>f
 | .arr _ _ _ _ f=>f
 | .map _ _ _ _ f=>f
theorem ObjOk.mono (E:Ext I K m hp w I' m' hp' w'){x:Nm}{o:AObj}(h:ObjOk I K m hp w x o)(hm:m' x=m x)
  (hb: ∀p,m x=some p→w'.heap[p.1]?=w.heap[p.1]?) (hI:o.fz=false→ ∀p,m x=some p→ ¬I p.1→ ¬I' p.1):ObjOk I' K m' hp' w' x o:=by
 cases o with
 |no g=>trivial
 |box g cells fz=>
  obtain⟨b,c,us,T,mk,h1,h2,h3,h4,h5,h6⟩:=h
  refine⟨b,c,us,T,mk,hm.trans h1,(hb _ h1).trans h2,h3,Rep.mono_L E _ h4,fun hf=>⟨E.isub b (h5 hf).1,RepDL.mono E.isub (fun b hb=>E.keep b (.inl hb)) _ _ (h5 hf).2⟩,fun hf=>⟨hI hf _ h1 (h6 hf).1,(h6 hf).2⟩⟩
 |arr g sz e rows fz=>
  rcases h with⟨h1,h2⟩|⟨b,cap,us,mk,h1,h2,h3,h4,h5,h6,h7,h8,h9⟩
  ·exact .inl ⟨hm.trans h1,h2⟩
  ·exact .inr ⟨b,cap,us,mk,hm.trans h1,(hb _ h1).trans h2,h3,h4,h5,h6,RepRows.mono E.isub (fun b hb=>E.keep b (.inl hb)) _ _ _ h7,fun hf=>E.isub b (h8 hf),fun hf=>⟨hI hf _ h1 (h9 hf).1,(h9 hf).2⟩⟩
 |map g ag ks rows fz=>
  obtain⟨b,c,es,clock,h1,h2,h3,h4,h5,h6⟩:=h
  exact⟨b,c,es,clock,hm.trans h1,(hb _ h1).trans h2,h3,RepMs.mono E.isub (fun b hb=>E.keep b (.inl hb)) _ _ _ h4,fun hf=>E.isub b (h5 hf),fun hf=>⟨hI hf _ h1 (h6 hf).1,(h6 hf).2⟩⟩
where
 Rep.mono_L {D:Nat} (E:Ext I K m hp w I' m' hp' w') (cells:List AV) {us:List Value} (h:RepL D I m hp w cells us):RepL D I' m' hp' w' cells us:=RepL.mono E D cells us h
theorem Gam.step (G:Gam I K m hp w)(E:Ext I K m hp w I' m' hp' w')(X:Nm→Prop)(hX: ∀y,¬X y→hp' y=hp y∧m' y=m y)
  (hobj: ∀y,X y→ObjOk I' K m' hp' w' y (hp' y))
  (hblk: ∀y,¬X y→(hp y).live=true→ ∀p,m y=some p→w'.heap[p.1]?=w.heap[p.1]?)
  (hI: ∀y,¬X y→(hp y).live=true→(hp y).fz=false→ ∀p,m y=some p→ ¬I p.1→ ¬I' p.1)
  (inj: ∀x y p q,(hp' x).live=true→(hp' y).live=true→m' x=some p→m' y=some q→p.1=q.1→x=y)
  (ilt: ∀b,I' b→b<w'.heap.size) (ik: ∀b,I' b→ ¬K b):Gam I' K m' hp' w' where
 obj:=fun y=>by
  by_cases hy:X y
  ·exact hobj y hy
  ·obtain⟨h1,h2⟩:=hX y hy
   rw[h1]
   cases hl:(hp y).live with
   |false=>cases ho:hp y with
    |no g=>trivial
    |box g c f=>rw[ho] at hl;simp[AObj.live] at hl
    |arr g sz e rows f=>rw[ho] at hl;simp[AObj.live] at hl
    |map g ag ks rows f=>rw[ho] at hl;simp[AObj.live] at hl
   |true=>exact(G.obj y).mono E h2 (hblk y hy hl) (fun hf p hp=>hI y hy hl hf p hp)
 inj:=inj
 ilt:=ilt
 klt:=fun b hb=>Nat.lt_of_lt_of_le (G.klt b hb) E.size
 ik:=ik
 gl:=G.gl.mono E.isub (fun b hb=>E.keep b (.inl hb))
theorem Gam.blk (G:Gam I K m hp w){x:Nm}(hl:(hp x).live=true){p:Nat×Nat}(hm:m x=some p):p.1<w.heap.size:=by
 have h:=G.obj x
 cases ho:hp x with
 |no g=>rw[ho] at hl;simp[AObj.live] at hl
 |box g c f=>
  rw[ho] at h
  obtain⟨b,c,us,T,mk,h1,h2,_⟩:=h
  rw[h1] at hm;cases hm
  exact(Array.getElem?_eq_some_iff.1 h2).1
 |arr g sz e rows f=>
  rw[ho] at h
  rcases h with⟨h1,_⟩|⟨b,cap,us,mk,h1,h2,_⟩
  ·rw[h1] at hm;cases hm
  ·rw[h1] at hm;cases hm
   exact(Array.getElem?_eq_some_iff.1 h2).1
 |map g ag ks rows f=>
  rw[ho] at h
  obtain⟨b,c,es,clock,h1,h2,_⟩:=h
  rw[h1] at hm;cases hm
  exact(Array.getElem?_eq_some_iff.1 h2).1
end
end
section
open Go
structure WX (I K:Nat→Prop)(w w':World):Prop where
 keep: ∀b,I b∨K b→w'.heap[b]?=w.heap[b]?
 size:w.heap.size≤w'.heap.size
 os:w'.os=w.os
 tape:w'.tape=w.tape
 output:w'.output=w.output
theorem WX.refl (I K:Nat→Prop)(w:World):WX I K w w:=⟨fun _ _=>rfl,Nat.le_refl _,rfl,rfl,rfl⟩
theorem WX.alloc {I K:Nat→Prop}{w:World}(o:Obj)(hi: ∀b,I b→b<w.heap.size)(hk: ∀b,K b→b<w.heap.size):WX I K w (w.alloc o) where
 keep:=fun b hb=>by
  have hlt:b<w.heap.size:=hb.elim (hi b) (hk b)
  show(w.heap.push o)[b]?=w.heap[b]?
  rw[Array.getElem?_push,if_neg (Nat.ne_of_lt hlt)]
 size:=by simp
 os:=rfl
 tape:=rfl
 output:=rfl
def SameKind :AObj→AObj→Prop
 | .no _,_=>False
 | .box g _ _,o'=> ∃cells' f',o'= .box g cells' f'
 | .arr g sz e rows _,o'=> ∃rows' f',o'= .arr g sz e rows' f'∧rows.length≤rows'.length
 | .map g _ _ _ _,o'=> ∃ag ks rows f',o'= .map g ag ks rows f'
section
variable {I K I':Nat→Prop}{m:Mp}{hp:Hp}{w w':World}
theorem Ext.bump {x:Nm}{o:AObj}{p:Option (Nat×Nat)}(W:WX I K w w')(hi: ∀b,I b→I' b)(hg:(hp x).gen<o.gen):Ext I K m hp w I' (upd m x p) (upd hp x o) w' where
 isub:=hi
 keep:=W.keep
 size:=W.size
 os:=W.os
 tape:=W.tape
 output:=W.output
 gmono:=fun y=>by
  by_cases hy:y=x
  ·subst hy;rw[upd_same];omega
  ·rw[upd_other _ _ hy];exact Nat.le_refl _
 stable:=fun y he=>by
  by_cases hy:y=x
  ·subst hy;rw[upd_same] at he;omega
  ·rw[upd_other _ _ hy,upd_other _ _ hy]
   cases h:hp y with
   |no g=>exact⟨g,rfl⟩
   |box g c f=>exact⟨rfl,g,c,f,rfl⟩
   |arr g sz e rows f=>exact⟨rfl,g,rows,f,rfl,Nat.le_refl _⟩
   |map g ag ks rows f=>exact⟨rfl,g,ag,ks,rows,f,rfl⟩
theorem Ext.same {x:Nm}{o:AObj}(W:WX I K w w')(hi: ∀b,I b→I' b)(hk:SameKind (hp x) o):Ext I K m hp w I' m (upd hp x o) w' where
 isub:=hi
 keep:=W.keep
 size:=W.size
 os:=W.os
 tape:=W.tape
 output:=W.output
 gmono:=fun y=>by
  by_cases hy:y=x
  ·subst hy;rw[upd_same]
   cases h:hp y with
   |no g=>rw[h] at hk;exact hk.elim
   |box g c f=>rw[h] at hk;obtain⟨c',f',rfl⟩:=hk;exact Nat.le_refl _
   |arr g sz e rows f=>rw[h] at hk;obtain⟨r',f',rfl,_⟩:=hk;exact Nat.le_refl _
   |map g ag ks rows f=>rw[h] at hk;obtain⟨a',k',r',f',rfl⟩:=hk;exact Nat.le_refl _
  ·rw[upd_other _ _ hy];exact Nat.le_refl _
 stable:=fun y _=>by
  by_cases hy:y=x
  ·subst hy;rw[upd_same]
   cases h:hp y with
   |no g=>rw[h] at hk;exact hk.elim
   |box g c f=>rw[h] at hk;obtain⟨c',f',rfl⟩:=hk;exact⟨rfl,g,c',f',rfl⟩
   |arr g sz e rows f=>rw[h] at hk;obtain⟨r',f',rfl,hl⟩:=hk;exact⟨rfl,g,r',f',rfl,hl⟩
   |map g ag ks rows f=>rw[h] at hk;obtain⟨a',k',r',f',rfl⟩:=hk;exact⟨rfl,g,a',k',r',f',rfl⟩
  ·rw[upd_other _ _ hy]
   cases h:hp y with
   |no g=>exact⟨g,rfl⟩
   |box g c f=>exact⟨rfl,g,c,f,rfl⟩
   |arr g sz e rows f=>exact⟨rfl,g,rows,f,rfl,Nat.le_refl _⟩
   |map g ag ks rows f=>exact⟨rfl,g,ag,ks,rows,f,rfl⟩
theorem Gam.bump (G:Gam I K m hp w){x:Nm}{o:AObj}{p:Option (Nat×Nat)}(W:WX I K w w')(hi: ∀b,I b→I' b)(hg:(hp x).gen<o.gen)
  (hobj:ObjOk I' K (upd m x p) (upd hp x o) w' x o)
  (hblk: ∀y,y≠x→(hp y).live=true→ ∀q,m y=some q→w'.heap[q.1]?=w.heap[q.1]?)
  (hI: ∀y,y≠x→(hp y).live=true→(hp y).fz=false→ ∀q,m y=some q→ ¬I q.1→ ¬I' q.1)
  (hne:o.live=true→ ∀r,p=some r→ ∀y,y≠x→(hp y).live=true→ ∀q,m y=some q→r.1≠q.1)
  (ilt: ∀b,I' b→b<w'.heap.size) (ik: ∀b,I' b→ ¬K b):Gam I' K (upd m x p) (upd hp x o) w':=by
 refine G.step (.bump W hi hg) (fun y=>y=x) (fun y hy=>⟨upd_other _ _ hy,upd_other _ _ hy⟩) (fun y hy=>by subst hy;rw[upd_same];exact hobj) hblk hI ?_ ilt ik
 intro a b r q la lb ha hb e
 by_cases h1:a=x<;>by_cases h2:b=x
 ·rw[h1,h2]
 ·subst h1
  rw[upd_same] at la ha
  rw[upd_other _ _ h2] at lb hb
  exact(hne la r ha b h2 lb q hb e).elim
 ·subst h2
  rw[upd_same] at lb hb
  rw[upd_other _ _ h1] at la ha
  exact(hne lb q hb a h1 la r ha e.symm).elim
 ·rw[upd_other _ _ h1] at la ha
  rw[upd_other _ _ h2] at lb hb
  exact G.inj a b r q la lb ha hb e
theorem Gam.same (G:Gam I K m hp w){x:Nm}{o:AObj}(W:WX I K w w')(hi: ∀b,I b→I' b)(hk:SameKind (hp x) o)
  (hobj:ObjOk I' K m (upd hp x o) w' x o)
  (hblk: ∀y,y≠x→(hp y).live=true→ ∀q,m y=some q→w'.heap[q.1]?=w.heap[q.1]?)
  (hI: ∀y,y≠x→(hp y).live=true→(hp y).fz=false→ ∀q,m y=some q→ ¬I q.1→ ¬I' q.1)
  (ilt: ∀b,I' b→b<w'.heap.size) (ik: ∀b,I' b→ ¬K b):Gam I' K m (upd hp x o) w':=by
 refine G.step (.same W hi hk) (fun y=>y=x) (fun y hy=>⟨upd_other _ _ hy,rfl⟩) (fun y hy=>by subst hy;rw[upd_same];exact hobj) hblk hI ?_ ilt ik
 have hl: ∀y,(upd hp x o y).live=true→(hp y).live=true:=fun y h=>by
  by_cases hy:y=x
  ·subst hy
   cases h0:hp y with
   |no g=>rw[h0] at hk;exact hk.elim
   |box g c f=>rfl
   |arr g sz e rows f=>rfl
   |map g ag ks rows f=>rfl
  ·rwa [upd_other _ _ hy] at h
 intro a b r q la lb ha hb e
 exact G.inj a b r q (hl a la) (hl b lb) ha hb e
theorem Gam.virt (G:Gam I K m hp w)(x:Nm)(sz:Nat)(e:TypeId):
  Gam I K (upd m x none) (upd hp x (.arr ((hp x).gen+1) sz e [] false)) w∧Ext I K m hp w I (upd m x none) (upd hp x (.arr ((hp x).gen+1) sz e [] false)) w:=by
 have hg:(hp x).gen<(AObj.arr ((hp x).gen+1) sz e [] false).gen:=by simp[AObj.gen]
 refine⟨G.bump (.refl I K w) (fun _ h=>h) hg (.inl ⟨upd_same _ _ _,rfl⟩) (fun _ _ _ _ _=>rfl) (fun _ _ _ _ _ _ h=>h) ?_ G.ilt G.ik,.bump (.refl I K w) (fun _ h=>h) hg⟩
 intro _ r hr;cases hr
theorem Gam.kill (G:Gam I K m hp w)(x:Nm){g:Nat}(hg:(hp x).gen<g):
  Gam I K m (upd hp x (.no g)) w∧Ext I K m hp w I m (upd hp x (.no g)) w:=by
 have e:upd m x (m x)=m:=by funext y;by_cases h:y=x<;>simp[upd,h]
 have hg':(hp x).gen<(AObj.no g).gen:=hg
 have h1:=G.bump (x:=x) (o:= .no g) (p:=m x) (.refl I K w) (fun _ h=>h) hg' trivial (fun _ _ _ _ _=>rfl) (fun _ _ _ _ _ _ h=>h) (fun h=>by simp[AObj.live] at h) G.ilt G.ik
 have h2:Ext I K m hp w I (upd m x (m x)) (upd hp x (.no g)) w:= .bump (.refl I K w) (fun _ h=>h) hg'
 rw[e] at h1 h2
 exact⟨h1,h2⟩
theorem Gam.move (G:Gam I K m hp w){x y:Nm}(hxy:x≠y){g sz:Nat}{e:TypeId}{rows:List (List AV)}(hx:hp x= .arr g sz e rows false):
  Gam I K (upd m y (m x)) (upd (upd hp x (.no (g+1))) y (.arr ((hp y).gen+1) sz e rows false)) w∧
  Ext I K m hp w I (upd m y (m x)) (upd (upd hp x (.no (g+1))) y (.arr ((hp y).gen+1) sz e rows false)) w:=by
 obtain⟨G1,E1⟩:=G.kill x (g:=g+1) (by rw[hx];simp[AObj.gen])
 have hy:(upd hp x (.no (g+1)) y)=hp y:=upd_other _ _ (Ne.symm hxy)
 have hg:(upd hp x (.no (g+1)) y).gen<(AObj.arr ((hp y).gen+1) sz e rows false).gen:=by rw[hy];simp[AObj.gen]
 have E2:Ext I K m (upd hp x (.no (g+1))) w I (upd m y (m x)) (upd (upd hp x (.no (g+1))) y (.arr ((hp y).gen+1) sz e rows false)) w:= .bump (.refl I K w) (fun _ h=>h) hg
 refine⟨G1.bump (.refl I K w) (fun _ h=>h) hg ?_ (fun _ _ _ _ _=>rfl) (fun _ _ _ _ _ _ h=>h) ?_ G.ilt G.ik,E1.trans E2⟩
 ·have h:=G.obj x
  rw[hx] at h
  rcases h with⟨h1,h2⟩|⟨b,cap,us,mk,h1,h2,h3,h4,h5,h6,h7,h8,h9⟩
  ·exact .inl ⟨by rw[upd_same];exact h1,h2⟩
  ·exact .inr ⟨b,cap,us,mk,by rw[upd_same];exact h1,h2,h3,h4,h5,h6,h7,h8,h9⟩
 ·intro _ r hr z hz lz q hq e
  have hzx:z≠x:=fun h=>by subst h;rw[upd_same] at lz;simp[AObj.live] at lz
  rw[upd_other _ _ hzx] at lz
  exact hzx (G.inj x z r q (by rw[hx];rfl) lz hr hq e).symm
theorem Gam.moveBox (G:Gam I K m hp w){x y:Nm}(hxy:x≠y){g:Nat}{cells cs:List AV}{b c:Nat}{us:Array Value}{T:TypeId}{mk:Nat×Nat}(hx:hp x= .box g cells false)(h1:m x=some (b,c))(h2:w.heap[b]?=some (.cells us T mk))(h3:NoMark us mk∧us.size=c)
  (hcs:RepL y.d I m hp w cs (us.toList.take cs.length)) (h6: ¬I b∧ ¬K b):
  Gam I K (upd m y (m x)) (upd (upd hp x (.no (g+1))) y (.box ((hp y).gen+1) cs false)) w∧
  Ext I K m hp w I (upd m y (m x)) (upd (upd hp x (.no (g+1))) y (.box ((hp y).gen+1) cs false)) w:=by
 obtain⟨G1,E1⟩:=G.kill x (g:=g+1) (by rw[hx];simp[AObj.gen])
 have hy:(upd hp x (.no (g+1)) y)=hp y:=upd_other _ _ (Ne.symm hxy)
 have hg:(upd hp x (.no (g+1)) y).gen<(AObj.box ((hp y).gen+1) cs false).gen:=by rw[hy];simp[AObj.gen]
 have E2:Ext I K m (upd hp x (.no (g+1))) w I (upd m y (m x)) (upd (upd hp x (.no (g+1))) y (.box ((hp y).gen+1) cs false)) w:= .bump (.refl I K w) (fun _ h=>h) hg
 refine⟨G1.bump (.refl I K w) (fun _ h=>h) hg ?_ (fun _ _ _ _ _=>rfl) (fun _ _ _ _ _ _ h=>h) ?_ G.ilt G.ik,E1.trans E2⟩
 ·exact⟨b,c,us,T,mk,by rw[upd_same];exact h1,h2,h3,RepL.mono (E1.trans E2) _ _ _ hcs,fun h=>(by cases h),fun _=>h6⟩
 ·intro _ r hr z hz lz q hq e
  have hzx:z≠x:=fun h=>by subst h;rw[upd_same] at lz;simp[AObj.live] at lz
  rw[upd_other _ _ hzx] at lz
  exact hzx (G.inj x z r q (by rw[hx];rfl) lz hr hq e).symm
theorem Gam.freeze' (G:Gam I K m hp w){x:Nm}{g sz:Nat}{e:TypeId}{rows:List (List AV)}{f:Bool}(hx:hp x= .arr g sz e rows f):
  ∃I',Gam I' K m (upd hp x (.arr g sz e rows true)) w∧Ext I K m hp w I' m (upd hp x (.arr g sz e rows true)) w∧(∀b c,m x=some (b,c)→I' b)∧ ∀b,I' b→I b∨ ∃z p,(hp z).live=true∧m z=some p∧p.1=b:=by
 have hk:SameKind (hp x) (.arr g sz e rows true):=by rw[hx];exact⟨rows,true,rfl,Nat.le_refl _⟩
 have h:=G.obj x
 rw[hx] at h
 have hi: ∀b,I b→(I b∨ ∃c,m x=some (b,c)):=fun _ h=> .inl h
 refine⟨fun b=>I b∨ ∃c,m x=some (b,c),G.same (.refl I K w) hi hk ?_ (fun _ _ _ _ _=>rfl) ?_ ?_ ?_,.same (.refl I K w) hi hk,fun b c hc=> .inr ⟨c,hc⟩,fun b hb=>hb.imp id fun⟨c,hc⟩=>⟨x,(b,c),by rw[hx];rfl,hc,rfl⟩⟩
 ·rcases h with⟨h1,h2⟩|⟨b,cap,us,mk,h1,h2,h3,h4,h5,h6,h7,h8,h9⟩
  ·exact .inl ⟨h1,h2⟩
  ·exact .inr ⟨b,cap,us,mk,h1,h2,h3,h4,h5,h6,RepRows.mono hi (fun _ _=>rfl) _ _ _ h7,fun _=> .inr ⟨cap,h1⟩,fun hf=>by cases hf⟩
 ·rintro y hy ly _ q hq hn (hq'|⟨c,hc⟩)
  ·exact hn hq'
  ·exact hy (G.inj y x q (q.1,c) ly (by rw[hx];rfl) hq hc rfl)
 ·rintro b (hb|⟨c,hc⟩)
  ·exact G.ilt b hb
  ·exact G.blk (x:=x) (by rw[hx];rfl) hc
 ·rintro b (hb|⟨c,hc⟩)
  ·exact G.ik b hb
  ·rcases h with⟨h1,h2⟩|⟨b',cap,us,mk,h1,h2,h3,h4,h5,h6,h7,h8,h9⟩
   ·rw[h1] at hc;cases hc
   ·rw[h1] at hc;cases hc
    cases f with
    |true=>exact G.ik _ (h8 rfl)
    |false=>exact(h9 rfl).2
theorem Gam.freeze (G:Gam I K m hp w){x:Nm}{g sz:Nat}{e:TypeId}{rows:List (List AV)}{f:Bool}(hx:hp x= .arr g sz e rows f):
  ∃I',Gam I' K m (upd hp x (.arr g sz e rows true)) w∧Ext I K m hp w I' m (upd hp x (.arr g sz e rows true)) w∧ ∀b c,m x=some (b,c)→I' b:=
 let ⟨I',h1,h2,h3,_⟩:=G.freeze' hx
 ⟨I',h1,h2,h3⟩
theorem Gam.freezeBox' (G:Gam I K m hp w){x:Nm}{g:Nat}{cells:List AV}{f:Bool}(hx:hp x= .box g cells f)
  (hd: ∀us,RepL x.d I m hp w cells us→RepDL I w cells us):
  ∃I',Gam I' K m (upd hp x (.box g cells true)) w∧Ext I K m hp w I' m (upd hp x (.box g cells true)) w∧(∀b c,m x=some (b,c)→I' b)∧ ∀b,I' b→I b∨ ∃z p,(hp z).live=true∧m z=some p∧p.1=b:=by
 have hk:SameKind (hp x) (.box g cells true):=by rw[hx];exact⟨cells,true,rfl⟩
 have h:=G.obj x
 rw[hx] at h
 obtain⟨b,c,us,T,mk,h1,h2,h3,h4,h5,h6⟩:=h
 have hi: ∀b,I b→(I b∨ ∃c,m x=some (b,c)):=fun _ h=> .inl h
 have E:Ext I K m hp w (fun b=>I b∨ ∃c,m x=some (b,c)) m (upd hp x (.box g cells true)) w:= .same (.refl I K w) hi hk
 refine⟨fun b=>I b∨ ∃c,m x=some (b,c),G.same (.refl I K w) hi hk ?_ (fun _ _ _ _ _=>rfl) ?_ ?_ ?_,E,fun b c hc=> .inr ⟨c,hc⟩,fun b hb=>hb.imp id fun⟨c,hc⟩=>⟨x,(b,c),by rw[hx];rfl,hc,rfl⟩⟩
 ·exact⟨b,c,us,T,mk,h1,h2,h3,RepL.mono E _ _ _ h4,fun _=>⟨.inr ⟨c,h1⟩,RepDL.mono hi (fun _ _=>rfl) _ _ (hd _ h4)⟩,fun hf=>by cases hf⟩
 ·rintro y hy ly _ q hq hn (hq'|⟨c,hc⟩)
  ·exact hn hq'
  ·exact hy (G.inj y x q (q.1,c) ly (by rw[hx];rfl) hq hc rfl)
 ·rintro b (hb|⟨c,hc⟩)
  ·exact G.ilt b hb
  ·exact G.blk (x:=x) (by rw[hx];rfl) hc
 ·rintro b' (hb|⟨c',hc⟩)
  ·exact G.ik b' hb
  ·rw[h1] at hc;cases hc
   cases f with
   |true=>exact G.ik _ (h5 rfl).1
   |false=>exact(h6 rfl).2
theorem Gam.freezeBoxC (G:Gam I K m hp w){x:Nm}{g:Nat}{cells cs:List AV}{f:Bool}(hx:hp x= .box g cells f)
  (hd: ∀b c us T mk,m x=some (b,c)→w.heap[b]?=some (.cells us T mk)→RepDL I w cs (us.toList.take cs.length)):
  ∃I',Gam I' K m (upd hp x (.box g cs true)) w∧Ext I K m hp w I' m (upd hp x (.box g cs true)) w∧(∀b c,m x=some (b,c)→I' b)∧ ∀b,I' b→I b∨ ∃z p,(hp z).live=true∧m z=some p∧p.1=b:=by
 have hk:SameKind (hp x) (.box g cs true):=by rw[hx];exact⟨cs,true,rfl⟩
 have h:=G.obj x
 rw[hx] at h
 obtain⟨b,c,us,T,mk,h1,h2,h3,h4,h5,h6⟩:=h
 have hi: ∀b,I b→(I b∨ ∃c,m x=some (b,c)):=fun _ h=> .inl h
 have E:Ext I K m hp w (fun b=>I b∨ ∃c,m x=some (b,c)) m (upd hp x (.box g cs true)) w:= .same (.refl I K w) hi hk
 have hD:=RepDL.mono (I':=fun b=>I b∨ ∃c,m x=some (b,c)) hi (fun _ _=>rfl) _ _ (hd b c us T mk h1 h2)
 refine⟨fun b=>I b∨ ∃c,m x=some (b,c),G.same (.refl I K w) hi hk ?_ (fun _ _ _ _ _=>rfl) ?_ ?_ ?_,E,fun b c hc=> .inr ⟨c,hc⟩,fun b hb=>hb.imp id fun⟨c,hc⟩=>⟨x,(b,c),by rw[hx];rfl,hc,rfl⟩⟩
 ·exact⟨b,c,us,T,mk,h1,h2,h3,(RepL_iff _ _).2 (((RepDL_iff _ _).1 hD).imp fun a u h=>RepD.rep h),fun _=>⟨.inr ⟨c,h1⟩,hD⟩,fun hf=>by cases hf⟩
 ·rintro y hy ly _ q hq hn (hq'|⟨c,hc⟩)
  ·exact hn hq'
  ·exact hy (G.inj y x q (q.1,c) ly (by rw[hx];rfl) hq hc rfl)
 ·rintro b (hb|⟨c,hc⟩)
  ·exact G.ilt b hb
  ·exact G.blk (x:=x) (by rw[hx];rfl) hc
 ·rintro b' (hb|⟨c',hc⟩)
  ·exact G.ik b' hb
  ·rw[h1] at hc;cases hc
   cases f with
   |true=>exact G.ik _ (h5 rfl).1
   |false=>exact(h6 rfl).2
theorem Gam.freezeBox (G:Gam I K m hp w){x:Nm}{g:Nat}{cells:List AV}{f:Bool}(hx:hp x= .box g cells f)
  (hd: ∀us,RepL x.d I m hp w cells us→RepDL I w cells us):
  ∃I',Gam I' K m (upd hp x (.box g cells true)) w∧Ext I K m hp w I' m (upd hp x (.box g cells true)) w∧ ∀b c,m x=some (b,c)→I' b:=
 let ⟨I',h1,h2,h3,_⟩:=G.freezeBox' hx hd
 ⟨I',h1,h2,h3⟩
theorem Gam.freezeMap' (G:Gam I K m hp w){x:Nm}{g:Nat}{ag:Bool}{ks:List Value}{rows:List (List AV)}{f:Bool}(hx:hp x= .map g ag ks rows f):
  ∃I',Gam I' K m (upd hp x (.map g ag ks rows true)) w∧Ext I K m hp w I' m (upd hp x (.map g ag ks rows true)) w∧(∀b c,m x=some (b,c)→I' b)∧ ∀b,I' b→I b∨ ∃z p,(hp z).live=true∧m z=some p∧p.1=b:=by
 have hk:SameKind (hp x) (.map g ag ks rows true):=by rw[hx];exact⟨ag,ks,rows,true,rfl⟩
 have h:=G.obj x
 rw[hx] at h
 obtain⟨b,c,es,clock,h1,h2,h3,h4,h5,h6⟩:=h
 have hi: ∀b,I b→(I b∨ ∃c,m x=some (b,c)):=fun _ h=> .inl h
 have E:Ext I K m hp w (fun b=>I b∨ ∃c,m x=some (b,c)) m (upd hp x (.map g ag ks rows true)) w:= .same (.refl I K w) hi hk
 refine⟨fun b=>I b∨ ∃c,m x=some (b,c),G.same (.refl I K w) hi hk ?_ (fun _ _ _ _ _=>rfl) ?_ ?_ ?_,E,fun b c hc=> .inr ⟨c,hc⟩,fun b hb=>hb.imp id fun⟨c,hc⟩=>⟨x,(b,c),by rw[hx];rfl,hc,rfl⟩⟩
 ·exact⟨b,c,es,clock,h1,h2,h3,RepMs.mono hi (fun _ _=>rfl) _ _ _ h4,fun _=> .inr ⟨c,h1⟩,fun hf=>by cases hf⟩
 ·rintro y hy ly _ q hq hn (hq'|⟨c,hc⟩)
  ·exact hn hq'
  ·exact hy (G.inj y x q (q.1,c) ly (by rw[hx];rfl) hq hc rfl)
 ·rintro b (hb|⟨c,hc⟩)
  ·exact G.ilt b hb
  ·exact G.blk (x:=x) (by rw[hx];rfl) hc
 ·rintro b' (hb|⟨c',hc⟩)
  ·exact G.ik b' hb
  ·rw[h1] at hc;cases hc
   cases f with
   |true=>exact G.ik _ (h5 rfl)
   |false=>exact(h6 rfl).2
theorem Gam.mapD (G:Gam I K m hp w){D:Nat}{x:Nm}{g:Nat}{ag:Bool}{ks:List Value}{rows:List (List AV)}{f:Bool}(hx:hp x= .map g ag ks rows f){u:Value}(hr:Rep D I m hp w (.mp x g) u){J:Nat→Prop}(hi: ∀b,I b→J b)(hj: ∀b c,m x=some (b,c)→J b):RepD J w (.dmp ag ks rows) u:=by
 have h:=G.obj x
 rw[hx] at h
 obtain⟨b,c,es,clock,h1,h2,h3,h4,h5,h6⟩:=h
 simp only[Rep] at hr
 obtain⟨_,_,hr⟩:=hr
 obtain⟨b',c',hm,rfl⟩:=hr _ _ _ _ hx
 rw[h1] at hm;cases hm
 simp only[RepD]
 exact⟨b,es,clock,rfl,hj _ _ h1,h2,h3,RepMs.mono hi (fun _ _=>rfl) _ _ _ h4⟩
/-! ### programs over the abstract heap -/
theorem run_bind {α β:Type}(p:Prog α)(f:α→Prog β): ∀hp:Hp,(p.bind f).run hp=match p.run hp with|some (a,hp')=>(f a).run hp'|none=>none:=by
 induction p with
 |ret a=>intro hp;rfl
 |get x k ih=>intro hp;exact ih _ hp
 |put x o k ih=>intro hp;exact ih _
 |hdr x k ih=>intro hp;exact ih _ hp
 |getC x off k ih=>
  intro hp
  simp only[Prog.bind,Prog.run]
  cases cellOf (hp x) off with
  |none=>rfl
  |some v=>exact ih v hp
 |putC x off v k ih=>
  intro hp
  simp only[Prog.bind,Prog.run]
  cases setCellOf (hp x) off v with
  |none=>rfl
  |some o=>exact ih _
 |ext g k ih=>
  intro hp
  simp only[Prog.bind,Prog.run]
  cases g hp with
  |none=>rfl
  |some q=>exact ih _ _
 |fail=>intro hp;rfl
theorem run_bind_some {α β:Type}{p:Prog α}{f:α→Prog β}{hp hp':Hp}{b:β}(h:(p.bind f).run hp=some (b,hp')): ∃a hp1,p.run hp=some (a,hp1)∧(f a).run hp1=some (b,hp'):=by
 rw[run_bind] at h
 cases hr:p.run hp with
 |none=>rw[hr] at h;cases h
 |some q=>obtain⟨a,hp1⟩:=q;rw[hr] at h;exact⟨a,hp1,rfl,h⟩
theorem drop_head {α:Type}{l:List α}{i:Nat}{a:α}(h:l[i]?=some a):l.drop i=a::l.drop (i+1):=by
 obtain⟨hi,rfl⟩:=List.getElem?_eq_some_iff.1 h
 exact List.drop_eq_getElem_cons hi
theorem run_getCs {x:Nm}{g:Nat}{cells:List AV}{f:Bool}(hx:hp x= .box g cells f): ∀n off,off+n≤cells.length→(getCs x off n).run hp=some ((cells.drop off).take n,hp)
 |0,off,_=>by simp[getCs,Prog.run]
 |n+1,off,h=>by
  have hc:cells[off]?=some cells[off]:=List.getElem?_eq_getElem (by omega)
  simp only[getCs,Prog.run,hx,cellOf,hc,run_bind,run_getCs hx n (off+1) (by omega),drop_head hc,List.take_succ_cons]
theorem splice_nil (l:List AV)(off:Nat):splice l off []=l:=by
 unfold splice
 split
 ·rename_i e
  exact(List.eq_nil_of_length_eq_zero (by simpa using e.symm)).symm
 ·simp
theorem splice_cons (l:List AV)(off:Nat)(v:AV)(vs:List AV)(h:off+(vs.length+1)≤l.length):splice (l.set off v) (off+1) vs=splice l off (v::vs):=by
 have e1: ∀(l:List AV) (off:Nat) (vs:List AV),off+vs.length≤l.length→splice l off vs=l.take off++vs++l.drop (off+vs.length):=fun l off vs h=>by
  unfold splice
  split
  ·have e0:off=0:=by omega
   subst e0
   have hd:l.drop (0+vs.length)=[]:=by rw[List.drop_eq_nil_iff];omega
   rw[hd];simp
  ·rfl
 rw[e1 _ _ _ (by simp;omega),e1 _ _ _ (by simp;omega)]
 have hlt:off<l.length:=by omega
 have hs:(l.set off v).take (off+1)=l.take off++[v]:=by
  rw[List.take_succ_eq_append_getElem (by simpa using hlt),List.take_set_of_le (Nat.le_refl _)]
  simp
 rw[hs,List.drop_set_of_lt (by omega)]
 simp[Nat.add_assoc,Nat.add_comm 1]
theorem run_putCs {x:Nm}{g:Nat}{f:Bool}: ∀(vs:List AV) (off:Nat) (cells:List AV) (hp:Hp),hp x= .box g cells f→off+vs.length≤cells.length→
  ∃hp',(putCs x off vs).run hp=some (.any,hp')∧hp'=upd hp x (.box g (splice cells off vs) f)
 |[],off,cells,hp,hx,_=>by
  refine⟨hp,rfl,?_⟩
  rw[splice_nil cells off,←hx]
  funext y;by_cases hy:y=x<;>simp[upd,hy]
 |v::vs,off,cells,hp,hx,h=>by
  have hlt:off<cells.length:=by simp at h;omega
  obtain⟨hp',h1,h2⟩:=run_putCs vs (off+1) (cells.set off v) (upd hp x (.box g (cells.set off v) f)) (upd_same _ _ _) (by simp at h⊢;omega)
  refine⟨hp',by simp only[putCs,Prog.run,hx,setCellOf,hlt,if_true,h1],?_⟩
  rw[h2,splice_cons cells off v vs (by simp at h;omega)]
  funext y;by_cases hy:y=x<;>simp[upd,hy]
theorem Gam.ownRows (G:Gam I K m hp w){D:Nat}{x:Nm}{g n sz:Nat}{e:TypeId}{rows:List (List AV)}{f:Bool}{u:Value}(hx:hp x= .arr g sz e rows f)(h:Rep D I m hp w (.own x g n) u):
  n≤rows.length∧u.oneCell'=true∧ ∀J:Nat→Prop,(∀b,I b→J b)→(∀b c,m x=some (b,c)→J b)→RepD J w (.sl false sz (rows.take n)) u:=by
 simp only[Rep] at h
 obtain⟨_,_,h⟩:=h
 obtain⟨hn,h⟩:=h sz e rows f hx
 have ho:=G.obj x
 rw[hx] at ho
 refine⟨hn,?_,fun J hJ hb=>?_⟩
 ·rcases h with⟨_,rfl,_⟩|⟨b,cap,_,rfl⟩<;>rfl
 ·rcases h with⟨h0,rfl,rfl⟩|⟨b,cap,hm,rfl⟩
  ·simp only[RepD]
   exact⟨none,0,by simp,by simp,by simp[maxLen],by simp,.inl (by simp)⟩
  ·rcases ho with⟨h1,h2⟩|⟨b',cap',us,mk,h1,h2,h3,h4,h5,h6,h7,h8,h9⟩
   ·rw[h1] at hm;cases hm
   ·rw[h1] at hm;cases hm
    simp only[RepD]
    refine⟨_,_,by rw[List.length_take,Nat.min_eq_left hn],by rw[List.length_take];omega,h6,by simp,.inr ⟨b,0,us.toList.take (n*sz),rfl,hb b cap h1,?_,?_⟩⟩
    ·intro j v hv
     rw[List.getElem?_take] at hv
     split at hv
     ·rw[Nat.zero_add,cell_of_row w b j us e mk h2]
      simpa using hv
     ·cases hv
    ·have h7':=(RepRows_iff _ _).1 h7
     refine RepRows.mono hJ (fun _ _=>rfl) _ _ _ ((RepRows_iff _ _).2 ⟨h7'.1.take n,?_⟩)
     rw[h7'.1.flatten_take]
     have:=h7'.2.take (n*sz)
     rwa [List.take_take,Nat.min_eq_left (Nat.mul_le_mul_right _ hn)] at this
end
end
section
open Go
theorem chunks_flat (sz:Nat): ∀(n:Nat) (l:List AV),n*sz≤l.length→(chunks sz n l).flatten=l.take (n*sz)∧Even sz (chunks sz n l)∧(chunks sz n l).length=n
 |0,l,_=>⟨by simp[chunks],fun r hr=>by simp[chunks] at hr,rfl⟩
 |n+1,l,h=>by
  have hle:sz≤l.length:=by rw[Nat.add_mul] at h;omega
  obtain⟨h1,h2,h3⟩:=chunks_flat sz n (l.drop sz) (by rw[List.length_drop];rw[Nat.add_mul] at h;omega)
  refine⟨?_,fun r hr=>?_,by simp[chunks,h3]⟩
  ·simp only[chunks,List.flatten_cons,h1]
   have e:(n+1)*sz=sz+n*sz:=by rw[Nat.add_mul];omega
   rw[e,List.take_add]
  ·rcases List.mem_cons.1 hr with rfl|hr
   ·rw[List.length_take];omega
   ·exact h2 r hr
def LiveB (m:Mp)(hp:Hp)(b:Nat):Prop:= ∃x p,(hp x).live=true∧m x=some p∧p.1=b
section
variable {P:Program}{I K:Nat→Prop}{m:Mp}{hp hp':Hp}{w:World}{D:Nat}
theorem dat_sc {ct:TypeId}{fz:Bool}{v:Value}{a':AV}{J:Nat→Prop}(h:(toDat P fz ct (.sc v)).run hp=some (a',hp')):hp'=hp∧RepD J w a' v:=by
 unfold toDat at h
 split at h
 ·rename_i heq
  simp only[AV.sc.injEq] at heq
  subst heq
  split at h<;>simp only[Prog.run,Option.some.injEq,Prod.mk.injEq,reduceCtorEq] at h
  obtain⟨rfl,rfl⟩:=h
  refine⟨rfl,?_⟩
  simp only[RepD]
  exact⟨none,0,rfl,Nat.le_refl _,by simp[maxLen],by simp,.inl trivial⟩
 ·rename_i v' _ heq
  simp only[AV.sc.injEq] at heq
  subst heq
  split at h<;>simp only[Prog.run,Option.some.injEq,Prod.mk.injEq,reduceCtorEq] at h
  rename_i hv
  obtain⟨rfl,rfl⟩:=h
  exact⟨rfl,by simp only[RepD];exact⟨trivial,hv⟩⟩
 all_goals first|(simp[Prog.run] at h;done)|(rename_i heq;simp at heq;done)
theorem datL_dat0 {cells:List AV}(hdat:cells.all isDat0=true){us:List Value}(hus:RepL D I m hp w cells us):RepDL I w cells us:=by
 rw[RepL_iff] at hus
 rw[RepDL_iff]
 refine⟨hus.1,fun j a u ha hu=>?_⟩
 have h1:=hus.2 j a u ha hu
 have h2:isDat0 a=true:=List.all_eq_true.1 hdat a (List.mem_of_getElem? ha)
 cases a<;>simp[isDat0] at h2<;>simp only[Rep] at h1
 ·simp only[RepD];exact⟨h1,h2⟩
 ·exact h1
 ·exact h1
 ·exact h1
theorem datL_dat {cells:List AV}(hdat:cells.all isDat=true){us:List Value}(hus:RepL D I m hp w cells us):RepDL I w cells us:=by
 rw[RepL_iff] at hus
 rw[RepDL_iff]
 refine⟨hus.1,fun j a u ha hu=>?_⟩
 have h1:=hus.2 j a u ha hu
 have h2:isDat a=true:=List.all_eq_true.1 hdat a (List.mem_of_getElem? ha)
 cases a<;>simp only[isDat,Bool.false_eq_true] at h2<;>simp only[Rep] at h1
 ·simp only[RepD];exact⟨h1,h2⟩
 ·exact h1
 ·exact h1
 ·simp only[RepD]
  obtain⟨us,hu,h1⟩:=h1
  exact⟨us,hu,datL_dat0 h2 h1⟩
 ·exact h1
theorem take_all {R:AV→Value→Prop}{as:List AV}{us:List Value}(h:AllR R as us):us.take as.length=us:=List.take_of_length_le (by rw[h.1];exact Nat.le_refl _)
theorem take_splice {α:Type}{us v:List α}{n off:Nat}(h:off+v.length≤n)(hn:n≤us.length):(us.take off++v++us.drop (off+v.length)).take n=(us.take n).take off++v++(us.take n).drop (off+v.length):=by
 have hl:(us.take off++v).length=off+v.length:=by rw[List.length_append,List.length_take];omega
 rw[List.take_append,List.take_of_length_le (by rw[hl];exact h),hl,List.drop_take,List.take_take,Nat.min_eq_left (by omega)]
theorem take_some {α:Type}{l:List α}{n j:Nat}{v:α}(h:(l.take n)[j]?=some v):l[j]?=some v:=by
 rw[List.getElem?_take] at h
 split at h
 ·exact h
 ·cases h
theorem boxD (G:Gam I K m hp w){x:Nm}{g off:Nat}{cells:List AV}{f:Bool}(hx:hp x= .box g cells f)(hdat:cells.all isDat=true){u:Value}(hr:Rep D I m hp w (.ptr x g off) u){J:Nat→Prop}(hi: ∀b,I b→J b)(hj: ∀b c,m x=some (b,c)→J b):
  RepD J w (.dp cells off) u:=by
 have ho:=G.obj x
 rw[hx] at ho
 obtain⟨b,c,us,T,mk,o1,o2,o3,o4,o5,o6⟩:=ho
 simp only[Rep] at hr
 obtain⟨_,_,hr⟩:=hr
 obtain⟨b',c',hm,rfl⟩:=hr cells f hx
 rw[o1] at hm;cases hm
 simp only[RepD]
 refine⟨b,0,us.toList.take cells.length,by simp,hj b c o1,fun j v hv=>?_,RepDL.mono hi (fun _ _=>rfl) _ _ (datL_dat hdat o4)⟩
 rw[cell_of_row w b (0+j) us T mk o2]
 simpa using take_some hv
theorem bslD (G:Gam I K m hp w){x:Nm}{g sz off n:Nat}{cells:List AV}{f:Bool}(hx:hp x= .box g cells f)(hdat:cells.all isDat=true){u:Value}(hr:Rep D I m hp w (.bsl x g sz off n) u)(hl:off+n*sz≤cells.length):
  ∃b c cap us,m x=some (b,c)∧n≤cap∧cap≤maxLen∧u= .slice (some ⟨b,off,none⟩) n cap∧CellsAt w b off us∧RepRows I w sz (chunks sz n (cells.drop off)) us∧(chunks sz n (cells.drop off)).length=n∧us.length=n*sz:=by
 have ho:=G.obj x
 rw[hx] at ho
 obtain⟨b,c,us,T,mk,o1,o2,o3,o4,o5,o6⟩:=ho
 simp only[Rep] at hr
 obtain⟨_,_,hr⟩:=hr
 obtain⟨b',c',cap,hm,h1,⟨h2,_⟩,rfl⟩:=hr cells f hx
 rw[o1] at hm;cases hm
 have hda:=(RepDL_iff _ _).1 (datL_dat hdat o4)
 obtain⟨q1,q2,q3⟩:=chunks_flat sz n (cells.drop off) (by rw[List.length_drop];omega)
 refine⟨b,c,cap,((us.toList.take cells.length).drop off).take (n*sz),o1,h1,h2,rfl,fun j v hv=>?_,?_,q3,?_⟩
 ·rw[cell_of_row w b (off+j) us T mk o2]
  have hv:=take_some hv
  rw[List.getElem?_drop] at hv
  simpa using take_some hv
 ·rw[RepRows_iff,q1]
  exact⟨q2,(hda.drop off).take _⟩
 ·have:=hda.1
  rw[List.length_take,List.length_drop,←this];omega
theorem own_bor (G:Gam I K m hp w){x:Nm}{g n sz:Nat}{e:TypeId}{rows:List (List AV)}{f:Bool}{u:Value}(hx:hp x= .arr g sz e rows f)(hr:Rep D I m hp w (.own x g n) u):RepD (fun b=>I b∨LiveB m hp b) w (.sl false sz (rows.take n)) u:=by
 obtain⟨_,_,hd⟩:=G.ownRows hx hr
 exact hd _ (fun _ h=> .inl h) (fun b c hc=> .inr ⟨x,(b,c),by rw[hx];rfl,hc,rfl⟩)
theorem ownD_ok (G:Gam I K m hp w){a a':AV}{u:Value}(hr:Rep D I m hp w a u)(h:(ownD a).run hp=some (a',hp')):
  hp'=hp∧RepD (fun b=>I b∨LiveB m hp b) w a' u:=by
 have hi: ∀b,I b→(I b∨LiveB m hp b):=fun _ h=> .inl h
 unfold ownD at h
 split at h
 ·rename_i x g n
  simp only[Prog.run] at h
  cases hx:hp x with
  |no g'=>rw[hx] at h;simp[Prog.run] at h
  |map _ _ _ _ _=>rw[hx] at h;simp[Prog.run] at h
  |box g' c f=>rw[hx] at h;simp[Prog.run] at h
  |arr g' sz e rows f=>
   rw[hx] at h
   simp only at h
   split at h
   ·rename_i hg
    subst hg
    simp only[Prog.run,Option.some.injEq,Prod.mk.injEq] at h
    obtain⟨rfl,rfl⟩:=h
    exact⟨rfl,own_bor G hx hr⟩
   ·simp[Prog.run] at h
 ·rename_i x g
  simp only[Prog.run] at h
  cases hx:hp x with
  |no g'=>rw[hx] at h;simp[Prog.run] at h
  |box g' c f=>rw[hx] at h;simp[Prog.run] at h
  |arr g' sz e rows f=>rw[hx] at h;simp[Prog.run] at h
  |map g' ag ks rows f=>
   rw[hx] at h
   simp only at h
   split at h
   ·rename_i hg
    subst hg
    simp only[Prog.run,Option.some.injEq,Prod.mk.injEq] at h
    obtain⟨rfl,rfl⟩:=h
    exact⟨rfl,G.mapD hx hr hi (fun b c hc=> .inr ⟨x,(b,c),by rw[hx];rfl,hc,rfl⟩)⟩
   ·simp[Prog.run] at h
 ·split at h
  ·rename_i hd
   simp only[Prog.run,Option.some.injEq,Prod.mk.injEq] at h
   obtain⟨rfl,rfl⟩:=h
   have h1:RepDL I w [a] [u]:=datL_dat (by simpa using hd) (by simp only[RepL];exact⟨u,[],rfl,hr,rfl⟩)
   simp only[RepDL] at h1
   obtain⟨v,vs,e1,h1,_⟩:=h1
   cases e1
   exact⟨rfl,RepD.mono hi (fun _ _=>rfl) _ _ h1⟩
  ·simp[Prog.run] at h
theorem ownDL_ok : ∀{as as':List AV} {us:List Value} {hp':Hp},Gam I K m hp w→AllR (Rep D I m hp w) as us→(ownDL as).run hp=some (as',hp')→
  hp'=hp∧AllR (RepD (fun b=>I b∨LiveB m hp b) w) as' us
 |[],as',us,hp',G,hr,h=>by
  simp only[ownDL,Prog.run,Option.some.injEq,Prod.mk.injEq] at h
  obtain⟨rfl,rfl⟩:=h
  have:us=[]:=List.eq_nil_of_length_eq_zero (by rw[←hr.1];rfl)
  subst this
  exact⟨rfl,.nil⟩
 |a::as,as',us,hp',G,hr,h=>by
  obtain⟨u,us',rfl,h1,h2⟩:=hr.cons_inv
  simp only[ownDL] at h
  obtain⟨v1,hp1,r1,h3⟩:=run_bind_some h
  clear h
  obtain⟨vs,hp2,r2,h4⟩:=run_bind_some h3
  clear h3
  simp only[Prog.run,Option.some.injEq,Prod.mk.injEq] at h4
  obtain⟨rfl,rfl⟩:=h4
  obtain⟨e1,R1⟩:=ownD_ok G h1 r1
  rw[e1] at r2
  obtain⟨e2,R2⟩:=ownDL_ok G h2 r2
  exact⟨e2,.cons R1 R2⟩
theorem capD_frz (G:Gam I K m hp w){a a':AV}{u:Value}(hr:Rep D I m hp w a u)(h:(capD true a).run hp=some (a',hp')):
  ∃I',Gam I' K m hp' w∧Ext I K m hp w I' m hp' w∧RepD I' w a' u∧(∀b,I' b→I b∨LiveB m hp b)∧ ∀b,LiveB m hp' b→LiveB m hp b:=by
 cases a with
 |sc v=>
  simp only[capD] at h
  split at h
  ·rename_i hv
   simp only[Prog.run,Option.some.injEq,Prod.mk.injEq] at h
   obtain⟨rfl,rfl⟩:=h
   simp only[Rep] at hr
   exact⟨I,G,.refl _ _ _ _ _,by simp only[RepD];exact⟨hr,hv⟩,fun _ h=> .inl h,fun _ h=>h⟩
  ·simp[Prog.run] at h
 |sl f sz rows=>
  simp only[capD,Prog.run,Option.some.injEq,Prod.mk.injEq] at h
  obtain⟨rfl,rfl⟩:=h
  simp only[Rep] at hr
  exact⟨I,G,.refl _ _ _ _ _,hr,fun _ h=> .inl h,fun _ h=>h⟩
 |dp c o=>
  simp only[capD,Prog.run,Option.some.injEq,Prod.mk.injEq] at h
  obtain⟨rfl,rfl⟩:=h
  simp only[Rep] at hr
  exact⟨I,G,.refl _ _ _ _ _,hr,fun _ h=> .inl h,fun _ h=>h⟩
 |ptr x g o=>
  simp only[capD,Prog.run] at h
  cases hx:hp x with
  |no g'=>rw[hx] at h;simp[Prog.run] at h
  |map _ _ _ _ _=>rw[hx] at h;simp[Prog.run] at h
  |arr g' sz e' rows f=>rw[hx] at h;simp[Prog.run] at h
  |box g' cells f=>
   rw[hx] at h
   simp only[if_true] at h
   split at h
   case isFalse=>simp[Prog.run] at h
   rename_i hc
   obtain⟨rfl,hdat⟩:=hc
   simp only[Prog.run,Option.some.injEq,Prod.mk.injEq] at h
   obtain⟨rfl,rfl⟩:=h
   obtain⟨I',G',E',hb,hb2⟩:=G.freezeBox' hx (fun us hus=>datL_dat hdat hus)
   refine⟨I',G',E',boxD G hx hdat hr E'.isub hb,hb2,?_⟩
   intro b ⟨z,p,hz,hm,hbz⟩
   by_cases hzx:z=x
   ·subst hzx;exact⟨z,p,by rw[hx];rfl,hm,hbz⟩
   ·rw[upd_other _ _ hzx] at hz;exact⟨z,p,hz,hm,hbz⟩
 |dmp ag ks rows=>
  simp only[capD,Prog.run,Option.some.injEq,Prod.mk.injEq] at h
  obtain⟨rfl,rfl⟩:=h
  simp only[Rep] at hr
  exact⟨I,G,.refl _ _ _ _ _,hr,fun _ h=> .inl h,fun _ h=>h⟩
 |mp x g=>
  simp only[capD,Prog.run] at h
  cases hx:hp x with
  |no g'=>rw[hx] at h;simp[Prog.run] at h
  |box g' cells f=>rw[hx] at h;simp[Prog.run] at h
  |arr g' sz e rows f=>rw[hx] at h;simp[Prog.run] at h
  |map g' ag ks rows f=>
   rw[hx] at h
   simp only[if_true] at h
   split at h
   case isFalse=>simp[Prog.run] at h
   rename_i hg
   subst hg
   simp only[Prog.run,Option.some.injEq,Prod.mk.injEq] at h
   obtain⟨rfl,rfl⟩:=h
   obtain⟨I',G',E',hb,hb2⟩:=G.freezeMap' hx
   refine⟨I',G',E',G.mapD hx hr E'.isub hb,hb2,?_⟩
   intro b ⟨z,p,hz,hm,hbz⟩
   by_cases hzx:z=x
   ·subst hzx;exact⟨z,p,by rw[hx];rfl,hm,hbz⟩
   ·rw[upd_other _ _ hzx] at hz;exact⟨z,p,hz,hm,hbz⟩
 |any|agg|tup|vec|fn|own|eptr|bsl=>simp[capD,Prog.run] at h
theorem capDL_frz : ∀{as as':List AV} {us:List Value} {I:Nat→Prop} {hp hp':Hp},Gam I K m hp w→AllR (Rep D I m hp w) as us→(capDL true as).run hp=some (as',hp')→
  ∃I',Gam I' K m hp' w∧Ext I K m hp w I' m hp' w∧AllR (RepD I' w) as' us∧(∀b,I' b→I b∨LiveB m hp b)∧ ∀b,LiveB m hp' b→LiveB m hp b
 |[],as',us,I,hp,hp',G,hr,h=>by
  simp only[capDL,Prog.run,Option.some.injEq,Prod.mk.injEq] at h
  obtain⟨rfl,rfl⟩:=h
  have:us=[]:=List.eq_nil_of_length_eq_zero (by rw[←hr.1];rfl)
  subst this
  exact⟨I,G,.refl _ _ _ _ _,.nil,fun _ h=> .inl h,fun _ h=>h⟩
 |a::as,as',us,I,hp,hp',G,hr,h=>by
  obtain⟨u,us',rfl,h1,h2⟩:=hr.cons_inv
  simp only[capDL] at h
  obtain⟨v1,hp1,r1,h3⟩:=run_bind_some h
  clear h
  obtain⟨vs,hp2,r2,h4⟩:=run_bind_some h3
  clear h3
  simp only[Prog.run,Option.some.injEq,Prod.mk.injEq] at h4
  obtain⟨rfl,rfl⟩:=h4
  obtain⟨I1,G1,E1,R1,i1,l1⟩:=capD_frz G h1 r1
  obtain⟨I2,G2,E2,R2,i2,l2⟩:=capDL_frz G1 (h2.imp fun a u h=>Rep.mono E1 _ a u h) r2
  exact⟨I2,G2,E1.trans E2,.cons (RepD.mono E2.isub (fun _ _=>rfl) _ _ R1) R2,fun b hb=>(i2 b hb).elim (i1 b) (fun h=> .inr (l1 b h)),fun b hb=>l1 b (l2 b hb)⟩
theorem capD_bor (G:Gam I K m hp w){a a':AV}{u:Value}(hr:Rep D I m hp w a u)(h:(capD false a).run hp=some (a',hp')):
  hp'=hp∧RepD (fun b=>I b∨LiveB m hp b) w a' u:=by
 have hi: ∀b,I b→(I b∨LiveB m hp b):=fun _ h=> .inl h
 cases a with
 |sc v=>
  simp only[capD] at h
  split at h
  ·rename_i hv
   simp only[Prog.run,Option.some.injEq,Prod.mk.injEq] at h
   obtain⟨rfl,rfl⟩:=h
   simp only[Rep] at hr
   exact⟨rfl,by simp only[RepD];exact⟨hr,hv⟩⟩
  ·simp[Prog.run] at h
 |sl f sz rows=>
  simp only[capD,Prog.run,Option.some.injEq,Prod.mk.injEq] at h
  obtain⟨rfl,rfl⟩:=h
  simp only[Rep] at hr
  exact⟨rfl,RepD.mono hi (fun _ _=>rfl) _ _ hr⟩
 |dp c o=>
  simp only[capD,Prog.run,Option.some.injEq,Prod.mk.injEq] at h
  obtain⟨rfl,rfl⟩:=h
  simp only[Rep] at hr
  exact⟨rfl,RepD.mono hi (fun _ _=>rfl) _ _ hr⟩
 |ptr x g o=>
  simp only[capD,Prog.run] at h
  cases hx:hp x with
  |no g'=>rw[hx] at h;simp[Prog.run] at h
  |map _ _ _ _ _=>rw[hx] at h;simp[Prog.run] at h
  |arr g' sz e' rows f=>rw[hx] at h;simp[Prog.run] at h
  |box g' cells f=>
   rw[hx] at h
   simp only[Bool.false_eq_true,if_false] at h
   split at h
   case isTrue hc=>
    obtain⟨rfl,hdat⟩:=hc
    simp only[Prog.run,Option.some.injEq,Prod.mk.injEq] at h
    obtain⟨rfl,rfl⟩:=h
    exact⟨rfl,boxD G hx hdat hr hi (fun b c hc=> .inr ⟨x,(b,c),by rw[hx];rfl,hc,rfl⟩)⟩
   split at h
   case isFalse=>simp[Prog.run] at h
   rename_i hc
   obtain⟨rfl,_⟩:=hc
   obtain⟨cs,hp1,r1,h2⟩:=run_bind_some h
   simp only[Prog.run,Option.some.injEq,Prod.mk.injEq] at h2
   obtain⟨rfl,rfl⟩:=h2
   have ho:=G.obj x
   rw[hx] at ho
   obtain⟨b,c,us,T,mk,o1,o2,o3,o4,o5,o6⟩:=ho
   simp only[Rep] at hr
   obtain⟨_,_,hr⟩:=hr
   obtain⟨b',c',hm,rfl⟩:=hr cells f hx
   rw[o1] at hm;cases hm
   obtain⟨e1,R'⟩:=ownDL_ok G ((RepL_iff _ _).1 o4) r1
   refine⟨e1,?_⟩
   simp only[RepD]
   refine⟨b,0,us.toList.take cells.length,by simp,.inr ⟨x,(b,c),by rw[hx];rfl,o1,rfl⟩,fun j v hv=>?_,(RepDL_iff _ _).2 R'⟩
   rw[cell_of_row w b (0+j) us T mk o2]
   simpa using take_some hv
 |dmp ag ks rows=>
  simp only[capD,Prog.run,Option.some.injEq,Prod.mk.injEq] at h
  obtain⟨rfl,rfl⟩:=h
  simp only[Rep] at hr
  exact⟨rfl,RepD.mono hi (fun _ _=>rfl) _ _ hr⟩
 |mp x g=>
  simp only[capD,Prog.run] at h
  cases hx:hp x with
  |no g'=>rw[hx] at h;simp[Prog.run] at h
  |box g' cells f=>rw[hx] at h;simp[Prog.run] at h
  |arr g' sz e rows f=>rw[hx] at h;simp[Prog.run] at h
  |map g' ag ks rows f=>
   rw[hx] at h
   simp only[Bool.false_eq_true,if_false] at h
   split at h
   case isFalse=>simp[Prog.run] at h
   rename_i hg
   subst hg
   have h':(AV.dmp ag ks rows,hp)=(a',hp'):=by
    split at h<;>simpa[Prog.run] using h
   simp only[Prod.mk.injEq] at h'
   obtain⟨rfl,rfl⟩:=h'
   exact⟨rfl,G.mapD hx hr hi (fun b c hc=> .inr ⟨x,(b,c),by rw[hx];rfl,hc,rfl⟩)⟩
 |any|agg|tup|vec|fn|own|eptr|bsl=>simp[capD,Prog.run] at h
theorem capDL_bor : ∀{as as':List AV} {us:List Value} {hp':Hp},Gam I K m hp w→AllR (Rep D I m hp w) as us→(capDL false as).run hp=some (as',hp')→
  hp'=hp∧AllR (RepD (fun b=>I b∨LiveB m hp b) w) as' us
 |[],as',us,hp',G,hr,h=>by
  simp only[capDL,Prog.run,Option.some.injEq,Prod.mk.injEq] at h
  obtain⟨rfl,rfl⟩:=h
  have:us=[]:=List.eq_nil_of_length_eq_zero (by rw[←hr.1];rfl)
  subst this
  exact⟨rfl,.nil⟩
 |a::as,as',us,hp',G,hr,h=>by
  obtain⟨u,us',rfl,h1,h2⟩:=hr.cons_inv
  simp only[capDL] at h
  obtain⟨v1,hp1,r1,h3⟩:=run_bind_some h
  clear h
  obtain⟨vs,hp2,r2,h4⟩:=run_bind_some h3
  clear h3
  simp only[Prog.run,Option.some.injEq,Prod.mk.injEq] at h4
  obtain⟨rfl,rfl⟩:=h4
  obtain⟨e1,R1⟩:=capD_bor G h1 r1
  rw[e1] at r2
  obtain⟨e2,R2⟩:=capDL_bor G h2 r2
  exact⟨e2,.cons R1 R2⟩
theorem sl_false {J:Nat→Prop}{f:Bool}{sz:Nat}{rows:List (List AV)}{u:Value}(h:RepD J w (.sl f sz rows) u):RepD J w (.sl false sz rows) u:=by
 simp only[RepD] at h⊢
 obtain⟨A,cap,h1,h2,h3,_,h5⟩:=h
 exact⟨A,cap,h1,h2,h3,by simp,h5⟩
theorem ownF_frz (G:Gam I K m hp w){a a':AV}{u:Value}(hr:Rep D I m hp w a u)(h:(ownF a).run hp=some (a',hp')):
  ∃I',Gam I' K m hp' w∧Ext I K m hp w I' m hp' w∧RepD I' w a' u∧(∀b,I' b→I b∨LiveB m hp b)∧ ∀b,LiveB m hp' b→LiveB m hp b:=by
 unfold ownF at h
 split at h
 ·rename_i x g n
  simp only[Prog.run] at h
  cases hx:hp x with
  |no g'=>rw[hx] at h;simp[Prog.run] at h
  |map _ _ _ _ _=>rw[hx] at h;simp[Prog.run] at h
  |box g' c f=>rw[hx] at h;simp[Prog.run] at h
  |arr g' sz e rows f=>
   rw[hx] at h
   simp only at h
   split at h
   ·rename_i hg
    subst hg
    simp only[Prog.run,Option.some.injEq,Prod.mk.injEq] at h
    obtain⟨rfl,rfl⟩:=h
    obtain⟨I',G',E',hb,hb2⟩:=G.freeze' hx
    obtain⟨_,_,hd⟩:=G.ownRows hx hr
    refine⟨I',G',E',hd I' E'.isub hb,hb2,?_⟩
    intro b ⟨z,p,hz,hm,hbz⟩
    by_cases hzx:z=x
    ·subst hzx;exact⟨z,p,by rw[hx];rfl,hm,hbz⟩
    ·rw[upd_other _ _ hzx] at hz;exact⟨z,p,hz,hm,hbz⟩
   ·simp[Prog.run] at h
 ·split at h
  ·rename_i hd
   simp only[Prog.run,Option.some.injEq,Prod.mk.injEq] at h
   obtain⟨rfl,rfl⟩:=h
   have h1:RepDL I w [a] [u]:=datL_dat (by simpa using hd) (by simp only[RepL];exact⟨u,[],rfl,hr,rfl⟩)
   simp only[RepDL] at h1
   obtain⟨v,vs,e1,h1,_⟩:=h1
   cases e1
   exact⟨I,G,.refl _ _ _ _ _,h1,fun _ h=> .inl h,fun _ h=>h⟩
  ·simp[Prog.run] at h
theorem ownFL_frz : ∀{as as':List AV} {us:List Value} {I:Nat→Prop} {hp hp':Hp},Gam I K m hp w→AllR (Rep D I m hp w) as us→(ownFL as).run hp=some (as',hp')→
  ∃I',Gam I' K m hp' w∧Ext I K m hp w I' m hp' w∧AllR (RepD I' w) as' us∧(∀b,I' b→I b∨LiveB m hp b)∧ ∀b,LiveB m hp' b→LiveB m hp b
 |[],as',us,I,hp,hp',G,hr,h=>by
  simp only[ownFL,Prog.run,Option.some.injEq,Prod.mk.injEq] at h
  obtain⟨rfl,rfl⟩:=h
  have:us=[]:=List.eq_nil_of_length_eq_zero (by rw[←hr.1];rfl)
  subst this
  exact⟨I,G,.refl _ _ _ _ _,.nil,fun _ h=> .inl h,fun _ h=>h⟩
 |a::as,as',us,I,hp,hp',G,hr,h=>by
  obtain⟨u,us',rfl,h1,h2⟩:=hr.cons_inv
  simp only[ownFL] at h
  obtain⟨v1,hp1,r1,h3⟩:=run_bind_some h
  clear h
  obtain⟨vs,hp2,r2,h4⟩:=run_bind_some h3
  clear h3
  simp only[Prog.run,Option.some.injEq,Prod.mk.injEq] at h4
  obtain⟨rfl,rfl⟩:=h4
  obtain⟨I1,G1,E1,R1,i1,l1⟩:=ownF_frz G h1 r1
  obtain⟨I2,G2,E2,R2,i2,l2⟩:=ownFL_frz G1 (h2.imp fun a u h=>Rep.mono E1 D a u h) r2
  exact⟨I2,G2,E1.trans E2,.cons (RepD.mono E2.isub (fun _ _=>rfl) _ _ R1) R2,fun b hb=>(i2 b hb).elim (i1 b) fun h=> .inr (l1 b h),fun b hb=>l1 b (l2 b hb)⟩
theorem bsl_frz (G:Gam I K m hp w){ct:TypeId}{x:Nm}{g sz off n:Nat}{a':AV}{u:Value}(hr:Rep D I m hp w (.bsl x g sz off n) u)(h:(toDat P true ct (.bsl x g sz off n)).run hp=some (a',hp')):
  ∃I',Gam I' K m hp' w∧Ext I K m hp w I' m hp' w∧RepD I' w a' u∧(∀b,I' b→I b∨LiveB m hp b)∧ ∀b,LiveB m hp' b→LiveB m hp b:=by
 simp only[toDat,Prog.run] at h
 cases hx:hp x with
 |no g'=>rw[hx] at h;simp[Prog.run] at h
 |map _ _ _ _ _=>rw[hx] at h;simp[Prog.run] at h
 |arr g' sz e' rows f=>rw[hx] at h;simp[Prog.run] at h
 |box g' cells f=>
  rw[hx] at h
  simp only[if_true] at h
  split at h
  case isFalse=>
   split at h
   case isFalse=>simp[Prog.run] at h
   rename_i hc
   obtain⟨_,rfl,hl⟩:=hc
   obtain⟨cs,hp1,r1,h2⟩:=run_bind_some h
   have ho:=G.obj x
   rw[hx] at ho
   obtain⟨b,c,us,T,mk,o1,o2,o3,o4,o5,o6⟩:=ho
   obtain⟨I1,G1,E1,R1,i1,l1⟩:=ownFL_frz G ((RepL_iff _ _).1 o4) r1
   have hcl:cs.length=cells.length:=by
    have hh:=R1.1
    have hh2:=((RepL_iff _ _).1 o4).1
    omega
   simp only[Prog.run] at h2
   cases hx1:hp1 x with
   |no g'=>rw[hx1] at h2;simp[Prog.run] at h2
   |map _ _ _ _ _=>rw[hx1] at h2;simp[Prog.run] at h2
   |arr g' sz e' rows f=>rw[hx1] at h2;simp[Prog.run] at h2
   |box g2 cells2 f2=>
    rw[hx1] at h2
    simp only at h2
    split at h2
    case isFalse=>simp[Prog.run] at h2
    rename_i hg2
    subst hg2
    simp only[Prog.run,Option.some.injEq,Prod.mk.injEq] at h2
    obtain⟨rfl,rfl⟩:=h2
    obtain⟨I2,G2,E2,hb,hb2⟩:=G1.freezeBoxC (cs:=cs) hx1 (fun b' c' us' T' mk' q1 q2=>by
     rw[o1] at q1;cases q1
     rw[o2] at q2;cases q2
     rw[hcl]
     exact(RepDL_iff _ _).2 R1)
    simp only[Rep] at hr
    obtain⟨_,_,hr⟩:=hr
    obtain⟨b',c',cap,hm,h1,⟨h2,_⟩,rfl⟩:=hr cells f hx
    rw[o1] at hm;cases hm
    obtain⟨q1,q2,q3⟩:=chunks_flat sz n (cs.drop off) (by rw[List.length_drop];omega)
    refine⟨I2,G2,E1.trans E2,?_,fun b hb=>(hb2 b hb).elim (i1 b) fun h=> .inr (l1 b h),fun b hb=>l1 b ?_⟩
    rotate_left
    ·obtain⟨z,p,hz,hm,hbz⟩:=hb
     by_cases hzx:z=x
     ·subst hzx;exact⟨z,p,by rw[hx1];rfl,hm,hbz⟩
     ·rw[upd_other _ _ hzx] at hz;exact⟨z,p,hz,hm,hbz⟩
    simp only[RepD]
    refine⟨_,cap,by rw[q3],by rw[q3];exact h1,h2,by simp,.inr ⟨b,off,((us.toList.take cells.length).drop off).take (n*sz),rfl,hb b c o1,fun j v hv=>?_,?_⟩⟩
    ·rw[cell_of_row w b (off+j) us T mk o2]
     have hv:=take_some hv
     rw[List.getElem?_drop] at hv
     simpa using take_some hv
    ·rw[RepRows_iff,q1]
     exact⟨q2,((R1.imp fun a u h=>RepD.mono E2.isub (fun _ _=>rfl) _ _ h).drop off).take _⟩
  rename_i hc
  obtain⟨rfl,hl,hdat⟩:=hc
  simp only[Prog.run,Option.some.injEq,Prod.mk.injEq] at h
  obtain⟨rfl,rfl⟩:=h
  obtain⟨I',G',E',hb,hb2⟩:=G.freezeBox' hx (fun us hus=>datL_dat hdat hus)
  obtain⟨b,c,cap,us,c1,c2,c3,rfl,c4,c5,c6,_⟩:=bslD G hx hdat hr hl
  refine⟨I',G',E',?_,hb2,?_⟩
  rotate_left
  ·intro b ⟨z,p,hz,hm,hbz⟩
   by_cases hzx:z=x
   ·subst hzx;exact⟨z,p,by rw[hx];rfl,hm,hbz⟩
   ·rw[upd_other _ _ hzx] at hz;exact⟨z,p,hz,hm,hbz⟩
  simp only[RepD]
  refine⟨_,cap,by rw[c6],by rw[c6];exact c2,c3,by simp,.inr ⟨b,off,us,rfl,hb b c c1,c4,RepRows.mono E'.isub (fun _ _=>rfl) _ _ _ c5⟩⟩
theorem toDat_frz (G:Gam I K m hp w){ct:TypeId}{a a':AV}{u:Value}(hr:Rep D I m hp w a u)(h:(toDat P true ct a).run hp=some (a',hp')):
  ∃I',Gam I' K m hp' w∧Ext I K m hp w I' m hp' w∧RepD I' w a' u:=by
 cases a with
 |sc v=>
  simp only[Rep] at hr;subst hr
  obtain⟨rfl,h2⟩:=dat_sc (J:=I) (w:=w) h
  exact⟨I,G,.refl _ _ _ _ _,h2⟩
 |sl f sz rows=>
  simp only[toDat,Prog.run,Option.some.injEq,Prod.mk.injEq] at h
  obtain⟨rfl,rfl⟩:=h
  simp only[Rep] at hr
  exact⟨I,G,.refl _ _ _ _ _,sl_false hr⟩
 |dp c o=>
  simp only[toDat,Prog.run,Option.some.injEq,Prod.mk.injEq] at h
  obtain⟨rfl,rfl⟩:=h
  simp only[Rep] at hr
  exact⟨I,G,.refl _ _ _ _ _,hr⟩
 |own x g n=>
  simp only[toDat,Prog.run] at h
  cases hx:hp x with
  |no g'=>rw[hx] at h;simp[Prog.run] at h
  |map _ _ _ _ _=>rw[hx] at h;simp[Prog.run] at h
  |box g' c f=>rw[hx] at h;simp[Prog.run] at h
  |arr g' sz e rows f=>
   rw[hx] at h
   simp only[if_true] at h
   split at h
   ·rename_i hg
    subst hg
    simp only[Prog.run,Option.some.injEq,Prod.mk.injEq] at h
    obtain⟨rfl,rfl⟩:=h
    obtain⟨I',G',E',hb⟩:=G.freeze hx
    obtain⟨_,_,hd⟩:=G.ownRows hx hr
    exact⟨I',G',E',hd I' E'.isub hb⟩
   ·simp[Prog.run] at h
 |fn f caps=>
  simp only[toDat] at h
  simp only[Rep] at hr
  obtain⟨us,rfl,hr⟩:=hr
  obtain⟨cs,hp1,r1,h2⟩:=run_bind_some h
  simp only[Prog.run,Option.some.injEq,Prod.mk.injEq] at h2
  obtain⟨rfl,rfl⟩:=h2
  obtain⟨I',G',E',R',_⟩:=capDL_frz G ((RepL_iff _ _).1 hr) r1
  exact⟨I',G',E',by simp only[RepD];exact⟨us,rfl,(RepDL_iff _ _).2 R'⟩⟩
 |bsl x g sz off n=>
  obtain⟨I',G',E',R,_⟩:=bsl_frz G hr h
  exact⟨I',G',E',R⟩
 |dmp ag ks rows=>
  simp only[toDat,Prog.run,Option.some.injEq,Prod.mk.injEq] at h
  obtain⟨rfl,rfl⟩:=h
  simp only[Rep] at hr
  exact⟨I,G,.refl _ _ _ _ _,hr⟩
 |mp x g=>
  simp only[toDat,Prog.run] at h
  cases hx:hp x with
  |no g'=>rw[hx] at h;simp[Prog.run] at h
  |box g' cells f=>rw[hx] at h;simp[Prog.run] at h
  |arr g' sz e rows f=>rw[hx] at h;simp[Prog.run] at h
  |map g' ag ks rows f=>
   rw[hx] at h
   simp only[if_true] at h
   split at h
   case isFalse=>simp[Prog.run] at h
   rename_i hg
   subst hg
   simp only[Prog.run,Option.some.injEq,Prod.mk.injEq] at h
   obtain⟨rfl,rfl⟩:=h
   obtain⟨I',G',E',hb,hb2⟩:=G.freezeMap' hx
   exact⟨I',G',E',G.mapD hx hr E'.isub hb⟩
 |any|ptr|eptr|agg|tup|vec=>simp[toDat,Prog.run] at h
theorem toDat_bor (G:Gam I K m hp w){ct:TypeId}{a a':AV}{u:Value}(hr:Rep D I m hp w a u)(h:(toDat P false ct a).run hp=some (a',hp')):
  hp'=hp∧RepD (fun b=>I b∨LiveB m hp b) w a' u:=by
 have hi: ∀b,I b→(I b∨LiveB m hp b):=fun _ h=> .inl h
 cases a with
 |sc v=>
  simp only[Rep] at hr;subst hr
  exact dat_sc h
 |sl f sz rows=>
  simp only[toDat,Prog.run,Option.some.injEq,Prod.mk.injEq] at h
  obtain⟨rfl,rfl⟩:=h
  simp only[Rep] at hr
  exact⟨rfl,RepD.mono hi (fun _ _=>rfl) _ _ (sl_false hr)⟩
 |dp c o=>
  simp only[toDat,Prog.run,Option.some.injEq,Prod.mk.injEq] at h
  obtain⟨rfl,rfl⟩:=h
  simp only[Rep] at hr
  exact⟨rfl,RepD.mono hi (fun _ _=>rfl) _ _ hr⟩
 |own x g n=>
  simp only[toDat,Prog.run] at h
  cases hx:hp x with
  |no g'=>rw[hx] at h;simp[Prog.run] at h
  |map _ _ _ _ _=>rw[hx] at h;simp[Prog.run] at h
  |box g' c f=>rw[hx] at h;simp[Prog.run] at h
  |arr g' sz e rows f=>
   rw[hx] at h
   simp only[Bool.false_eq_true,if_false] at h
   split at h
   ·rename_i hg
    subst hg
    have h':(AV.sl false sz (rows.take n),hp)=(a',hp'):=by
     split at h<;>simpa[Prog.run] using h
    simp only[Prod.mk.injEq] at h'
    obtain⟨rfl,rfl⟩:=h'
    obtain⟨_,_,hd⟩:=G.ownRows hx hr
    exact⟨rfl,hd _ hi (fun b c hc=> .inr ⟨x,(b,c),by rw[hx];rfl,hc,rfl⟩)⟩
   ·simp[Prog.run] at h
 |fn f caps=>
  simp only[toDat] at h
  simp only[Rep] at hr
  obtain⟨us,rfl,hr⟩:=hr
  obtain⟨cs,hp1,r1,h2⟩:=run_bind_some h
  simp only[Prog.run,Option.some.injEq,Prod.mk.injEq] at h2
  obtain⟨rfl,rfl⟩:=h2
  obtain⟨e1,R'⟩:=capDL_bor G ((RepL_iff _ _).1 hr) r1
  exact⟨e1,by simp only[RepD];exact⟨us,rfl,(RepDL_iff _ _).2 R'⟩⟩
 |bsl x g sz off n=>
  simp only[toDat,Prog.run] at h
  cases hx:hp x with
  |no g'=>rw[hx] at h;simp[Prog.run] at h
  |map _ _ _ _ _=>rw[hx] at h;simp[Prog.run] at h
  |arr g' sz e' rows f=>rw[hx] at h;simp[Prog.run] at h
  |box g' cells f=>
   rw[hx] at h
   simp only[Bool.false_eq_true,if_false,false_and] at h
   split at h
   case isFalse=>simp[Prog.run] at h
   rename_i hc
   obtain⟨rfl,hl,hdat⟩:=hc
   simp only[Prog.run,Option.some.injEq,Prod.mk.injEq] at h
   obtain⟨rfl,rfl⟩:=h
   obtain⟨b,c,cap,us,c1,c2,c3,rfl,c4,c5,c6,_⟩:=bslD G hx hdat hr hl
   refine⟨rfl,?_⟩
   simp only[RepD]
   refine⟨_,cap,by rw[c6],by rw[c6];exact c2,c3,by simp,.inr ⟨b,off,us,rfl,.inr ⟨x,(b,c),by rw[hx];rfl,c1,rfl⟩,c4,RepRows.mono hi (fun _ _=>rfl) _ _ _ c5⟩⟩
 |dmp ag ks rows=>
  simp only[toDat,Prog.run,Option.some.injEq,Prod.mk.injEq] at h
  obtain⟨rfl,rfl⟩:=h
  simp only[Rep] at hr
  exact⟨rfl,RepD.mono hi (fun _ _=>rfl) _ _ hr⟩
 |mp x g=>
  simp only[toDat,Prog.run] at h
  cases hx:hp x with
  |no g'=>rw[hx] at h;simp[Prog.run] at h
  |box g' cells f=>rw[hx] at h;simp[Prog.run] at h
  |arr g' sz e rows f=>rw[hx] at h;simp[Prog.run] at h
  |map g' ag ks rows f=>
   rw[hx] at h
   simp only[Bool.false_eq_true,if_false] at h
   split at h
   case isFalse=>simp[Prog.run] at h
   rename_i hg
   subst hg
   have h':(AV.dmp ag ks rows,hp)=(a',hp'):=by
    split at h<;>simpa[Prog.run] using h
   simp only[Prod.mk.injEq] at h'
   obtain⟨rfl,rfl⟩:=h'
   exact⟨rfl,G.mapD hx hr hi (fun b c hc=> .inr ⟨x,(b,c),by rw[hx];rfl,hc,rfl⟩)⟩
 |any|ptr|eptr|agg|tup|vec=>simp[toDat,Prog.run] at h
theorem toDatL_frz : ∀{cts:List TypeId} {as as':List AV} {us:List Value} {I:Nat→Prop} {hp hp':Hp},Gam I K m hp w→AllR (Rep D I m hp w) as us→(toDatL P true cts as).run hp=some (as',hp')→
  ∃I',Gam I' K m hp' w∧Ext I K m hp w I' m hp' w∧AllR (RepD I' w) as' us
 |cts,[],as',us,I,hp,hp',G,hr,h=>by
  have:us=[]:=List.eq_nil_of_length_eq_zero (by rw[←hr.1];rfl)
  subst this
  cases cts<;>simp only[toDatL,Prog.run,Option.some.injEq,Prod.mk.injEq] at h<;>obtain⟨rfl,rfl⟩:=h<;>exact⟨I,G,.refl _ _ _ _ _,.nil⟩
 |[],a::as,as',us,I,hp,hp',G,hr,h=>by simp[toDatL,Prog.run] at h
 |ct::cts,a::as,as',us,I,hp,hp',G,hr,h=>by
  obtain⟨v,vs,rfl,h1,h2⟩:=hr.cons_inv
  simp only[toDatL] at h
  obtain⟨a1,hp1,r1,h⟩:=run_bind_some h
  obtain⟨as1,hp2,r2,h⟩:=run_bind_some h
  obtain⟨I1,G1,E1,d1⟩:=toDat_frz G h1 r1
  obtain⟨I2,G2,E2,d2⟩:=toDatL_frz G1 (h2.imp fun a u h=>Rep.mono E1 D a u h) r2
  simp only[Prog.run,Option.some.injEq,Prod.mk.injEq] at h
  obtain⟨rfl,rfl⟩:=h
  exact⟨I2,G2,E1.trans E2,.cons (RepD.mono E2.isub (fun _ _=>rfl) _ _ d1) d2⟩
theorem toDatL_bor : ∀{cts:List TypeId} {as as':List AV} {us:List Value} {hp':Hp},Gam I K m hp w→AllR (Rep D I m hp w) as us→(toDatL P false cts as).run hp=some (as',hp')→
  hp'=hp∧AllR (RepD (fun b=>I b∨LiveB m hp b) w) as' us
 |cts,[],as',us,hp',G,hr,h=>by
  have:us=[]:=List.eq_nil_of_length_eq_zero (by rw[←hr.1];rfl)
  subst this
  cases cts<;>simp only[toDatL,Prog.run,Option.some.injEq,Prod.mk.injEq] at h<;>obtain⟨rfl,rfl⟩:=h<;>exact⟨rfl,.nil⟩
 |[],a::as,as',us,hp',G,hr,h=>by simp[toDatL,Prog.run] at h
 |ct::cts,a::as,as',us,hp',G,hr,h=>by
  obtain⟨v,vs,rfl,h1,h2⟩:=hr.cons_inv
  simp only[toDatL] at h
  obtain⟨a1,hp1,r1,h⟩:=run_bind_some h
  obtain⟨as1,hp2,r2,h⟩:=run_bind_some h
  obtain⟨e1,d1⟩:=toDat_bor G h1 r1
  rw[e1] at r2
  obtain⟨e2,d2⟩:=toDatL_bor G h2 r2
  rw[e2] at h
  simp only[Prog.run,Option.some.injEq,Prod.mk.injEq] at h
  obtain⟨rfl,rfl⟩:=h
  exact⟨rfl,.cons d1 d2⟩
theorem chkC_ok (G:Gam I K m hp w){d:Nat}{a:AV}{u:Value}{z:Unit}(hr:Rep D I m hp w a u)(h:(chkC d a).run hp=some (z,hp')):hp'=hp∧Rep d I m hp w a u:=by
 have dat:isDat0 a=true→Rep d I m hp w a u:=fun hd=>by
  have h1:=datL_dat0 (cells:=[a]) (us:=[u]) (by simpa using hd) (by simp only[RepL];exact⟨u,[],rfl,hr,rfl⟩)
  simp only[RepDL] at h1
  obtain⟨v,vs,e1,h1,_⟩:=h1
  cases e1
  exact h1.rep
 unfold chkC at h
 split at h
 ·rename_i x g o
  simp only[Prog.run] at h
  cases hx:hp x with
  |no g'=>rw[hx] at h;simp[Prog.run,AObj.head] at h
  |arr g' sz e rows f=>rw[hx] at h;simp[Prog.run,AObj.head] at h
  |map g' ag ks rows f=>rw[hx] at h;simp[Prog.run,AObj.head] at h
  |box g' c f=>
   rw[hx] at h
   simp only[AObj.head] at h
   split at h
   ·rename_i hg
    simp only[Prog.run,Option.some.injEq,Prod.mk.injEq] at h
    simp only[Rep] at hr⊢
    exact⟨h.2.symm,hg.2,hr.2⟩
   ·simp[Prog.run] at h
 ·rename_i x g
  simp only[Prog.run] at h
  cases hx:hp x with
  |no g'=>rw[hx] at h;simp[Prog.run,AObj.head] at h
  |arr g' sz e rows f=>rw[hx] at h;simp[Prog.run,AObj.head] at h
  |box g' c f=>rw[hx] at h;simp[Prog.run,AObj.head] at h
  |map g' ag ks rows f=>
   rw[hx] at h
   simp only[AObj.head] at h
   split at h
   ·rename_i hg
    simp only[Prog.run,Option.some.injEq,Prod.mk.injEq] at h
    simp only[Rep] at hr⊢
    exact⟨h.2.symm,hg.2,hr.2⟩
   ·simp[Prog.run] at h
 ·split at h
  ·rename_i hd
   simp only[Prog.run,Option.some.injEq,Prod.mk.injEq] at h
   exact⟨h.2.symm,dat hd⟩
  ·simp[Prog.run] at h
theorem chkCs_ok {d:Nat}: ∀{as:List AV} {us:List Value} {z:Unit} {hp':Hp},Gam I K m hp w→AllR (Rep D I m hp w) as us→(chkCs d as).run hp=some (z,hp')→hp'=hp∧AllR (Rep d I m hp w) as us
 |[],us,z,hp',G,hr,h=>by
  simp only[chkCs,Prog.run,Option.some.injEq,Prod.mk.injEq] at h
  have:us=[]:=List.eq_nil_of_length_eq_zero (by rw[←hr.1];rfl)
  subst this
  exact⟨h.2.symm,.nil⟩
 |a::as,us,z,hp',G,hr,h=>by
  obtain⟨u,us',rfl,h1,h2⟩:=hr.cons_inv
  simp only[chkCs] at h
  obtain⟨_,hp1,r1,h3⟩:=run_bind_some h
  obtain⟨e1,R1⟩:=chkC_ok G h1 r1
  rw[e1] at h3
  obtain⟨e2,R2⟩:=chkCs_ok G h2 h3
  exact⟨e2,.cons R1 R2⟩
theorem settle_ok (G:Gam I K m hp w){y:Nm}{ct:TypeId}{a a':AV}{u:Value}(hr:Rep D I m hp w a u)(h:(settle P y ct a).run hp=some (a',hp')):
  ∃I' m',Gam I' K m' hp' w∧Ext I K m hp w I' m' hp' w∧Rep y.d I' m' hp' w a' u∧u.oneCell'=true:=by
 cases a with
 |sc v=>
  simp only[Rep] at hr;subst hr
  unfold settle at h
  split at h
  ·rename_i heq
   simp only[AV.sc.injEq] at heq
   subst heq
   split at h
   ·rename_i e he
    simp only[Prog.run,Option.some.injEq,Prod.mk.injEq] at h
    obtain⟨rfl,rfl⟩:=h
    obtain⟨G',E'⟩:=G.virt y (P.cellsOf e) e
    refine⟨I,_,G',E',?_,rfl⟩
    simp only[Rep]
    refine⟨Nat.le_refl _,by rw[upd_same];exact Nat.le_refl _,fun sz e' rows fz hx=>?_⟩
    rw[upd_same] at hx
    cases hx
    exact⟨Nat.le_refl _,.inl ⟨upd_same _ _ _,trivial,trivial⟩⟩
   ·simp[Prog.run] at h
  ·rename_i v' _ heq
   simp only[AV.sc.injEq] at heq
   subst heq
   split at h
   ·rename_i hv
    simp only[Prog.run,Option.some.injEq,Prod.mk.injEq] at h
    obtain⟨rfl,rfl⟩:=h
    exact⟨I,m,G,.refl _ _ _ _ _,by simp only[Rep],hv⟩
   ·simp[Prog.run] at h
  all_goals first|(simp[Prog.run] at h;done)|(rename_i heq;simp at heq;done)
 |sl f sz rows=>
  simp only[settle,Prog.run,Option.some.injEq,Prod.mk.injEq] at h
  obtain⟨rfl,rfl⟩:=h
  simp only[Rep] at hr
  exact⟨I,m,G,.refl _ _ _ _ _,hr.rep,hr.one⟩
 |dp c o=>
  simp only[settle,Prog.run,Option.some.injEq,Prod.mk.injEq] at h
  obtain⟨rfl,rfl⟩:=h
  simp only[Rep] at hr
  exact⟨I,m,G,.refl _ _ _ _ _,hr.rep,hr.one⟩
 |own x g n=>
  simp only[settle,Prog.run] at h
  cases hx:hp x with
  |no g'=>rw[hx] at h;simp[Prog.run] at h
  |map _ _ _ _ _=>rw[hx] at h;simp[Prog.run] at h
  |box g' c f=>rw[hx] at h;simp[Prog.run] at h
  |arr g' sz e rows f=>
   rw[hx] at h
   simp only at h
   split at h
   ·rename_i hg
    subst hg
    obtain⟨_,ho,hd⟩:=G.ownRows hx hr
    split at h
    ·rename_i hxy
     subst hxy
     simp only[Prog.run,Option.some.injEq,Prod.mk.injEq] at h
     obtain⟨rfl,rfl⟩:=h
     simp only[Rep] at hr
     exact⟨I,m,G,.refl _ _ _ _ _,by simp only[Rep];exact⟨Nat.le_refl _,hr.2⟩,ho⟩
    ·rename_i hxy
     split at h
     ·rename_i hc
      obtain⟨rfl,rfl⟩:=hc
      simp only[Prog.run,Option.some.injEq,Prod.mk.injEq,upd_other _ _ (Ne.symm hxy)] at h
      obtain⟨rfl,rfl⟩:=h
      obtain⟨G',E'⟩:=G.move hxy hx
      refine⟨I,_,G',E',?_,ho⟩
      simp only[Rep] at hr⊢
      obtain⟨_,_,hr⟩:=hr
      obtain⟨_,hr⟩:=hr sz e rows false hx
      refine⟨Nat.le_refl _,by rw[upd_same];exact Nat.le_refl _,fun sz' e' rows' fz hx'=>?_⟩
      rw[upd_same] at hx'
      cases hx'
      exact⟨Nat.le_refl _,by rw[upd_same];exact hr⟩
     ·simp only[Prog.run,Option.some.injEq,Prod.mk.injEq] at h
      obtain⟨rfl,rfl⟩:=h
      obtain⟨I',G',E',hb⟩:=G.freeze hx
      exact⟨I',m,G',E',(hd I' E'.isub hb).rep,ho⟩
   ·simp[Prog.run] at h
 |fn f caps=>
  simp only[settle] at h
  simp only[Rep] at hr
  obtain⟨us,rfl,hr⟩:=hr
  obtain⟨_,hp1,r1,h2⟩:=run_bind_some h
  simp only[Prog.run,Option.some.injEq,Prod.mk.injEq] at h2
  obtain⟨rfl,rfl⟩:=h2
  obtain⟨e1,R1⟩:=chkCs_ok G ((RepL_iff _ _).1 hr) r1
  subst e1
  exact⟨I,m,G,.refl _ _ _ _ _,by simp only[Rep];exact⟨us,rfl,(RepL_iff _ _).2 R1⟩,rfl⟩
 |ptr x g o=>
  simp only[settle,Prog.run] at h
  cases hx:hp x with
  |no g'=>rw[hx] at h;simp[Prog.run,AObj.head] at h
  |map _ _ _ _ _=>rw[hx] at h;simp[Prog.run,AObj.head] at h
  |arr g' sz e rows f=>rw[hx] at h;simp[Prog.run,AObj.head] at h
  |box g' c f=>
   rw[hx] at h
   simp only[AObj.head] at h
   split at h
   ·rename_i hg
    obtain⟨rfl,hd⟩:=hg
    simp only[Prog.run,Option.some.injEq,Prod.mk.injEq] at h
    obtain⟨rfl,rfl⟩:=h
    simp only[Rep] at hr
    obtain⟨b,c',_,rfl⟩:=hr.2.2 c f hx
    refine⟨I,m,G,.refl _ _ _ _ _,?_,rfl⟩
    simp only[Rep]
    exact⟨hd,hr.2⟩
   ·simp[Prog.run] at h
 |bsl x g sz o n=>
  simp only[settle,Prog.run] at h
  cases hx:hp x with
  |no g'=>rw[hx] at h;simp[Prog.run,AObj.head] at h
  |arr g' sz e rows f=>rw[hx] at h;simp[Prog.run,AObj.head] at h
  |map g' ag ks rows f=>rw[hx] at h;simp[Prog.run,AObj.head] at h
  |box g' c f=>
   rw[hx] at h
   simp only[AObj.head] at h
   split at h
   ·rename_i hg
    obtain⟨rfl,hd⟩:=hg
    simp only[Prog.run,Option.some.injEq,Prod.mk.injEq] at h
    obtain⟨rfl,rfl⟩:=h
    simp only[Rep] at hr
    obtain⟨b,c',cap,_,_,_,rfl⟩:=hr.2.2 c f hx
    refine⟨I,m,G,.refl _ _ _ _ _,?_,rfl⟩
    simp only[Rep]
    exact⟨hd,hr.2⟩
   ·simp[Prog.run] at h
 |dmp ag ks rows=>
  simp only[settle,Prog.run,Option.some.injEq,Prod.mk.injEq] at h
  obtain⟨rfl,rfl⟩:=h
  simp only[Rep] at hr
  exact⟨I,m,G,.refl _ _ _ _ _,hr.rep,hr.one⟩
 |mp x g=>
  simp only[settle,Prog.run] at h
  cases hx:hp x with
  |no g'=>rw[hx] at h;simp[Prog.run,AObj.head] at h
  |arr g' sz e rows f=>rw[hx] at h;simp[Prog.run,AObj.head] at h
  |box g' c f=>rw[hx] at h;simp[Prog.run,AObj.head] at h
  |map g' ag ks rows f=>
   rw[hx] at h
   simp only[AObj.head] at h
   split at h
   ·rename_i hg
    obtain⟨rfl,hd⟩:=hg
    simp only[Prog.run,Option.some.injEq,Prod.mk.injEq] at h
    obtain⟨rfl,rfl⟩:=h
    simp only[Rep] at hr
    obtain⟨b,c',_,rfl⟩:=hr.2.2 ag ks rows f hx
    refine⟨I,m,G,.refl _ _ _ _ _,?_,rfl⟩
    simp only[Rep]
    exact⟨hd,hr.2⟩
   ·simp[Prog.run] at h
 |any|eptr|agg|tup|vec=>simp[settle,Prog.run] at h
theorem settleL_ok {d i:Nat}: ∀{off:Nat} {cts:List TypeId} {as as':List AV} {us:List Value} {I:Nat→Prop} {m:Mp} {hp hp':Hp},Gam I K m hp w→AllR (Rep D I m hp w) as us→(settleL P d i off cts as).run hp=some (as',hp')→
  ∃I' m',Gam I' K m' hp' w∧Ext I K m hp w I' m' hp' w∧AllR (Rep d I' m' hp' w) as' us∧ ∀u∈us,u.oneCell'=true
 |off,cts,[],as',us,I,m,hp,hp',G,hr,h=>by
  have:us=[]:=List.eq_nil_of_length_eq_zero (by rw[←hr.1];rfl)
  subst this
  cases cts<;>simp only[settleL,Prog.run,Option.some.injEq,Prod.mk.injEq] at h<;>obtain⟨rfl,rfl⟩:=h<;>exact⟨I,m,G,.refl _ _ _ _ _,.nil,by simp⟩
 |off,[],a::as,as',us,I,m,hp,hp',G,hr,h=>by simp[settleL,Prog.run] at h
 |off,ct::cts,a::as,as',us,I,m,hp,hp',G,hr,h=>by
  obtain⟨v,vs,rfl,h1,h2⟩:=hr.cons_inv
  simp only[settleL] at h
  obtain⟨a1,hp1,r1,h⟩:=run_bind_some h
  obtain⟨as1,hp2,r2,h⟩:=run_bind_some h
  obtain⟨I1,m1,G1,E1,d1,o1⟩:=settle_ok G h1 r1
  obtain⟨I2,m2,G2,E2,d2,o2⟩:=settleL_ok G1 (h2.imp fun a u h=>Rep.mono E1 D a u h) r2
  simp only[Prog.run,Option.some.injEq,Prod.mk.injEq] at h
  obtain⟨rfl,rfl⟩:=h
  refine⟨I2,m2,G2,E1.trans E2,.cons (Rep.mono E2 _ _ _ d1) d2,fun u hu=>?_⟩
  rcases List.mem_cons.1 hu with rfl|hu
  ·exact o1
  ·exact o2 u hu
/-! ### handed over -/
def RepH (P:Program)(I K:Nat→Prop)(w:World)(ct:TypeId)(a:AV)(u:Value)(bs:List Nat):Prop:=
 match a with
 | .vec sz rows=>(rows=[]∧u= .slice none 0 0∧bs=[])∨ ∃b cap us mk e,bs=[b]∧u= .slice (some ⟨b,0,none⟩) rows.length cap∧slel P ct=some e∧w.heap[b]?=some (.cells us e mk)∧
   NoMark us mk∧us.size=cap*sz∧rows.length≤cap∧cap≤maxLen∧RepRows I w sz rows (us.toList.take (rows.length*sz))∧ ¬I b∧ ¬K b
 |a=>bs=[]∧RepD I w a u
def RepHL (P:Program)(I K:Nat→Prop)(w:World):List TypeId→List AV→List Value→List Nat→Prop
 |_,[],us,bs=>us=[]∧bs=[]
 |[],_::_,_,_=>False
 |t::ts,a::as,us,bs=> ∃u us' b1 b2,us=u::us'∧bs=b1++b2∧RepH P I K w t a u b1∧RepHL P I K w ts as us' b2
theorem RepH.mono {I':Nat→Prop}(hi: ∀b,I b→I' b){bs:List Nat}(hn: ∀b∈bs,¬I b→ ¬I' b){ct:TypeId}{a:AV}{u:Value}(h:RepH P I K w ct a u bs):RepH P I' K w ct a u bs:=by
 cases a with
 |vec sz rows=>
  rcases h with h|⟨b,cap,us,mk,e,h1,h2,h3,h4,h5,h6,h7,h8,h9,h10,h11⟩
  ·exact .inl h
  ·exact .inr ⟨b,cap,us,mk,e,h1,h2,h3,h4,h5,h6,h7,h8,RepRows.mono hi (fun _ _=>rfl) _ _ _ h9,hn b (by rw[h1];simp) h10,h11⟩
 |_=>exact⟨h.1,RepD.mono hi (fun _ _=>rfl) _ _ h.2⟩
theorem handCell_ok (G:Gam I K m hp w){ct:TypeId}{a a':AV}{u:Value}(hr:Rep D I m hp w a u)(h:(handCell P ct a).run hp=some (a',hp')):
  ∃I' bs,Gam I' K m hp' w∧Ext I K m hp w I' m hp' w∧RepH P I' K w ct a' u bs∧(∀b,I' b→I b∨LiveB m hp b)∧(∀b∈bs,LiveB m hp b∧ ¬LiveB m hp' b)∧(∀b,LiveB m hp' b→LiveB m hp b)∧bs.Nodup:=by
 have same: ∀(a':AV) (u:Value),RepD I w a' u→ ∃I' bs,Gam I' K m hp w∧Ext I K m hp w I' m hp w∧RepH P I' K w ct a' u bs∧(∀b,I' b→I b∨LiveB m hp b)∧(∀b∈bs,LiveB m hp b∧ ¬LiveB m hp b)∧(∀b,LiveB m hp b→LiveB m hp b)∧bs.Nodup:=
  fun a' u hd=>⟨I,[],G,.refl _ _ _ _ _,by cases a'<;>first|exact⟨rfl,hd⟩|simp[RepD] at hd,fun _ h=> .inl h,by simp,fun _ h=>h,by simp⟩
 cases a with
 |sc v=>
  simp only[Rep] at hr;subst hr
  unfold handCell at h
  split at h
  ·rename_i heq
   simp only[AV.sc.injEq] at heq
   subst heq
   split at h
   ·simp only[Prog.run,Option.some.injEq,Prod.mk.injEq] at h
    obtain⟨rfl,rfl⟩:=h
    exact⟨I,[],G,.refl _ _ _ _ _,.inl ⟨rfl,rfl,rfl⟩,fun _ h=> .inl h,by simp,fun _ h=>h,by simp⟩
   ·simp[Prog.run] at h
  ·rename_i v' _ heq
   simp only[AV.sc.injEq] at heq
   subst heq
   split at h
   ·rename_i hv
    simp only[Prog.run,Option.some.injEq,Prod.mk.injEq] at h
    obtain⟨rfl,rfl⟩:=h
    exact same _ _ (by simp only[RepD];exact⟨trivial,hv⟩)
   ·simp[Prog.run] at h
  all_goals first|(simp[Prog.run] at h;done)|(rename_i heq;simp at heq;done)
 |sl f sz rows=>
  simp only[handCell,Prog.run,Option.some.injEq,Prod.mk.injEq] at h
  obtain⟨rfl,rfl⟩:=h
  simp only[Rep] at hr
  exact same _ _ (sl_false hr)
 |dp c o=>
  simp only[handCell,Prog.run,Option.some.injEq,Prod.mk.injEq] at h
  obtain⟨rfl,rfl⟩:=h
  simp only[Rep] at hr
  exact same _ _ hr
 |own x g n=>
  simp only[handCell,Prog.run] at h
  cases hx:hp x with
  |no g'=>rw[hx] at h;simp[Prog.run] at h
  |map _ _ _ _ _=>rw[hx] at h;simp[Prog.run] at h
  |box g' c f=>rw[hx] at h;simp[Prog.run] at h
  |arr g' sz e rows f=>
   rw[hx] at h
   simp only at h
   split at h
   ·rename_i hg
    subst hg
    obtain⟨hn,ho,hd⟩:=G.ownRows hx hr
    split at h
    ·rename_i hc
     obtain⟨rfl,rfl,hsl⟩:=hc
     simp only[Prog.run,Option.some.injEq,Prod.mk.injEq] at h
     obtain⟨rfl,rfl⟩:=h
     obtain⟨G',E'⟩:=G.kill x (g:=g'+1) (by rw[hx];simp[AObj.gen])
     have hlive: ∀b,LiveB m (upd hp x (.no (g'+1))) b→LiveB m hp b:=fun b ⟨z,p,hz,hm,hb⟩=>by
      by_cases hzx:z=x
      ·subst hzx;rw[upd_same] at hz;simp[AObj.live] at hz
      ·rw[upd_other _ _ hzx] at hz;exact⟨z,p,hz,hm,hb⟩
     have hobj:=G.obj x
     rw[hx] at hobj
     simp only[Rep] at hr
     obtain⟨_,_,hr⟩:=hr
     obtain⟨_,hr⟩:=hr sz e rows false hx
     rcases hr with⟨h0,rfl,h1⟩|⟨b,cap,hm,rfl⟩
     ·exact⟨I,[],G',E',.inl ⟨List.eq_nil_of_length_eq_zero h1,rfl,rfl⟩,fun _ h=> .inl h,by simp,hlive,by simp⟩
     ·rcases hobj with⟨h1,h2⟩|⟨b',cap',us,mk,h1,h2,h3,h4,h5,h6,h7,h8,h9⟩
      ·rw[h1] at hm;cases hm
      ·rw[h1] at hm;cases hm
       refine⟨I,[b],G',E',.inr ⟨b,cap,us,mk,e,rfl,rfl,hsl,h2,h3,h4,h5,h6,h7,h9 rfl⟩,fun _ h=> .inl h,?_,hlive,by simp⟩
       intro b' hb'
       simp only[List.mem_singleton] at hb'
       subst hb'
       refine⟨⟨x,(b',cap),by rw[hx];rfl,h1,rfl⟩,fun⟨z,p,hz,hmz,hbz⟩=>?_⟩
       by_cases hzx:z=x
       ·subst hzx;rw[upd_same] at hz;simp[AObj.live] at hz
       ·rw[upd_other _ _ hzx] at hz
        exact hzx (G.inj z x p (b',cap) hz (by rw[hx];rfl) hmz h1 hbz)
    ·simp only[Prog.run,Option.some.injEq,Prod.mk.injEq] at h
     obtain⟨rfl,rfl⟩:=h
     obtain⟨I',G',E',hb⟩:=G.freeze' hx
     obtain⟨hb1,hb2⟩:=hb
     refine⟨I',[],G',E',⟨rfl,hd I' E'.isub hb1⟩,hb2,by simp,?_,by simp⟩
     intro b ⟨z,p,hz,hm,hbz⟩
     by_cases hzx:z=x
     ·subst hzx;exact⟨z,p,by rw[hx];rfl,hm,hbz⟩
     ·rw[upd_other _ _ hzx] at hz;exact⟨z,p,hz,hm,hbz⟩
   ·simp[Prog.run] at h
 |fn f caps=>
  simp only[handCell] at h
  simp only[Rep] at hr
  obtain⟨us,rfl,hr⟩:=hr
  obtain⟨cs,hp1,r1,h2⟩:=run_bind_some h
  simp only[Prog.run,Option.some.injEq,Prod.mk.injEq] at h2
  obtain⟨rfl,rfl⟩:=h2
  obtain⟨I',G',E',R',i1,l1⟩:=capDL_frz G ((RepL_iff _ _).1 hr) r1
  exact⟨I',[],G',E',⟨rfl,by simp only[RepD];exact⟨us,rfl,(RepDL_iff _ _).2 R'⟩⟩,i1,by simp,l1,by simp⟩
 |dmp ag ks rows=>
  simp only[handCell,Prog.run,Option.some.injEq,Prod.mk.injEq] at h
  obtain⟨rfl,rfl⟩:=h
  simp only[Rep] at hr
  exact same _ _ hr
 |mp x g=>
  simp only[handCell,Prog.run] at h
  cases hx:hp x with
  |no g'=>rw[hx] at h;simp[Prog.run] at h
  |box g' cells f=>rw[hx] at h;simp[Prog.run] at h
  |arr g' sz e rows f=>rw[hx] at h;simp[Prog.run] at h
  |map g' ag ks rows f=>
   rw[hx] at h
   simp only at h
   split at h
   case isFalse=>simp[Prog.run] at h
   rename_i hg
   subst hg
   simp only[Prog.run,Option.some.injEq,Prod.mk.injEq] at h
   obtain⟨rfl,rfl⟩:=h
   obtain⟨I',G',E',hb,hb2⟩:=G.freezeMap' hx
   refine⟨I',[],G',E',⟨rfl,G.mapD hx hr E'.isub hb⟩,hb2,by simp,?_,by simp⟩
   intro b ⟨z,p,hz,hm,hbz⟩
   by_cases hzx:z=x
   ·subst hzx;exact⟨z,p,by rw[hx];rfl,hm,hbz⟩
   ·rw[upd_other _ _ hzx] at hz;exact⟨z,p,hz,hm,hbz⟩
 |bsl x g sz off n=>
  simp only[handCell] at h
  obtain⟨I',G',E',R,i1,l1⟩:=bsl_frz G hr h
  exact⟨I',[],G',E',by cases a'<;>first|exact⟨rfl,R⟩|simp[RepD] at R,i1,by simp,l1,by simp⟩
 |any|ptr|eptr|agg|tup|vec=>simp[handCell,Prog.run] at h
theorem handL_ok : ∀{cts:List TypeId} {as as':List AV} {us:List Value} {I:Nat→Prop} {hp hp':Hp},Gam I K m hp w→AllR (Rep D I m hp w) as us→(handL P cts as).run hp=some (as',hp')→
  ∃I' bs,Gam I' K m hp' w∧Ext I K m hp w I' m hp' w∧RepHL P I' K w cts as' us bs∧(∀b,I' b→I b∨LiveB m hp b)∧(∀b∈bs,LiveB m hp b∧ ¬LiveB m hp' b)∧(∀b,LiveB m hp' b→LiveB m hp b)∧bs.Nodup
 |cts,[],as',us,I,hp,hp',G,hr,h=>by
  have:us=[]:=List.eq_nil_of_length_eq_zero (by rw[←hr.1];rfl)
  subst this
  cases cts<;>simp only[handL,Prog.run,Option.some.injEq,Prod.mk.injEq] at h<;>obtain⟨rfl,rfl⟩:=h<;>exact⟨I,[],G,.refl _ _ _ _ _,by simp[RepHL],fun _ h=> .inl h,by simp,fun _ h=>h,by simp⟩
 |[],a::as,as',us,I,hp,hp',G,hr,h=>by simp[handL,Prog.run] at h
 |ct::cts,a::as,as',us,I,hp,hp',G,hr,h=>by
  obtain⟨v,vs,rfl,h1,h2⟩:=hr.cons_inv
  simp only[handL] at h
  obtain⟨a1,hp1,r1,h⟩:=run_bind_some h
  obtain⟨as1,hp2,r2,h⟩:=run_bind_some h
  obtain⟨I1,b1,G1,E1,d1,i1,l1,m1,n1⟩:=handCell_ok G h1 r1
  obtain⟨I2,b2,G2,E2,d2,i2,l2,m2,n2⟩:=handL_ok G1 (h2.imp fun a u h=>Rep.mono E1 D a u h) r2
  simp only[Prog.run,Option.some.injEq,Prod.mk.injEq] at h
  obtain⟨rfl,rfl⟩:=h
  refine⟨I2,b1++b2,G2,E1.trans E2,⟨v,vs,b1,b2,rfl,rfl,d1.mono E2.isub (fun b hb hn hi=>?_),d2⟩,fun b hb=>?_,fun b hb=>?_,fun b hb=>m1 b (m2 b hb),?_⟩
  ·rcases i2 b hi with hi|hi
   ·exact hn hi
   ·exact(l1 b hb).2 hi
  ·rcases i2 b hb with hb|hb
   ·exact i1 b hb
   ·exact .inr (m1 b hb)
  ·rcases List.mem_append.1 hb with hb|hb
   ·exact⟨(l1 b hb).1,fun hl=>(l1 b hb).2 (m2 b hl)⟩
   ·exact⟨m1 b (l2 b hb).1,(l2 b hb).2⟩
  ·rw[List.nodup_append]
   exact⟨n1,n2,fun b hb1 c hc hbc=>(l1 b hb1).2 (by rw[hbc];exact(l2 c hc).1)⟩
end
end
section
open Go
theorem add_plain (b o i:Nat):(⟨b,o,none⟩:Addr).add i=⟨b,o+i,none⟩:=by unfold Addr.add;split<;>simp_all
section
variable {P:Program}
theorem run_storeCells_mk (g o:Nat)(t:TypeId)(mk:Nat×Nat): ∀(vs:List Value) (i:Nat) (cur:Array Value) (w:World),w.heap[g]?=some (.cells cur t mk)→NoMark cur mk→o+i+vs.length≤cur.size→(∀v∈vs,v.oneCell'=true)→
  (storeCells ⟨g,o,none⟩ vs i).run P w= .ok () (w.setRow g (cur.toList.take (o+i)++vs++cur.toList.drop (o+i+vs.length)).toArray)
 |[],i,cur,w,hg,_,_,_=>by
  simp only[storeCells,List.append_nil,List.length_nil,Nat.add_zero,List.take_append_drop,Array.toArray_toList]
  rw[setRow_self w g cur t mk hg]
  rfl
 |v::rest,i,cur,w,hg,hm,hl,h1=>by
  have hi:o+i<cur.size:=by simp at hl;omega
  have hcell:w.cell? ⟨g,o+i,none⟩=some cur[o+i]:=by simp[World.cell?,hg,hi]
  have hfro:w.frozen? ⟨g,o+i,none⟩=false:=by
   simp only[World.frozen?,hg]
   exact hm (o+i) hi
  have hst:(store ((⟨g,o,none⟩:Addr).add i) v).run P w= .ok () (w.setRow g (cur.setIfInBounds (o+i) v)):=by
   rw[add_plain,run_store P w _ v _ (h1 v (by simp)),hcell]
   simp[hfro,setCell_eq_setRow w g (o+i) cur t mk v hg]
  have ih:=run_storeCells_mk g o t mk rest (i+1) (cur.setIfInBounds (o+i) v) (w.setRow g (cur.setIfInBounds (o+i) v)) (setRow_heap w g cur _ t _ hg) (fun j hj=>hm j (by simpa using hj)) (by simp at hl⊢;omega) (fun x hx=>h1 x (by simp[hx]))
  simp only[storeCells,Sem.run_bind,hst,Result.andThen_ok,ih,setRow_setRow]
  congr 3
  have e:=list_seg_step cur.toList (o+i) v rest (by simp at hl⊢;omega)
  simpa[Array.toList_setIfInBounds,Nat.add_assoc] using e
structure Src (P:Program)(w:World)(size n:Nat)(x:Value)(news:List Value):Prop where
 len: ∀w',(Builtin.lenOf x).run P w'= .ok n w'
 first: ∀w':World,w'.heap=w.heap→(Builtin.firstCells size n x).run P w'= .ok news.toArray w'
 length:news.length=n*size
def notInt (P:Program)(u:TypeId):Prop:=(∃e,P.underlying u=some (.slice e))∨P.underlying u=some .string
section
variable (w:World)(t u ty e:TypeId)(i:TypeInfo)(z:Value)(ht:P.underlying t=some (.slice e))(hu:notInt P u)(hi:P.info? e=some i)(hz:i.zero=some z)
include ht hu hi
theorem append_room (g sLen sCap:Nat)(cur:Array Value){T:TypeId}(mk:Nat×Nat)(hg:w.heap[g]?=some (.cells cur T mk))(hm:NoMark cur mk)
  (x:Value) (m:Nat) (news:List Value) (hs:Src P w i.size m x news) (h1: ∀v∈news,v.oneCell'=true)
  (hroom:sLen+m≤sCap) (hfit:sLen*i.size+news.length≤cur.size):
  (Builtin.append_ #[t,u] ty #[.slice (some ⟨g,0,none⟩) sLen sCap,x]).run P w=
   .ok (.slice (some ⟨g,0,none⟩) (sLen+m) sCap) (w.setRow g (cur.toList.take (sLen*i.size)++news++cur.toList.drop (sLen*i.size+news.length)).toArray):=by
 have hst:=run_storeCells_mk (P:=P) g (sLen*i.size) T mk news 0 cur w hg hm (by simpa using hfit) h1
 simp only[Nat.add_zero] at hst
 have hf:=hs.first w rfl
 have hl:=hs.len w
 rcases hu with⟨e',hu⟩|hu<;>simp[Builtin.append_,run_underlying ht,run_underlying hu,sizeOf,typeInfo,hi,hl,hroom,hf,add_plain,hst]
include hz
theorem append_grow (b:Addr)(sLen sCap:Nat)(olds:List Value)(hlo:olds.length=sLen*i.size)(holds: ∀j v,olds[j]?=some v→w.cell? (b.add j)=some v)
  (x:Value) (n:Nat) (news:List Value) (hs:Src P w i.size n x news)
  (hg:sCap<sLen+n) (h63:((sLen+n:Nat):Int)≤9223372036854775807) (hfit:Builtin.nextslicecap (sLen+n) sCap*i.bytes≤281474976710656):
  (Builtin.append_ #[t,u] ty #[.slice (some b) sLen sCap,x]).run P w=
   .ok (.slice (some ⟨w.heap.size,0,none⟩) (sLen+n) (grownCap w (sLen+n) sCap e))
    (w.drew.alloc (.cells (olds.toArray++news.toArray++Builtin.zeroCells z.cells (grownCap w (sLen+n) sCap e - (sLen+n))) e)):=by
 have hn: ¬(sLen+n≤sCap):=by omega
 have h63': ¬(9223372036854775807<((sLen:Int)+(n:Int))):=by omega
 have h48': ¬(281474976710656<Builtin.nextslicecap (sLen+n) sCap*i.bytes):=by omega
 have hf:=hs.first w.drew rfl
 have hl:=hs.len w
 have hfo:=run_firstCells_some (P:=P) w.drew i.size sLen b sLen sCap olds hlo (by simpa using holds)
 rcases hu with⟨e',hu⟩|hu<;>simp[Builtin.append_,run_underlying ht,run_underlying hu,sizeOf,typeInfo,zeroValue,hi,hz,hl,hn,h63',h48',Question.forced,hf,hfo,newRow,grownCap]<;>(congr 2;apply Array.ext';simp[List.append_assoc])
theorem append_nil (x:Value)(n:Nat)(news:List Value)(hs:Src P w i.size n x news)(h0:0<n)(h63:(n:Int)≤9223372036854775807)(h48:n*i.bytes≤281474976710656):
  (Builtin.append_ #[t,u] ty #[.slice none 0 0,x]).run P w=
   .ok (.slice (some ⟨w.heap.size,0,none⟩) n (grownCap w n 0 e)) (w.drew.alloc (.cells (news.toArray++Builtin.zeroCells z.cells (grownCap w n 0 e - n)) e)):=by
 have hn:n≠0:=by omega
 have h63': ¬(9223372036854775807<(n:Int)):=by omega
 have h48': ¬(281474976710656<Builtin.nextslicecap n 0*i.bytes):=by rw[nextslicecap_zero h0];omega
 have hf:=hs.first w.drew rfl
 have hl:=hs.len w
 rcases hu with⟨e',hu⟩|hu<;>simp[Builtin.append_,run_underlying ht,run_underlying hu,sizeOf,typeInfo,zeroValue,hi,hz,hl,hn,h63',h48',Question.forced,run_firstCells_none,hf,newRow,grownCap]
omit hz in
theorem append_nil0 (x:Value)(hs:Src P w i.size 0 x []):(Builtin.append_ #[t,u] ty #[.slice none 0 0,x]).run P w= .ok (.slice none 0 0) w:=by
 have hf:=hs.first w rfl
 have hl:=hs.len w
 rcases hu with⟨e',hu⟩|hu<;>simp[Builtin.append_,run_underlying ht,run_underlying hu,sizeOf,typeInfo,hi,hl,hf]
end
theorem run_loadVar_ok (w:World)(t:TypeId)(b o:Nat)(i:TypeInfo)(hi:P.info? t=some i):
  (isAggB P t=true→ ∀us:List Value,us.length=i.size→CellsAt w b o us→(loadVar t ⟨b,o,none⟩).run P w= .ok (.agg ⟨us⟩) w)∧
  (isAggB P t=false→(P.underlying t).isSome→ ∀u,w.cell? ⟨b,o,none⟩=some u→(loadVar t ⟨b,o,none⟩).run P w= .ok u w):=by
 constructor
 ·intro ha us hl hc
  have hcl:=run_loadCells_list (P:=P) w ⟨b,o,none⟩ us (fun j v hv=>by rw[add_plain];exact hc j v hv)
  rw[hl] at hcl
  unfold isAggB at ha
  cases hd:P.underlying t with
  |none=>simp[hd] at ha
  |some d=>cases d<;>simp[hd] at ha<;>simp[loadVar,isAgg,run_underlying hd,sizeOf,typeInfo,hi,hcl]
 ·intro ha hs u hu
  unfold isAggB at ha
  cases hd:P.underlying t with
  |none=>simp[hd] at hs
  |some d=>cases d<;>simp[hd] at ha<;>simp[loadVar,isAgg,run_underlying hd,load,Sem.run,hu]
theorem run_storeVar_ok (w:World)(t:TypeId)(b o:Nat)(i:TypeInfo)(hi:P.info? t=some i)(v:Value)(cur:Array Value)(T:TypeId)(mk:Nat×Nat)
  (hg:w.heap[b]?=some (.cells cur T mk)) (hm:NoMark cur mk) (hsz:v.cells.size=i.size) (hl:o+v.cells.size≤cur.size) (h1: ∀u∈v.cells.toList,u.oneCell'=true):
  (storeVar t ⟨b,o,none⟩ v).run P w= .ok () (w.setRow b (cur.toList.take o++v.cells.toList++cur.toList.drop (o+v.cells.size)).toArray):=by
 have hst:=run_storeCells_mk (P:=P) b o T mk v.cells.toList 0 cur w hg hm (by simpa using hl) h1
 simp only[Nat.add_zero] at hst
 simp[storeVar,sizeOf,typeInfo,hi,hsz,hst]
end
section
variable {I K:Nat→Prop}{m:Mp}{hp hp':Hp}{w:World}{k:Nat}
mutual
theorem Rep.depth {D D':Nat} (hd:D≤D'): ∀(a:AV) (u:Value),Rep D I m hp w a u→Rep D' I m hp w a u
 | .any,_,_=>by simp[Rep]
 | .sc v,u,h=>by simpa[Rep] using h
 | .sl full sz rows,u,h=>by simpa only[Rep] using h
 | .dp cells off,u,h=>by simpa only[Rep] using h
 | .own ..,_,h=>by simp only[Rep] at h⊢;exact⟨Nat.le_trans h.1 hd,h.2⟩
 | .ptr ..,_,h=>by simp only[Rep] at h⊢;exact⟨Nat.le_trans h.1 hd,h.2⟩
 | .eptr ..,_,h=>by simp only[Rep] at h⊢;exact⟨Nat.le_trans h.1 hd,h.2⟩
 | .bsl ..,_,h=>by simp only[Rep] at h⊢;exact⟨Nat.le_trans h.1 hd,h.2⟩
 | .mp ..,_,h=>by simp only[Rep] at h⊢;exact⟨Nat.le_trans h.1 hd,h.2⟩
 | .dmp ..,u,h=>by simpa only[Rep] using h
 | .agg cs,u,h=>by
  simp only[Rep] at h⊢
  obtain⟨us,hu,h⟩:=h
  exact⟨us,hu,RepL.depth hd cs us h⟩
 | .tup cs,u,h=>by
  simp only[Rep] at h⊢
  obtain⟨us,hu,h⟩:=h
  exact⟨us,hu,RepL.depth hd cs us h⟩
 | .fn f cs,u,h=>by
  simp only[Rep] at h⊢
  obtain⟨us,hu,h⟩:=h
  exact⟨us,hu,RepL.depth hd cs us h⟩
 | .vec ..,_,h=>by simp[Rep] at h
theorem RepL.depth {D D':Nat} (hd:D≤D'): ∀(as:List AV) (us:List Value),RepL D I m hp w as us→RepL D' I m hp w as us
 |[],us,h=>by simpa[RepL] using h
 |a::as,us,h=>by
  simp only[RepL] at h⊢
  obtain⟨v,vs,hu,h1,h2⟩:=h
  exact⟨v,vs,hu,Rep.depth hd a v h1,RepL.depth hd as vs h2⟩
end
theorem cellsFrom_ok (G:Gam I K m hp w){n:Nat}(hn:0<n){a:AV}{u:Value}{cs:List AV}(hr:Rep k I m hp w a u)(h:(cellsFrom n a).run hp=some (cs,hp')):
  hp'=hp∧cs.length=n∧ ∃b o us,u= .pointer (some ⟨b,o,none⟩)∧CellsAt w b o us∧AllR (Rep k I m hp w) cs us:=by
 cases a with
 |ptr x g off=>
  simp only[cellsFrom,Prog.run] at h
  cases hx:hp x with
  |no g'=>rw[hx] at h;simp[Prog.run,AObj.head] at h
  |map _ _ _ _ _=>rw[hx] at h;simp[Prog.run,AObj.head] at h
  |arr g' sz e rows f=>rw[hx] at h;simp[Prog.run,AObj.head] at h
  |box g' cells f=>
   rw[hx] at h
   simp only[AObj.head] at h
   split at h
   ·rename_i hg
    obtain⟨rfl,hle⟩:=hg
    rw[run_getCs hx n off hle] at h
    simp only[Option.some.injEq,Prod.mk.injEq] at h
    obtain⟨rfl,rfl⟩:=h
    refine⟨rfl,by rw[List.length_take,List.length_drop];omega,?_⟩
    simp only[Rep] at hr
    obtain⟨hd,_,hr⟩:=hr
    obtain⟨b,c,hm,rfl⟩:=hr cells f hx
    have ho:=G.obj x
    rw[hx] at ho
    obtain⟨b',c',us,T,mk,h1,h2,h3,h4,h5,h6⟩:=ho
    rw[h1] at hm;cases hm
    refine⟨b,off,((us.toList.take cells.length).drop off).take n,rfl,fun j v hv=>?_,((((RepL_iff _ _).1 h4).drop off).take n).imp fun a u h=>h.depth hd⟩
    have hv:=take_some hv
    rw[List.getElem?_drop] at hv
    rw[cell_of_row w b (off+j) us T mk h2]
    simpa using take_some hv
   ·simp[Prog.run] at h
 |eptr x g i off=>
  simp only[cellsFrom,Prog.run] at h
  cases hx:hp x with
  |no g'=>rw[hx] at h;simp[Prog.run] at h
  |map _ _ _ _ _=>rw[hx] at h;simp[Prog.run] at h
  |box g' c f=>rw[hx] at h;simp[Prog.run] at h
  |arr g' sz e rows f=>
   rw[hx] at h
   simp only at h
   split at h
   ·rename_i hg
    subst hg
    split at h
    ·rename_i r hri
     split at h
     ·rename_i hle
      simp only[Prog.run,Option.some.injEq,Prod.mk.injEq] at h
      obtain⟨rfl,rfl⟩:=h
      refine⟨rfl,by rw[List.length_take,List.length_drop];omega,?_⟩
      simp only[Rep] at hr
      obtain⟨hd,_,hr⟩:=hr
      obtain⟨b,c,hm,rfl⟩:=hr sz e rows f hx
      have ho:=G.obj x
      rw[hx] at ho
      have hilt:i<rows.length:=(List.getElem?_eq_some_iff.1 hri).1
      rcases ho with⟨h1,h2⟩|⟨b',cap,us,mk,h1,h2,h3,h4,h5,h6,h7,h8,h9⟩
      ·rw[h1] at hm;cases hm
      ·rw[h1] at hm;cases hm
       obtain⟨he,ha⟩:=(RepRows_iff _ _).1 h7
       have hrow:=he.row hri
       have ha':=((ha.drop (i*sz)).take sz)
       rw[hrow] at ha'
       refine⟨b,i*sz+off,_,rfl,?_,((ha'.drop off).take n).imp fun a u h=>RepD.rep h⟩
       intro j v hv
       rw[List.getElem?_take] at hv
       split at hv
       ·rw[List.getElem?_drop,List.getElem?_take] at hv
        split at hv
        ·rw[List.getElem?_drop,List.getElem?_take] at hv
         split at hv
         ·rw[cell_of_row w b _ us e mk h2]
          rw[←Nat.add_assoc] at hv
          simpa using hv
         ·cases hv
        ·cases hv
       ·cases hv
     ·simp[Prog.run] at h
    ·simp[Prog.run] at h
   ·simp[Prog.run] at h
 |dp cells off=>
  simp only[cellsFrom] at h
  split at h
  ·simp only[Prog.run,Option.some.injEq,Prod.mk.injEq] at h
   obtain⟨rfl,rfl⟩:=h
   refine⟨rfl,by rw[List.length_take,List.length_drop];omega,?_⟩
   simp only[Rep,RepD] at hr
   obtain⟨b,o,us,rfl,hb,hc,hl⟩:=hr
   refine⟨b,o+off,(us.drop off).take n,rfl,fun j v hv=>?_,((((RepDL_iff _ _).1 hl).drop off).take n).imp fun a u h=>RepD.rep h⟩
   rw[List.getElem?_take] at hv
   split at hv
   ·rw[List.getElem?_drop] at hv
    have:=hc _ v hv
    rwa [←Nat.add_assoc] at this
   ·cases hv
  ·simp[Prog.run] at h
 |any|sc|sl|own|agg|tup|vec|fn|bsl|mp|dmp=>simp[cellsFrom,Prog.run] at h
theorem load_ok (P:Program)(G:Gam I K m hp w){t:TypeId}{a v:AV}{u:Value}(hr:Rep k I m hp w a u)(h:(loadP P t a).run hp=some (v,hp')):
  hp'=hp∧ ∃u',(Instr.loadAt t u).run P w= .ok u' w∧Rep k I m hp w v u':=by
 unfold loadP at h
 have hinfo:(P.underlying t).isSome=true→ ∃i,P.info? t=some i:=fun ht=>by
  cases hq:P.info? t with
  |none=>simp[Program.underlying,hq] at ht
  |some i=>exact⟨i,rfl⟩
 split at h
 ·rename_i hagg
  split at h
  ·rename_i hpos
   obtain⟨cs,hp1,r1,h2⟩:=run_bind_some h
   clear h
   obtain⟨e1,hlen,b,o,us,rfl,h1,h3⟩:=cellsFrom_ok G hpos hr r1
   simp only[Prog.run,Option.some.injEq,Prod.mk.injEq] at h2
   obtain⟨rfl,rfl⟩:=h2
   obtain⟨i,hi⟩:=hinfo (by unfold isAggB at hagg;cases hd:P.underlying t<;>simp[hd] at hagg⊢)
   have hsz:P.cellsOf t=i.size:=by simp[Program.cellsOf,hi]
   refine⟨e1,.agg ⟨us⟩,?_,?_⟩
   ·simp only[Instr.loadAt,Instr.sureAddr,Sem.run_bind,Sem.run_pure,Result.andThen_ok]
    exact(run_loadVar_ok (P:=P) w t b o i hi).1 hagg us (by rw[←h3.1,hlen,hsz]) h1
   ·simp only[Rep]
    exact⟨_,rfl,(RepL_iff _ _).2 h3⟩
  ·simp[Prog.run] at h
 ·rename_i hagg
  split at h
  ·rename_i ht
   obtain⟨i,hi⟩:=hinfo ht
   obtain⟨cs,hp1,r1,h2⟩:=run_bind_some h
   clear h
   obtain⟨e1,hlen,b,o,us,rfl,h1,h3⟩:=cellsFrom_ok G (by omega) hr r1
   split at h2
   ·rename_i v'
    simp only[Prog.run,Option.some.injEq,Prod.mk.injEq] at h2
    obtain⟨rfl,rfl⟩:=h2
    obtain⟨u',us',rfl,h4,_⟩:=h3.cons_inv
    refine⟨e1,u',?_,h4⟩
    simp only[Instr.loadAt,Instr.sureAddr,Sem.run_bind,Sem.run_pure,Result.andThen_ok]
    exact(run_loadVar_ok (P:=P) w t b o i hi).2 (by simpa using hagg) ht u' (by simpa using h1 0 u' rfl)
   ·simp[Prog.run] at h2
  ·simp[Prog.run] at h
end
end
section
open Go
section
variable {P:Program}{I K:Nat→Prop}{m:Mp}{hp hp':Hp}{w:World}{k:Nat}
theorem Gam.fresh (G:Gam I K m hp w): ¬I w.heap.size∧ ¬K w.heap.size:=⟨fun h=>Nat.lt_irrefl _ (G.ilt _ h),fun h=>Nat.lt_irrefl _ (G.klt _ h)⟩
theorem heap_new (w:World)(o:Obj):(w.alloc o).heap[w.heap.size]?=some o:=by
 show(w.heap.push o)[w.heap.size]?=some o
 simp
theorem heap_old (w:World)(o:Obj){b:Nat}(h:b<w.heap.size):(w.alloc o).heap[b]?=w.heap[b]?:=by
 show(w.heap.push o)[b]?=w.heap[b]?
 rw[Array.getElem?_push,if_neg (Nat.ne_of_lt h)]
theorem Gam.alloc (G:Gam I K m hp w){x:Nm}{o:AObj}(ob:Obj)(c:Nat)(hg:(hp x).gen<o.gen)
  (hobj: ∀w' m',w'.heap[w.heap.size]?=some ob→m' x=some (w.heap.size,c)→Ext I K m hp w I m' (upd hp x o) w'→ObjOk I K m' (upd hp x o) w' x o)
  {w1:World} (h1:w1=w.alloc ob∨w1=w.drew.alloc ob):
  Gam I K (upd m x (some (w.heap.size,c))) (upd hp x o) w1∧Ext I K m hp w I (upd m x (some (w.heap.size,c))) (upd hp x o) w1:=by
 have hW:WX I K w w1:=by
  rcases h1 with rfl|rfl
  ·exact .alloc ob G.ilt G.klt
  ·have h:=WX.alloc (w:=w.drew) ob G.ilt G.klt
   exact⟨h.keep,h.size,h.os,h.tape,h.output⟩
 have hnew:w1.heap[w.heap.size]?=some ob:=by
  rcases h1 with rfl|rfl
  ·exact heap_new w ob
  ·exact heap_new w.drew ob
 have hold: ∀b,b<w.heap.size→w1.heap[b]?=w.heap[b]?:=fun b hb=>by
  rcases h1 with rfl|rfl
  ·exact heap_old w ob hb
  ·exact heap_old w.drew ob hb
 have E:Ext I K m hp w I (upd m x (some (w.heap.size,c))) (upd hp x o) w1:= .bump hW (fun _ h=>h) hg
 refine⟨G.bump hW (fun _ h=>h) hg (hobj w1 _ hnew (upd_same _ _ _) E) (fun y _ hl q hq=>hold _ (G.blk hl hq)) (fun _ _ _ _ _ _ h=>h) ?_ (fun b hb=>Nat.lt_of_lt_of_le (G.ilt b hb) hW.size) G.ik,E⟩
 intro _ r hr y _ hl q hq e
 cases hr
 exact Nat.lt_irrefl _ (e▸G.blk hl hq)
theorem noMark0 (us:Array Value):NoMark us (0,0):=fun j _=>by simp
theorem newBox_ok {D:Nat}(G:Gam I K m hp w){i:Nat}{t:TypeId}{cells:List AV}{us:List Value}{v:AV}(hr:AllR (Rep D I m hp w) cells us)(h:(newBox P k i t cells).run hp=some (v,hp')):
  ∃I' m',Gam I' K m' hp' (w.alloc (.cells ⟨us⟩ t))∧Ext I K m hp w I' m' hp' (w.alloc (.cells ⟨us⟩ t))∧Rep k I' m' hp' (w.alloc (.cells ⟨us⟩ t)) v (.pointer (some ⟨w.heap.size,0,none⟩)):=by
 unfold newBox at h
 split at h
 ·obtain⟨cs,hp1,r1,h2⟩:=run_bind_some h
  clear h
  obtain⟨I1,m1,G1,E1,d1,_⟩:=settleL_ok G hr r1
  simp only[Prog.run,Option.some.injEq,Prod.mk.injEq] at h2
  obtain⟨rfl,rfl⟩:=h2
  obtain⟨G2,E2⟩:=G1.alloc (x:=⟨k,i,0⟩) (o:= .box ((hp1 ⟨k,i,0⟩).gen+1) cs false) (.cells ⟨us⟩ t) us.length (by simp[AObj.gen])
   (fun w' m' hb hm E=>⟨w.heap.size,us.length,⟨us⟩,t,(0,0),hm,hb,⟨noMark0 _,by simp⟩,by rw[show(⟨us⟩:Array Value).toList.take cs.length=us from take_all d1];exact(RepL_iff _ _).2 (d1.imp fun a u h=>Rep.mono E _ a u h),fun h=>(by cases h),fun _=>G1.fresh⟩) (.inl rfl)
  refine⟨I1,_,G2,E1.trans E2,?_⟩
  simp only[Rep]
  refine⟨Nat.le_refl _,by rw[upd_same];exact Nat.le_refl _,fun cells fz hx=>⟨w.heap.size,us.length,upd_same _ _ _,rfl⟩⟩
 ·simp[Prog.run] at h
theorem newArr_ok (G:Gam I K m hp w){y:Nm}(hy:y.d≤k){sz:Nat}{e:TypeId}{rows:List (List AV)}{us:List Value}{cap:Nat}{mk:Nat×Nat}{v:AV}
  (hm:NoMark ⟨us⟩ mk) (hsz:us.length=cap*sz) (hl:rows.length≤cap) (hc:cap≤maxLen) (hr:RepRows I w sz rows (us.take (rows.length*sz)))
  (h:(newArr y sz e rows).run hp=some (v,hp')) {w1:World} (h1:w1=w.alloc (.cells ⟨us⟩ e mk)∨w1=w.drew.alloc (.cells ⟨us⟩ e mk)):
  ∃m',Gam I K m' hp' w1∧Ext I K m hp w I m' hp' w1∧Rep k I m' hp' w1 v (.slice (some ⟨w.heap.size,0,none⟩) rows.length cap):=by
 simp only[newArr,Prog.run,Option.some.injEq,Prod.mk.injEq] at h
 obtain⟨rfl,rfl⟩:=h
 obtain⟨G2,E2⟩:=G.alloc (x:=y) (o:= .arr ((hp y).gen+1) sz e rows false) (.cells ⟨us⟩ e mk) cap (by simp[AObj.gen])
  (fun w' m' hb hm' E=> .inr ⟨w.heap.size,cap,⟨us⟩,mk,hm',hb,hm,by simpa using hsz,hl,hc,RepRows.mono E.isub (fun b hb=>E.keep b (.inl hb)) _ _ _ hr,fun h=>(by cases h),fun _=>G.fresh⟩) h1
 refine⟨_,G2,E2,?_⟩
 simp only[Rep]
 refine⟨hy,by rw[upd_same];exact Nat.le_refl _,fun sz' e' rows' fz hx=>?_⟩
 rw[upd_same] at hx
 cases hx
 exact⟨Nat.le_refl _,.inr ⟨_,_,upd_same _ _ _,rfl⟩⟩
theorem WX.setRow {g:Nat}{us:Array Value}(hi: ¬I g)(hk: ¬K g):WX I K w (w.setRow g us) where
 keep:=fun b hb=>setRow_other w g b us (fun e=>by subst e;exact hb.elim hi hk)
 size:=by simp[World.setRow]
 os:=rfl
 tape:=rfl
 output:=rfl
theorem seg_eq (L vs:List Value)(a off sz N:Nat)(h1:off+vs.length≤sz)(h2:a+sz≤N)(h3:N≤L.length):
  List.take N (L.take (a+off)++vs++L.drop (a+off+vs.length))=
   List.take a (L.take N)++(List.take off (List.take sz (List.drop a (L.take N)))++vs++List.drop (off+vs.length) (List.take sz (List.drop a (L.take N))))++List.drop (a+sz) (L.take N):=by
 apply List.ext_getElem?
 intro j
 simp only[List.getElem?_append,List.getElem?_take,List.getElem?_drop,List.length_take,List.length_drop,List.length_append]
 by_cases c1:j<a
 ·simp only[c1,show j<N by omega,show j<min (a+off) L.length by omega,show j<min (a+off) L.length+vs.length by omega,show j<a+off by omega,show j<min a (min N L.length) by omega,
   show j<min a (min N L.length)+(min off (min sz (min N L.length - a))+vs.length+(min sz (min N L.length - a) - (off+vs.length))) by omega,if_true]
 ·have e1:min a (min N L.length)=a:=by omega
  have e2:min sz (min N L.length - a)=sz:=by omega
  have e3:min off sz=off:=by omega
  have e4:min (a+off) L.length=a+off:=by omega
  simp only[e1,e2,e3,e4,c1,if_false]
  by_cases c2:j<a+off
  ·simp only[c2,show j<N by omega,show j<a+off+vs.length by omega,show j<a+(off+vs.length+(sz - (off+vs.length))) by omega,show j - a<off+vs.length by omega,show j - a<off by omega,show j - a<sz by omega,show a+(j - a)<N by omega,if_true]
   congr 1;omega
  ·by_cases c3:j<a+off+vs.length
   ·simp only[c2,c3,show j<N by omega,show j<a+(off+vs.length+(sz - (off+vs.length))) by omega,show j - a<off+vs.length by omega,show¬(j - a<off) by omega,if_true,if_false]
    congr 1;omega
   ·by_cases c4:j<a+sz
    ·simp only[c2,c3,show j<N by omega,show j<a+(off+vs.length+(sz - (off+vs.length))) by omega,show¬(j - a<off+vs.length) by omega,show off+vs.length+(j - a - (off+vs.length))<sz by omega,show a+(off+vs.length+(j - a - (off+vs.length)))<N by omega,if_true,if_false]
     congr 1;omega
    ·by_cases c5:j<N
     ·simp only[c2,c3,c5,show¬(j<a+(off+vs.length+(sz - (off+vs.length)))) by omega,show a+sz+(j - (a+(off+vs.length+(sz - (off+vs.length)))))<N by omega,if_true,if_false]
      congr 1;omega
     ·simp only[c5,show¬(j<a+(off+vs.length+(sz - (off+vs.length)))) by omega,show¬(a+sz+(j - (a+(off+vs.length+(sz - (off+vs.length)))))<N) by omega,if_false]
theorem store_ok (G:Gam I K m hp w){t:TypeId}{a v x:AV}{ua uv:Value}(hra:Rep k I m hp w a ua)(hrv:AllR (Rep k I m hp w) (cellsA v) uv.cells.toList)
  (h:(storeP P t a v).run hp=some (x,hp')) (hinfo:(P.info? t).isSome):
  x= .any∧ ∃w' I' m',(Instr.storeAt t ua uv).run P w= .ok () w'∧Gam I' K m' hp' w'∧Ext I K m hp w I' m' hp' w':=by
 obtain⟨i,hi⟩:=Option.isSome_iff_exists.1 hinfo
 have hcs:P.cellsOf t=i.size:=by simp[Program.cellsOf,hi]
 unfold storeP at h
 simp only at h
 split at h
 ·rename_i hlen
  split at h
  ·rename_i x g off
   obtain⟨vs',hp1,r1,h2⟩:=run_bind_some h
   clear h
   obtain⟨I1,m1,G1,E1,d1,o1⟩:=settleL_ok G hrv r1
   have hra':=Rep.mono E1 _ _ _ hra
   simp only[Prog.run] at h2
   cases hx:hp1 x with
   |no g'=>rw[hx] at h2;simp[Prog.run,AObj.head] at h2
   |map _ _ _ _ _=>rw[hx] at h2;simp[Prog.run,AObj.head] at h2
   |arr g' sz e rows f=>rw[hx] at h2;simp[Prog.run,AObj.head] at h2
   |box g' cells f=>
    rw[hx] at h2
    simp only[AObj.head] at h2
    split at h2
    ·rename_i hc
     obtain⟨rfl,rfl,hle⟩:=hc
     obtain⟨hp2,p1,p2⟩:=run_putCs vs' off cells hp1 hx hle
     rw[p1] at h2
     simp only[Option.some.injEq,Prod.mk.injEq] at h2
     obtain⟨rfl,rfl⟩:=h2
     subst p2
     refine⟨rfl,?_⟩
     simp only[Rep] at hra'
     obtain⟨hd,_,hra'⟩:=hra'
     obtain⟨b,c,hmx,rfl⟩:=hra' cells false hx
     have ho:=G1.obj x
     rw[hx] at ho
     obtain⟨b',c',us,T,mk,h1,h2,h3,h4,h5,h6⟩:=ho
     rw[h1] at hmx;cases hmx
     have h4':=(RepL_iff _ _).1 h4
     have hst:=run_storeVar_ok (P:=P) w t b off i hi uv us T mk h2 h3.1 (by have:=hrv.1;simp at this;omega) (by have:=h4'.1;have:=d1.1;simp at this;simp at*;omega) o1
     refine⟨_,I1,m1,by simp only[Instr.storeAt,Instr.sureAddr,Sem.run_bind,Sem.run_pure,Result.andThen_ok];exact hst,?_⟩
     have hk:SameKind (hp1 x) (.box g' (splice cells off vs') false):=by rw[hx];exact⟨_,_,rfl⟩
     obtain⟨hni,hnk⟩:=h6 rfl
     have E2:Ext I1 K m1 hp1 w I1 m1 (upd hp1 x (.box g' (splice cells off vs') false)) (w.setRow b (us.toList.take off++uv.cells.toList++us.toList.drop (off+uv.cells.size)).toArray):= .same (.setRow hni hnk) (fun _ h=>h) hk
     refine⟨G1.same (.setRow hni hnk) (fun _ h=>h) hk ?_ (fun y hy hl q hq=>setRow_other w b q.1 _ (fun e=>hy (G1.inj y x q (b,c) hl (by rw[hx];rfl) hq h1 e))) (fun _ _ _ _ _ _ h=>h) (fun b hb=>by have:=G1.ilt b hb;simpa[World.setRow] using this) G1.ik,E1.trans E2⟩
     refine⟨b,c,_,T,mk,h1,setRow_heap w b us _ T mk h2,⟨fun j hj=>h3.1 j ?_,by
      have hz:=h3.2
      have q1:=h4'.1
      have q2:=d1.1
      simp at q1 q2⊢;omega⟩,?_,fun h=>(by cases h),fun _=>⟨hni,hnk⟩⟩
     ·have hl:=d1.1
      have:=h4'.1
      simp at hj hl this⊢
      omega
     ·rw[RepL_iff]
      have hsp:=(h4'.imp fun a u h=>Rep.mono E2 _ a u h).splice ((d1.imp fun a u h=>Rep.depth (Nat.le_refl _) a u (Rep.mono E2 _ a u h))) off hle
      have q1:=h4'.1
      have q2:=d1.1
      have q3:=hrv.1
      have q4:=hsp.1
      have hl2:(splice cells off vs').length=cells.length:=by simp at q1 q2 q4;omega
      have hn:cells.length≤us.toList.length:=by simp at q1⊢;omega
      have ev:off+uv.cells.toList.length≤cells.length:=by simp at q2⊢;omega
      have e:=take_splice (us:=us.toList) (v:=uv.cells.toList) ev hn
      rw[hl2]
      simp only[Array.length_toList] at e
      rw[show(us.toList.take off++uv.cells.toList++us.toList.drop (off+uv.cells.size)).toArray.toList=us.toList.take off++uv.cells.toList++us.toList.drop (off+uv.cells.size) from rfl,e]
      simpa using hsp
    ·simp[Prog.run] at h2
  ·rename_i x g i' off
   obtain⟨vs',hp1,r1,h2⟩:=run_bind_some h
   clear h
   obtain⟨I1,G1,E1,d1⟩:=toDatL_frz G hrv r1
   have hra':=Rep.mono E1 _ _ _ hra
   simp only[Prog.run] at h2
   cases hx:hp1 x with
   |no g'=>rw[hx] at h2;simp[Prog.run] at h2
   |map _ _ _ _ _=>rw[hx] at h2;simp[Prog.run] at h2
   |box g' c f=>rw[hx] at h2;simp[Prog.run] at h2
   |arr g' sz e rows f=>
    rw[hx] at h2
    simp only at h2
    split at h2
    ·rename_i hc
     obtain⟨rfl,rfl⟩:=hc
     split at h2
     ·rename_i r hri
      split at h2
      ·rename_i hle
       simp only[Prog.run,Option.some.injEq,Prod.mk.injEq] at h2
       obtain⟨rfl,rfl⟩:=h2
       refine⟨rfl,?_⟩
       simp only[Rep] at hra'
       obtain⟨hd,_,hra'⟩:=hra'
       obtain⟨b,c,hmx,rfl⟩:=hra' sz e rows false hx
       have ho:=G1.obj x
       rw[hx] at ho
       have hilt:i'<rows.length:=(List.getElem?_eq_some_iff.1 hri).1
       rcases ho with⟨h1,_⟩|⟨b',cap,us,mk,h1,h2,h3,h4,h5,h6,h7,h8,h9⟩
       ·rw[h1] at hmx;cases hmx
       ·rw[h1] at hmx;cases hmx
        obtain⟨he,ha⟩:=(RepRows_iff _ _).1 h7
        have hrl:r.length=sz:=he r (List.mem_of_getElem? hri)
        have hvl:vs'.length=uv.cells.size:=by have:=d1.1;simpa using this
        have hbd:i'*sz+sz≤rows.length*sz:=by
         have:=Nat.mul_le_mul_right sz (show i'+1≤rows.length from hilt)
         rw[Nat.add_mul,Nat.one_mul] at this;exact this
        have hcapb:rows.length*sz≤us.size:=by rw[h4];exact Nat.mul_le_mul_right _ h5
        have hst:=run_storeVar_ok (P:=P) w t b (i'*sz+off) i hi uv us e mk h2 h3 (by have:=hrv.1;simp at this;omega) (by omega) d1.one
        refine⟨_,I1,m,by simp only[Instr.storeAt,Instr.sureAddr,Sem.run_bind,Sem.run_pure,Result.andThen_ok];exact hst,?_⟩
        have hk:SameKind (hp1 x) (.arr g' sz e (rows.set i' (splice r off vs')) false):=by rw[hx];exact⟨_,_,rfl,by simp⟩
        obtain⟨hni,hnk⟩:=h9 rfl
        have E2:Ext I1 K m hp1 w I1 m (upd hp1 x (.arr g' sz e (rows.set i' (splice r off vs')) false)) (w.setRow b (us.toList.take (i'*sz+off)++uv.cells.toList++us.toList.drop (i'*sz+off+uv.cells.size)).toArray):= .same (.setRow hni hnk) (fun _ h=>h) hk
        refine⟨G1.same (.setRow hni hnk) (fun _ h=>h) hk ?_ (fun y hy hl q hq=>setRow_other w b q.1 _ (fun e=>hy (G1.inj y x q (b,c) hl (by rw[hx];rfl) hq h1 e))) (fun _ _ _ _ _ _ h=>h) (fun b hb=>by have:=G1.ilt b hb;simpa[World.setRow] using this) G1.ik,E1.trans E2⟩
        refine .inr ⟨b,c,_,mk,h1,setRow_heap w b us _ e mk h2,fun j hj=>h3 j ?_,?_,by simpa using h5,h6,?_,fun h=>(by cases h),fun _=>⟨hni,hnk⟩⟩
        ·simp at hj⊢;omega
        ·simp;omega
        ·refine RepRows.mono E2.isub (fun b hb=>E2.keep b (.inl hb)) _ _ _ ((RepRows_iff _ _).2 ⟨he.set ?_,?_⟩)
         ·unfold splice;split
          ·omega
          ·simp;omega
         ·rw[flatten_set he hilt]
          have a1:=ha.take (i'*sz)
          have a2:=ha.drop (i'*sz+sz)
          have a3:=((ha.drop (i'*sz)).take sz)
          rw[he.row hri] at a3
          have a4:=a3.splice d1 off hle
          have a5:=(a1.append a4).append a2
          have e1:=seg_eq us.toList uv.cells.toList (i'*sz) off sz (rows.length*sz) (by rw[←hrl];have:=hvl;simp at this⊢;omega) hbd (by simpa using hcapb)
          rw[List.length_set]
          simp only[Array.length_toList] at e1 a5⊢
          rw[e1]
          exact a5
      ·simp[Prog.run] at h2
     ·simp[Prog.run] at h2
    ·simp[Prog.run] at h2
  ·simp[Prog.run] at h
 ·simp[Prog.run] at h
end
end
end Go.Ab
