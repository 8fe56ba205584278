/- A part of the proof: Gl, Ab1, Ab2, Ab3, Ab4, Ab5, Ab6, Ab7, Ab8. -/
import Derived.KernelRfl
import Derived.WalkKit
import Derived.Deep.Draws
set_option linter.unusedSimpArgs false
set_option linter.unusedVariables false
namespace Go.Ab
section
open Go
abbrev Bc:=@Option.some.injEq
abbrev Br:=@Prod.mk.injEq
abbrev Bs:=@List.getElem?_eq_getElem
abbrev D5:=@Nat.le_refl
abbrev Ed:=@Bool.and_eq_true
abbrev Ja:=@Option.bind_eq_some_iff
abbrev Jx:=@if_neg
abbrev Ka:=@if_pos
abbrev Kb:=@List.take_of_length_le
abbrev Kw:=@List.eq_nil_of_length_eq_zero
abbrev Ma:=@Option.map_eq_some_iff
abbrev Ng:=@List.drop_eq_getElem_cons
abbrev Nh:=@Array.getD_eq_getD_getElem?
abbrev Oh:=@List.getElem?_eq_some_iff
abbrev Qi:=@run_underlying
abbrev Rt:=@List.getElem?_cons_zero
abbrev T7:=@List.getElem?_cons_succ
abbrev T8:=@List.mem_cons_of_mem
abbrev T9:=@List.map_cons
abbrev Vc:=@List.mem_cons_self
abbrev Ve:=@Nat.le_trans
abbrev Xc:=@Array.getElem?_eq_some_iff
abbrev X1:=@Option.getD_some
abbrev X2:=@Option.isSome_iff_exists
abbrev X3:=@List.length_append
abbrev X4:=@List.getElem?_toArray
abbrev Zt:=@Bool.true_and
abbrev oW:=@decide_eq_true_eq
abbrev nU:=@List.all_eq_true
abbrev nA:=@List.mem_append
abbrev pW:=@Bool.false_eq_true
abbrev nN:=@Option.some.inj
abbrev sM:=@List.mem_of_getElem?
abbrev oY:=@List.getElem_mem
abbrev oV:=@decide_eq_false
abbrev qY:=@List.getElem?_map
abbrev mH:=@Nat.zero_add
abbrev mG:=@Sem.run_bind
abbrev sL:=@List.length_take
abbrev wO:=@List.drop_of_length_le
abbrev tI:=@List.append_assoc
abbrev tH:=@Result.andThen_ok
abbrev nT:=@List.map_nil
abbrev zB:=@List.drop_eq_nil_of_le
abbrev sK:=@decide_eq_true
abbrev sJ:=@List.mem_range
abbrev wN:=@Array.length_toList
abbrev xY:=@Nat.mul_le_mul_right
abbrev FL:=@List.getD_eq_getElem?_getD
abbrev qX:=@Int.toNat_one
abbrev FK:=@Array.getElem?_eq_getElem
abbrev vB:=@Nat.lt_succ_self
abbrev sV:=@List.mem_cons
abbrev xZ:=@List.getElem?_take
abbrev iW:=@if_true
abbrev tJ:=@Nat.add_assoc
abbrev zD:=@List.getElem?_drop
abbrev wP:=@List.length_cons
abbrev lJ:=@if_false
abbrev wD:=@Option.map_some
abbrev BA:=@Array.size_replicate
abbrev zC:=@Bool.not_eq_true'
abbrev uZ:=@List.all_cons
abbrev FI:=@List.mem_append_left
abbrev AY:=@Nat.lt_of_lt_of_le
abbrev GL:=@Classical.choose_spec
abbrev GK:=@List.mem_append_right
abbrev sI:=@Array.ext'
abbrev AE:=@Nat.le_max_right
abbrev zA:=@List.map_append
abbrev tZ:=@Nat.add_mul
abbrev AX:=@Array.size_append
abbrev AW:=@List.size_toArray
abbrev xX:=@Bool.false_and
abbrev AU:=@List.take_add_one
abbrev FH:=@List.mem_singleton
abbrev GJ:=@List.map_congr_left
abbrev AD:=@Nat.min_eq_left
abbrev AC:=@List.cons.injEq
abbrev AB:=@Nat.le_max_left
abbrev AT:=@List.length_drop
abbrev Abu:=@List.eq_nil_iff_forall_not_mem
abbrev yZ:=@Bool.and_assoc
abbrev uY:=@Nat.le_succ
abbrev yY:=@Nat.lt_irrefl
abbrev FG:=@List.cons_append
abbrev OG:=@List.replicate_succ
abbrev GP:=@of_decide_eq_true
abbrev FJ:=@Bool.eq_iff_iff
abbrev GO:=@beq_self_eq_true
abbrev GN:=@Nat.le_of_not_lt
abbrev Ab4:=@List.length_replicate
abbrev AZ:=@Bool.false_or
abbrev GM:=@Bool.or_eq_true
abbrev nM:=@wp_seq
abbrev vA:=@wp_region
abbrev Ab9:=@List.getElem?_append_right
abbrev Acb:=@List.flatten_cons
abbrev Acd:=@Array.getElem?_toList
abbrev Ace:=@List.getElem?_eq_none
abbrev Acf:=@UInt8.le_iff_toNat_le
abbrev Acg:=@List.range'_succ
abbrev Ach:=@Array.eq_empty_of_size_eq_zero
abbrev AQ:=@cell_of_row
abbrev Acj:=@List.range_eq_range'
abbrev Ack:=@List.nodup_append
abbrev Acl:=@Option.bind_assoc
abbrev Acm:=@List.nil_append
abbrev Acn:=@List.append_nil
abbrev Aco:=@List.length_map
abbrev Acp:=@IntKind.wrap_u64
abbrev Acq:=@List.take_take
abbrev Acr:=@Value.string.injEq
abbrev Acs:=@Array.mem_of_getElem?
abbrev Acu:=@List.getElem?_append_left
abbrev Acv:=@List.take_left'
abbrev Acw:=@List.mem_filter
abbrev OF:=@Nat.add_comm
abbrev Acy:=@List.ext_getElem?
abbrev Acz:=@List.getElem?_append
abbrev GI:=@getD_set_ne
abbrev Ac1:=@Array.getElem?_setIfInBounds_ne
abbrev Ac2:=@Bool.not_eq_true
abbrev Ac3:=@size_madeCells
abbrev Ac4:=@List.not_mem_nil
abbrev Ac5:=@Nat.add_zero
abbrev Ac6:=@List.map_id'
abbrev Ac7:=@Nat.lt_of_le_of_lt
abbrev Ac8:=@calls_of_wp_defers
abbrev Ac9:=@Nat.le_antisymm
abbrev Adb:=@List.length_nil
abbrev Adc:=@ByteArray.ext
abbrev Ade:=@Bool.and_self
abbrev Adf:=@Array.getElem?_append
abbrev Adg:=@List.mapM_cons
abbrev Adh:=@List.forall_mem_cons
abbrev Adi:=@Sem.run_pure
abbrev Adj:=@setRow_other
abbrev Adk:=@List.mem_map
abbrev Adl:=@Nat.mod_eq_of_lt
abbrev Adm:=@Option.bind_some
abbrev Adn:=@IntKind.wrap_u32
abbrev Ado:=@List.mem_or_eq_of_mem_set
abbrev Adp:=@List.flatten_append
abbrev Adq:=@ByteArray.toList_eq
abbrev Adr:=@callsD_of_wpS
abbrev Ads:=@grownCap_le_maxLen
abbrev Adt:=@setRow_heap
abbrev Adu:=@Int.eq_ofNat_of_zero_le
abbrev OE:=@mem_ready
abbrev Adw:=@Classical.axiomOfChoice
abbrev Adx:=@List.find?_append
abbrev Ady:=@ByteArray.data_extract
abbrev Adz:=@Nat.sub_self
abbrev Ad0:=@List.getElem?_set_ne
abbrev Ad1:=@calls_of_wp
abbrev Ad2:=@leaves_cons
abbrev Ad3:=@Option.map_bind
abbrev Ad4:=@List.take_succ_cons
abbrev Ad5:=@Nat.add_sub_cancel'
abbrev Ad7:=@growslice_fits
abbrev Ad8:=@List.mem_filterMap
abbrev Ad9:=@wpS_region
abbrev Aed:=@Int.toNat_natCast
abbrev Aee:=@run_equalIn_bool'
abbrev Aef:=@Bool.eq_false_iff
abbrev Aeg:=@List.reverse_cons
abbrev Aeh:=@wp_scope_straight
abbrev Aek:=@wp_cond_false
abbrev Ael:=@List.any_cons
abbrev Aem:=@wp_block
abbrev Aeo:=@wpS_of_wp
def tT :Nat->Option (List Value)
 |2=>some [.string ⟨#[60,60]⟩,.string ⟨#[62,62]⟩,.string ⟨#[61,61]⟩,.string ⟨#[38,38]⟩,.string ⟨#[124,124]⟩,.string ⟨#[40]⟩,.string ⟨#[41]⟩,.string ⟨#[123]⟩,.string ⟨#[125]⟩,.string ⟨#[91]⟩,.string ⟨#[93]⟩,.string ⟨#[59]⟩,.string ⟨#[44]⟩,.string ⟨#[61]⟩,.string ⟨#[43]⟩,.string ⟨#[45]⟩,.string ⟨#[42]⟩,.string ⟨#[47]⟩,.string ⟨#[37]⟩,.string ⟨#[38]⟩,.string ⟨#[124]⟩,.string ⟨#[94]⟩,.string ⟨#[60]⟩,.string ⟨#[33]⟩]
 |5=>some [.string ⟨#[118,97,114]⟩,.string ⟨#[97,114,114,97,121]⟩,.string ⟨#[102,117,110,99]⟩,.string ⟨#[119,111,114,100]⟩,.string ⟨#[105,102]⟩,.string ⟨#[101,108,115,101]⟩,.string ⟨#[119,104,105,108,101]⟩,.string ⟨#[114,101,116,117,114,110]⟩,.string ⟨#[112,117,116]⟩,.string ⟨#[103,101,116]⟩]
 |_=>none
theorem Ena {g:Nat}{vs:List Value}(h:tT g=some vs): ∀v∈vs,v.oneCell'=true:=by
 unfold tT at h
 split at h
 ·cases h;simp[Value.oneCell']
 ·cases h;simp[Value.oneCell']
 ·cases h
theorem Zh {p:Prop}(h:p:=by repeat' (first|(with_reducible apply And.intro)|kernel_rfl)):p:=h
theorem Zj {p:Prop}(h:p:=by repeat' (first|(with_reducible apply And.intro)|rfl)):p:=h
theorem Zo {p:Prop}(h:p:=by omega):p:=h
theorem Zm {p:Prop}(h:p:=by simp[*]):p:=h
theorem Zi {p:Prop}(h:p:=by simp):p:=h
theorem Zf {p:Prop}(h:p:=by kernel_rfl):p:=h
theorem Zd {p:Prop}(h:p:=by decide):p:=h
end
section
open Go
variable {g n off:Nat}{α:Type}{u:Value}
structure Nm where
 d:Nat
 i:Nat
 c:Nat
deriving DecidableEq
variable {x:Nm}
inductive AV where
 |any
 |sc (v:Value)
 |sl (full:Bool) (sz:Nat) (rows:List (List AV))
 |dp (cells:List AV) (off:Nat)
 |own (x:Nm) (g n:Nat)
 |ptr (x:Nm) (g off:Nat)
 |eptr (x:Nm) (g i off:Nat)
 |agg (cs:List AV)
 |tup (vs:List AV)
 |vec (sz:Nat) (rows:List (List AV))
 |fn (f:Nat) (caps:List AV)
 |bsl (x:Nm) (g sz off n:Nat)
 |mp (x:Nm) (g:Nat)
 |dmp (ag:Bool) (ks:List Value) (rows:List (List AV))
inductive It where
 |no (g:Nat)
 |box (g:Nat) (cells:List AV) (fz:Bool)
 |arr (g sz:Nat) (e:TypeId) (rows:List (List AV)) (fz:Bool)
 |map (g:Nat) (ag:Bool) (ks:List Value) (rows:List (List AV)) (fz:Bool)
def It.gen :It->Nat
 | .no g=>g
 | .box g _ _=>g
 | .arr g _ _ _ _=>g
 | .map g _ _ _ _=>g
def It.live :It->Bool
 | .no _=>false
 |_=>true
abbrev Hp :=Nm->It
abbrev Mp :=Nm->Option (Nat×Nat)
def Ur {α:Type}(hp:Nm->α)(x:Nm)(o:α):Nm->α:=fun y=>if y=x then o else hp y
theorem Ad(hp:Nm->α)(x:Nm)(o:α):Ur hp x o x=o:=by simp[Ur]
theorem Aj(hp:Nm->α){y:Nm}(o:α)(h:y≠x):Ur hp x o y=hp y:=by simp[Ur,h]
def gC (w:World)(b o:Nat)(us:List Value):Prop:= ∀j v,us[j]?=some v->w.cell? ⟨b,o+j,none⟩=some v
def sW (f:Nat)(us:List Value):Value:= .func (.func (if f<1000000 then f else f - 1000000)) (if f<1000000 then #[] else⟨us⟩) (if f<1000000 then⟨us⟩ else #[])
mutual
def Iq (I:Nat->Prop) (w:World):AV->Value->Prop
 | .sc v,u=>u=v/\v.oneCell'=true
 | .sl full sz rows,u=> ∃A cap,u= .slice A rows.length cap/\rows.length<=cap/\cap<=maxLen/\(full=true->cap=rows.length)/\
   (rows=[]\/ ∃b o us,A=some ⟨b,o,none⟩/\I b/\gC w b o us/\U3 I w sz rows us)
 | .dp cells off,u=> ∃b o us,u= .pointer (some ⟨b,o+off,none⟩)/\I b/\gC w b o us/\aC I w cells us
 | .fn f caps,u=> ∃us,u=sW f us/\aC I w caps us
 | .dmp ag ks rows,u=> ∃b es clock,u= .map (some b)/\I b/\w.heap[b]?=some (.map es clock)/\es.toList.map (·.key)=ks/\aV I w ag rows (es.toList.map (·.val))
 |_,_=>False
def aC (I:Nat->Prop) (w:World):List AV->List Value->Prop
 |[],us=>us=[]
 |a::as,us=> ∃v vs,us=v::vs/\Iq I w a v/\aC I w as vs
def U3 (I:Nat->Prop) (w:World) (sz:Nat):List (List AV)->List Value->Prop
 |[],us=>us=[]
 |r::rs,us=> ∃u1 u2,us=u1++u2/\u1.length=sz/\aC I w r u1/\U3 I w sz rs u2
def aV (I:Nat->Prop) (w:World) (ag:Bool):List (List AV)->List Value->Prop
 |[],vs=>vs=[]
 |r::rs,vs=> ∃v vt us,vs=v::vt/\v=(if ag then .agg ⟨us⟩ else v)/\(ag=false->us=[v]/\v.oneCell'=true)/\aC I w r us/\aV I w ag rs vt
end
mutual
def Ie (D:Nat) (I:Nat->Prop) (m:Mp) (hp:Hp) (w:World):AV->Value->Prop
 | .any,_=>True
 | .own x g n,u=>x.d<=D/\g<=(hp x).gen/\ ∀sz e rows fz,hp x= .arr g sz e rows fz->n<=rows.length/\
   ((m x=none/\u= .slice none 0 0/\n=0)\/ ∃b cap,m x=some (b,cap)/\u= .slice (some ⟨b,0,none⟩) n cap)
 | .ptr x g off,u=>x.d<=D/\g<=(hp x).gen/\ ∀cells fz,hp x= .box g cells fz-> ∃b c,m x=some (b,c)/\u= .pointer (some ⟨b,off,none⟩)
 | .eptr x g i off,u=>x.d<=D/\g<=(hp x).gen/\ ∀sz e rows fz,hp x= .arr g sz e rows fz-> ∃b c,m x=some (b,c)/\u= .pointer (some ⟨b,i*sz+off,none⟩)
 | .agg cs,u=> ∃us,u= .agg ⟨us⟩/\bM D I m hp w cs us
 | .tup cs,u=> ∃us,u= .tuple ⟨us⟩/\bM D I m hp w cs us
 | .fn f caps,u=> ∃us,u=sW f us/\bM D I m hp w caps us
 | .bsl x g sz off n,u=>x.d<=D/\g<=(hp x).gen/\ ∀cells fz,hp x= .box g cells fz-> ∃b c cap,m x=some (b,c)/\n<=cap/\(cap<=maxLen/\off+cap*sz<=c)/\u= .slice (some ⟨b,off,none⟩) n cap
 | .vec _ _,_=>False
 | .mp x g,u=>x.d<=D/\g<=(hp x).gen/\ ∀ag ks rows fz,hp x= .map g ag ks rows fz-> ∃b c,m x=some (b,c)/\u= .map (some b)
 | .dmp ag ks rows,u=>Iq I w (.dmp ag ks rows) u
 | .sc v,u=>u=v
 | .sl full sz rows,u=>Iq I w (.sl full sz rows) u
 | .dp cells off,u=>Iq I w (.dp cells off) u
def bM (D:Nat) (I:Nat->Prop) (m:Mp) (hp:Hp) (w:World):List AV->List Value->Prop
 |[],us=>us=[]
 |a::as,us=> ∃v vs,us=v::vs/\Ie D I m hp w a v/\bM D I m hp w as vs
end
def D7 (us:Array Value)(mk:Nat×Nat):Prop:= ∀j,j<us.size->(mk.1<=j&&j<mk.2)=false
def oU (I K:Nat->Prop)(m:Mp)(hp:Hp)(w:World)(x:Nm):It->Prop
 | .no _=>True
 | .box _ cells fz=> ∃b c us T mk,m x=some (b,c)/\w.heap[b]?=some (.cells us T mk)/\(D7 us mk/\us.size=c)/\bM x.d I m hp w cells (us.toList.take cells.length)/\
   (fz=true->I b/\aC I w cells (us.toList.take cells.length))/\(fz=false-> ¬I b/\ ¬K b)
 | .arr _ sz e rows fz=>(m x=none/\rows=[])\/ ∃b cap us mk,m x=some (b,cap)/\w.heap[b]?=some (.cells us e mk)/\D7 us mk/\us.size=cap*sz/\
   rows.length<=cap/\cap<=maxLen/\U3 I w sz rows (us.toList.take (rows.length*sz))/\(fz=true->I b)/\(fz=false-> ¬I b/\ ¬K b)
 | .map _ ag ks rows fz=> ∃b c es clock,m x=some (b,c)/\w.heap[b]?=some (.map es clock)/\es.toList.map (·.key)=ks/\aV I w ag rows (es.toList.map (·.val))/\(fz=true->I b)/\(fz=false-> ¬I b/\ ¬K b)
def tG (I:Nat->Prop)(w:World):Prop:= ∀g vs,tT g=some vs->I g/\gC w g 0 vs/\ ∀cs t mk,w.heap[g]?=some (.cells cs t mk)->cs.size=vs.length
structure Uj (I K:Nat->Prop)(m:Mp)(hp:Hp)(w:World):Prop where
 obj: ∀x,oU I K m hp w x (hp x)
 inj: ∀x y p q,(hp x).live=true->(hp y).live=true->m x=some p->m y=some q->p.1=q.1->x=y
 ilt: ∀b,I b->b<w.heap.size
 klt: ∀b,K b->b<w.heap.size
 ik: ∀b,I b-> ¬K b
 gl:tG I w
structure aL (I K:Nat->Prop)(m:Mp)(hp:Hp)(w:World)(I':Nat->Prop)(m':Mp)(hp':Hp)(w':World):Prop where
 isub: ∀b,I b->I' b
 keep: ∀b,I b\/K b->w'.heap[b]?=w.heap[b]?
 size:w.heap.size<=w'.heap.size
 os:w'.os=w.os
 tape:w'.tape=w.tape
 output:w'.output=w.output
 gmono: ∀x,(hp x).gen<=(hp' x).gen
 stable: ∀x,(hp' x).gen=(hp x).gen->
  match hp x with
  | .no _=>(∃g,hp' x= .no g)
  | .box _ _ _=>m' x=m x/\ ∃g cells' fz',hp' x= .box g cells' fz'
  | .arr _ sz e rows _=>m' x=m x/\ ∃g rows' fz',hp' x= .arr g sz e rows' fz'/\rows.length<=rows'.length
  | .map _ _ _ _ _=>m' x=m x/\ ∃g ag ks rows fz,hp' x= .map g ag ks rows fz
theorem gC.keep {w w':World}{b o:Nat}{us:List Value}(h:gC w b o us)(hb:w'.heap[b]?=w.heap[b]?):gC w' b o us:=
 fun j v hv=>(World.cell?_of_block (w:=w) (a:=⟨b,o+j,none⟩) hb).trans (h j v hv)
theorem tG.mono {I I':Nat->Prop}{w w':World}(h:tG I w)(hi: ∀b,I b->I' b)(hk: ∀b,I b->w'.heap[b]?=w.heap[b]?):tG I' w':=
 fun g vs hg=>⟨hi _ (h g vs hg).1,(h g vs hg).2.1.keep (hk _ (h g vs hg).1),fun cs t mk hc=>(h g vs hg).2.2 cs t mk ((hk _ (h g vs hg).1).symm.trans hc)⟩
section
variable {I I':Nat->Prop}{w w':World}
mutual
theorem Iq.mono (hi: ∀b,I b->I' b) (hk: ∀b,I b->w'.heap[b]?=w.heap[b]?): ∀(a:AV) (u:Value),Iq I w a u->Iq I' w' a u
 | .any,_,h=>by simp[Iq] at h
 | .sc v,u,h=>by simpa[Iq] using h
 | .sl full sz rows,u,h=>by
  simp only[Iq] at h⊢;obtain⟨A,cap,hu,h1,h2,h3,h4⟩:=h;refine⟨A,cap,hu,h1,h2,h3,?_⟩;rcases h4 with h4|⟨b,o,us,hA,hb,hc,hr⟩
  ·exact .inl h4
  ·exact .inr ⟨b,o,us,hA,hi b hb,hc.keep (hk b hb),U3.mono hi hk sz rows us hr⟩
 | .dp cells off,u,h=>by
  simp only[Iq] at h⊢;obtain⟨b,o,us,hu,hb,hc,hr⟩:=h;exact⟨b,o,us,hu,hi b hb,hc.keep (hk b hb),aC.mono hi hk cells us hr⟩
 | .own ..,_,h=>by simp[Iq] at h
 | .ptr ..,_,h=>by simp[Iq] at h
 | .eptr ..,_,h=>by simp[Iq] at h
 | .agg ..,_,h=>by simp[Iq] at h
 | .tup ..,_,h=>by simp[Iq] at h
 | .vec ..,_,h=>by simp[Iq] at h
 | .bsl ..,_,h=>by simp[Iq] at h
 | .mp ..,_,h=>by simp[Iq] at h
 | .fn f caps,u,h=>by
  simp only[Iq] at h⊢;obtain⟨us,hu,h⟩:=h;exact⟨us,hu,aC.mono hi hk caps us h⟩
 | .dmp ag ks rows,u,h=>by
  simp only[Iq] at h⊢;obtain⟨b,es,clock,hu,hb,hc,uS,hr⟩:=h;exact⟨b,es,clock,hu,hi b hb,(hk b hb).trans hc,uS,aV.mono hi hk ag rows _ hr⟩
theorem aC.mono (hi: ∀b,I b->I' b) (hk: ∀b,I b->w'.heap[b]?=w.heap[b]?): ∀(as:List AV) (us:List Value),aC I w as us->aC I' w' as us
 |[],us,h=>by simpa[aC] using h
 |a::as,us,h=>by
  simp only[aC] at h⊢;obtain⟨v,vs,hu,h1,h2⟩:=h;exact⟨v,vs,hu,Iq.mono hi hk a v h1,aC.mono hi hk as vs h2⟩
theorem U3.mono (hi: ∀b,I b->I' b) (hk: ∀b,I b->w'.heap[b]?=w.heap[b]?) (sz:Nat): ∀(rows:List (List AV)) (us:List Value),U3 I w sz rows us->U3 I' w' sz rows us
 |[],us,h=>by simpa[U3] using h
 |r::rs,us,h=>by
  simp only[U3] at h⊢;obtain⟨u1,u2,hu,hl,h1,h2⟩:=h;exact⟨u1,u2,hu,hl,aC.mono hi hk r u1 h1,U3.mono hi hk sz rs u2 h2⟩
theorem aV.mono (hi: ∀b,I b->I' b) (hk: ∀b,I b->w'.heap[b]?=w.heap[b]?) (ag:Bool): ∀(rows:List (List AV)) (vs:List Value),aV I w ag rows vs->aV I' w' ag rows vs
 |[],vs,h=>by simpa[aV] using h
 |r::rs,vs,h=>by
  simp only[aV] at h⊢;obtain⟨v,vt,us,hu,h1,h2,h3,h4⟩:=h;exact⟨v,vt,us,hu,h1,h2,aC.mono hi hk r us h3,aV.mono hi hk ag rs vt h4⟩
end
end
section
variable {I K I':Nat->Prop}{m m':Mp}{hp hp':Hp}{w w':World}
theorem aL.own (E:aL I K m hp w I' m' hp' w')(D:Nat)(h:Ie D I m hp w (.own x g n) u):Ie D I' m' hp' w' (.own x g n) u:=by
 simp only[Ie] at h⊢;obtain⟨hd,hg,h⟩:=h;refine⟨hd,Ve hg (E.gmono x),fun sz e rows fz hx=>?_⟩;have xI:(hp' x).gen=g:=by rw[hx];rfl
 have cE:(hp' x).gen=(hp x).gen:=Ac9 (by rw[xI];exact hg) (E.gmono x);have hs:=E.stable x cE
 cases mL:hp x with
 |no g'=>rw[mL] at hs;obtain⟨g2,iL⟩:=hs;rw[iL] at hx;cases hx
 |box g' cells fz'=>rw[mL] at hs;obtain⟨_,g2,c2,f2,iL⟩:=hs;rw[iL] at hx;cases hx
 |map _ _ _ _ _=>rw[mL] at hs;obtain⟨_,_,_,_,_,_,iL⟩:=hs;rw[iL] at hx;cases hx
 |arr g' sz' e' rows' fz'=>
  rw[mL] at hs;obtain⟨hm,g2,r2,f2,iL,aI⟩:=hs;rw[iL] at hx
  cases hx
  have qB:g'=g:=by rw[mL] at cE;rw[xI] at cE;simpa[It.gen] using cE.symm
  subst qB;obtain⟨h1,h2⟩:=h sz e rows' fz' mL;exact⟨Ve h1 aI,by rw[hm];exact h2⟩
theorem aL.ptr (E:aL I K m hp w I' m' hp' w')(D:Nat)(h:Ie D I m hp w (.ptr x g off) u):Ie D I' m' hp' w' (.ptr x g off) u:=by
 simp only[Ie] at h⊢;obtain⟨hd,hg,h⟩:=h;refine⟨hd,Ve hg (E.gmono x),fun cells fz hx=>?_⟩;have xI:(hp' x).gen=g:=by rw[hx];rfl
 have cE:(hp' x).gen=(hp x).gen:=Ac9 (by rw[xI];exact hg) (E.gmono x);have hs:=E.stable x cE
 cases mL:hp x with
 |no g'=>rw[mL] at hs;obtain⟨g2,iL⟩:=hs;rw[iL] at hx;cases hx
 |arr g' sz' e' rows' fz'=>rw[mL] at hs;obtain⟨_,g2,c2,f2,iL,_⟩:=hs;rw[iL] at hx;cases hx
 |map _ _ _ _ _=>rw[mL] at hs;obtain⟨_,_,_,_,_,_,iL⟩:=hs;rw[iL] at hx;cases hx
 |box g' cells' fz'=>
  rw[mL] at hs;obtain⟨hm,_⟩:=hs;have qB:g'=g:=by rw[mL] at cE;rw[xI] at cE;simpa[It.gen] using cE.symm
  subst qB;rw[hm];exact h cells' fz' mL
theorem aL.bsl (E:aL I K m hp w I' m' hp' w')(D:Nat){sz:Nat}(h:Ie D I m hp w (.bsl x g sz off n) u):Ie D I' m' hp' w' (.bsl x g sz off n) u:=by
 simp only[Ie] at h⊢;obtain⟨hd,hg,h⟩:=h;refine⟨hd,Ve hg (E.gmono x),fun cells fz hx=>?_⟩;have xI:(hp' x).gen=g:=by rw[hx];rfl
 have cE:(hp' x).gen=(hp x).gen:=Ac9 (by rw[xI];exact hg) (E.gmono x);have hs:=E.stable x cE
 cases mL:hp x with
 |no g'=>rw[mL] at hs;obtain⟨g2,iL⟩:=hs;rw[iL] at hx;cases hx
 |arr g' sz' e' rows' fz'=>rw[mL] at hs;obtain⟨_,g2,r2,f2,iL,_⟩:=hs;rw[iL] at hx;cases hx
 |map _ _ _ _ _=>rw[mL] at hs;obtain⟨_,_,_,_,_,_,iL⟩:=hs;rw[iL] at hx;cases hx
 |box g' cells' fz'=>
  rw[mL] at hs;obtain⟨hm,_⟩:=hs;have qB:g'=g:=by rw[mL] at cE;rw[xI] at cE;simpa[It.gen] using cE.symm
  subst qB;rw[hm];exact h cells' fz' mL
theorem aL.eptr (E:aL I K m hp w I' m' hp' w')(D:Nat){i:Nat}(h:Ie D I m hp w (.eptr x g i off) u):Ie D I' m' hp' w' (.eptr x g i off) u:=by
 simp only[Ie] at h⊢;obtain⟨hd,hg,h⟩:=h;refine⟨hd,Ve hg (E.gmono x),fun sz e rows fz hx=>?_⟩;have xI:(hp' x).gen=g:=by rw[hx];rfl
 have cE:(hp' x).gen=(hp x).gen:=Ac9 (by rw[xI];exact hg) (E.gmono x);have hs:=E.stable x cE
 cases mL:hp x with
 |no g'=>rw[mL] at hs;obtain⟨g2,iL⟩:=hs;rw[iL] at hx;cases hx
 |box g' cells fz'=>rw[mL] at hs;obtain⟨_,g2,c2,f2,iL⟩:=hs;rw[iL] at hx;cases hx
 |map _ _ _ _ _=>rw[mL] at hs;obtain⟨_,_,_,_,_,_,iL⟩:=hs;rw[iL] at hx;cases hx
 |arr g' sz' e' rows' fz'=>
  rw[mL] at hs;obtain⟨hm,g2,r2,f2,iL,aI⟩:=hs;rw[iL] at hx
  cases hx
  have qB:g'=g:=by rw[mL] at cE;rw[xI] at cE;simpa[It.gen] using cE.symm
  subst qB;rw[hm];exact h sz e rows' fz' mL
theorem aL.mp (E:aL I K m hp w I' m' hp' w')(D:Nat)(h:Ie D I m hp w (.mp x g) u):Ie D I' m' hp' w' (.mp x g) u:=by
 simp only[Ie] at h⊢;obtain⟨hd,hg,h⟩:=h;refine⟨hd,Ve hg (E.gmono x),fun ag ks rows fz hx=>?_⟩;have xI:(hp' x).gen=g:=by rw[hx];rfl
 have cE:(hp' x).gen=(hp x).gen:=Ac9 (by rw[xI];exact hg) (E.gmono x);have hs:=E.stable x cE
 cases mL:hp x with
 |no g'=>rw[mL] at hs;obtain⟨g2,iL⟩:=hs;rw[iL] at hx;cases hx
 |box g' cells fz'=>rw[mL] at hs;obtain⟨_,g2,c2,f2,iL⟩:=hs;rw[iL] at hx;cases hx
 |arr g' sz' e' rows' fz'=>rw[mL] at hs;obtain⟨_,g2,r2,f2,iL,_⟩:=hs;rw[iL] at hx;cases hx
 |map g' ag' ks' rows' fz'=>
  rw[mL] at hs;obtain⟨hm,_⟩:=hs;have qB:g'=g:=by rw[mL] at cE;rw[xI] at cE;simpa[It.gen] using cE.symm
  subst qB;rw[hm];exact h ag' ks' rows' fz' mL
mutual
theorem Ie.mono (E:aL I K m hp w I' m' hp' w') (D:Nat): ∀(a:AV) (u:Value),Ie D I m hp w a u->Ie D I' m' hp' w' a u
 | .any,_,_=>by simp[Ie]
 | .sc v,u,h=>by simpa[Ie] using h
 | .sl full sz rows,u,h=>by
  simp only[Ie] at h⊢;exact Iq.mono E.isub (fun b hb=>E.keep b (.inl hb)) _ _ h
 | .dp cells off,u,h=>by
  simp only[Ie] at h⊢;exact Iq.mono E.isub (fun b hb=>E.keep b (.inl hb)) _ _ h
 | .own ..,_,h=>E.own D h
 | .ptr ..,_,h=>E.ptr D h
 | .eptr ..,_,h=>E.eptr D h
 | .bsl ..,_,h=>E.bsl D h
 | .mp ..,_,h=>E.mp D h
 | .dmp ag ks rows,u,h=>by
  simp only[Ie] at h⊢;exact Iq.mono E.isub (fun b hb=>E.keep b (.inl hb)) _ _ h
 | .agg cs,u,h=>by
  simp only[Ie] at h⊢;obtain⟨us,hu,h⟩:=h;exact⟨us,hu,bM.mono E D cs us h⟩
 | .tup cs,u,h=>by
  simp only[Ie] at h⊢;obtain⟨us,hu,h⟩:=h;exact⟨us,hu,bM.mono E D cs us h⟩
 | .fn f cs,u,h=>by
  simp only[Ie] at h⊢;obtain⟨us,hu,h⟩:=h;exact⟨us,hu,bM.mono E D cs us h⟩
 | .vec ..,_,h=>by simp[Ie] at h
theorem bM.mono (E:aL I K m hp w I' m' hp' w') (D:Nat): ∀(as:List AV) (us:List Value),bM D I m hp w as us->bM D I' m' hp' w' as us
 |[],us,h=>by simpa[bM] using h
 |a::as,us,h=>by
  simp only[bM] at h⊢;obtain⟨v,vs,hu,h1,h2⟩:=h;exact⟨v,vs,hu,Ie.mono E D a v h1,bM.mono E D as vs h2⟩
end
end
end
end Go.Ab
namespace Go.Ab
open Go
inductive NZ where
 |no
 |box (g n:Nat) (fz:Bool)
 |arr (g sz:Nat) (e:TypeId) (n:Nat) (fz:Bool)
 |map (g:Nat) (fz:Bool)
def It.head :It->NZ
 | .no _=> .no
 | .box g cells fz=> .box g cells.length fz
 | .arr g sz e rows fz=> .arr g sz e rows.length fz
 | .map g _ _ _ fz=> .map g fz
inductive Ia (α:Type) where
 |ret (a:α)
 |get (x:Nm) (k:It->Ia α)
 |put (x:Nm) (o:It) (k:Ia α)
 |hdr (x:Nm) (k:NZ->Ia α)
 |getC (x:Nm) (off:Nat) (k:AV->Ia α)
 |putC (x:Nm) (off:Nat) (v:AV) (k:Ia α)
 |ext (g:Hp->Option (AV×Hp)) (k:AV->Ia α)
 |fail
def eV :It->Nat->Option AV
 | .box _ cells _,off=>cells[off]?
 |_,_=>none
def Uq :It->Nat->AV->Option It
 | .box g cells fz,off,v=>if off<cells.length then some (.box g (cells.set off v) fz) else none
 |_,_,_=>none
namespace Ia
def bind {α β:Type}:Ia α->(α->Ia β)->Ia β
 | .ret a,f=>f a
 | .get x k,f=> .get x fun o=>(k o).bind f
 | .put x o k,f=> .put x o (k.bind f)
 | .hdr x k,f=> .hdr x fun o=>(k o).bind f
 | .getC x off k,f=> .getC x off fun v=>(k v).bind f
 | .putC x off v k,f=> .putC x off v (k.bind f)
 | .ext g k,f=> .ext g fun v=>(k v).bind f
 | .fail,_=> .fail
def run {α:Type}:Ia α->Hp->Option (α×Hp)
 | .ret a,hp=>some (a,hp)
 | .get x k,hp=>(k (hp x)).run hp
 | .put x o k,hp=>k.run (Ur hp x o)
 | .hdr x k,hp=>(k (hp x).head).run hp
 | .getC x off k,hp=>match eV (hp x) off with
  |some v=>(k v).run hp
  |none=>none
 | .putC x off v k,hp=>match Uq (hp x) off v with
  |some o=>k.run (Ur hp x o)
  |none=>none
 | .ext g k,hp=>match g hp with
  |some (v,hp')=>(k v).run hp'
  |none=>none
 | .fail,_=>none
end Ia
/-! ### types -/
def bF (P:Program)(t:TypeId):Option TypeId:=match P.underlying t with|some (.slice e)=>some e|_=>none
def Iu (P:Program)(t:TypeId):Bool:=match P.underlying t with|some (.struct _)=>true|some (.array _ _)=>true|_=>false
def kB (P:Program)(t:TypeId):Bool:=(P.info? t).isSome&&(P.underlying t).isSome
def eU (P:Program)(t:TypeId):List (Nat×Nat×TypeId):=match P.underlying t with
 |some (.struct fs)=>fs.toList.map fun f=>(f.offset,P.cellsOf f.type,f.type)
 |_=>[]
def A5 (P:Program)(t:TypeId):Option (Nat×TypeId):=match P.underlying t with|some (.array n e)=>some (n,e)|_=>none
def mP (P:Program)(t:TypeId):Bool:=match P.underlying t with|some .string=>true|_=>false
def xU (P:Program)(t:TypeId):Bool:=match P.underlying t with|some .bool=>true|_=>false
def oD (P:Program)(t:TypeId):Option IntKind:=match P.underlying t with|some (.int k)=>some k|_=>none
def U8 (P:Program)(t:TypeId):Option (List Value):=((P.info? t).bind (·.zero)).map (·.cells.toList)
def Bz (P:Program)(t:TypeId):Bool:=(U8 P t).isSome&&match P.underlying t with
 |some (.struct fs)=>fs.toList.all fun f=>(P.info? f.type).isSome
 |some (.array _ e)=>(P.info? e).isSome
 |_=>false
def IG (P:Program):Nat->TypeId->List TypeId
 |0,_=>[]
 |n+1,t=>match P.underlying t with
  |some (.struct fs)=>fs.toList.flatMap fun f=>IG P n f.type
  |some (.array k e)=>(List.replicate k (IG P n e)).flatten
  |_=>[t]
def dO (P:Program)(t:TypeId):List TypeId:=IG P 8 t
def GR (P:Program)(ct:TypeId):Value->AV
 | .slice none 0 0=> .sl false (match bF P ct with|some e=>P.cellsOf e|none=>0) []
 |v=> .sc v
def jG (P:Program)(t:TypeId):Option (List AV):=match U8 P t with|some z=>if z.all (·.oneCell') then some (List.zipWith (GR P) (dO P t) z) else none|none=>none
def flatT (P:Program)(t:TypeId):Bool:=(dO P t).all fun c=>match P.underlying c with
 |some .bool=>true|some (.int _)=>true|some .string=>true|_=>false
/-! ### fT -/
def vW (op:BinOp)(k:IntKind)(a b:Int):Option Value:=
 match op with
 | .add=>some (.int k (k.wrap (a+b)))
 | .sub=>some (.int k (k.wrap (a - b)))
 | .mul=>some (.int k (k.wrap (a*b)))
 | .quo=>if b=0 then none else some (.int k (k.wrap (a.tdiv b)))
 | .rem=>if b=0 then none else some (.int k (a.tmod b))
 | .and=>some (.int k (k.wrap (BitVec.ofInt k.bits a&&&BitVec.ofInt k.bits b).toNat))
 | .or=>some (.int k (k.wrap (BitVec.ofInt k.bits a|||BitVec.ofInt k.bits b).toNat))
 | .xor=>some (.int k (k.wrap (BitVec.ofInt k.bits a^^^BitVec.ofInt k.bits b).toNat))
 | .andNot=>some (.int k (k.wrap (BitVec.ofInt k.bits a&&& ~~~ BitVec.ofInt k.bits b).toNat))
 | .eql=>some (.bool (a==b))
 | .neq=>some (.bool (a !=b))
 | .lss=>some (.bool (decide (a<b)))
 | .leq=>some (.bool (decide (a<=b)))
 | .gtr=>some (.bool (decide (b<a)))
 | .geq=>some (.bool (decide (b<=a)))
 |_=>none
def vU (op:BinOp)(a b:ByteArray):Option Value:=
 match op with
 | .add=>if a.size+b.size<=9223372036854775807 then some (.string (a++b)) else none
 | .eql=>some (.bool (decide (a=b)))
 | .neq=>some (.bool (decide (a≠b)))
 | .lss=>some (.bool (Op.bytesLess a.toList b.toList))
 |_=>none
def GH :AV->AV->Option Bool
 | .sc (.int k a),.sc (.int k' b)=>if k=k' then some (a==b) else none
 | .sc (.string a),.sc (.string b)=>some (decide (a=b))
 | .sc (.bool a),.sc (.bool b)=>some (a==b)
 |_,_=>none
def sU :List AV->List AV->Option Bool
 |[],[]=>some true
 |a::as,b::bs=>match GH a b,sU as bs with
  |some x,some y=>some (x&&y)
  |_,_=>none
 |_,_=>none
def Bn (P:Program)(t:TypeId):AV->Bool
 | .sc (.int _ _)=>(oD P t).isSome
 | .sc (.string _)=>mP P t
 | .sc (.bool _)=>xU P t
 |_=>false
def cN (P:Program):List TypeId->List AV->Bool
 |[],[]=>true
 |t::ts,x::xs=>Bn P t x&&cN P ts xs
 |_,_=>false
def mapB (P:Program)(t:TypeId):Bool:=match P.underlying t with|some (.map _ _)=>true|_=>false
def Cka (P:Program)(E:TypeId->Bool)(op:BinOp)(t:TypeId):AV->AV->Option AV
 | .sc (.int k a),.sc (.int k' b)=>
  match op with
  | .shl=>if b<0 then none else some (.sc (.int k (k.wrap (a*2^(min b.toNat k.bits)))))
  | .shr=>if b<0 then none else some (.sc (.int k (a.fdiv (2^(min b.toNat k.bits)))))
  |op=>if k=k' then(vW op k a b).map .sc else none
 | .sc (.string a),.sc (.string b)=>(vU op a b).map .sc
 | .sc (.bool a),.sc (.bool b)=>if xU P t then(match op with
  | .eql=>some (.sc (.bool (a==b)))
  | .neq=>some (.sc (.bool (a !=b)))
  |_=>none) else none
 | .sc (.map a),.sc (.map none)=>if mapB P t then(match op with
  | .eql=>some (.sc (.bool a.isNone))
  | .neq=>some (.sc (.bool a.isSome))
  |_=>none) else none
 | .sl _ _ (_::_),.sc (.slice none 0 0)=>if (bF P t).isSome then(match op with
  | .eql=>some (.sc (.bool false))
  | .neq=>some (.sc (.bool true))
  |_=>none) else none
 | .agg xs,.agg ys=>if E t/\cN P (dO P t) xs/\cN P (dO P t) ys then(match op,sU xs ys with
  | .eql,some b=>some (.sc (.bool b))
  | .neq,some b=>some (.sc (.bool (!b)))
  |_,_=>none) else none
 |_,_=>none
def MT (op:UnOp):AV->Option AV
 | .sc (.int k n)=>match op with
  | .neg=>some (.sc (.int k (k.wrap (0 - n))))
  | .xor=>some (.sc (.int k (k.wrap (BitVec.ofInt k.bits (if k.signed then -1 else k.max)^^^BitVec.ofInt k.bits n).toNat)))
  |_=>none
 | .sc (.bool b)=>match op with
  | .not=>some (.sc (.bool !b))
  |_=>none
 |_=>none
/-! ### data,and what is owned -/
def cK :AV->List AV
 | .agg cs=>cs
 | .sc (.agg us)=>us.toList.map .sc
 |v=>[v]
def mD :AV->Bool
 | .agg _=>true
 | .sc (.agg _)=>true
 |_=>false
def Cpa :AV->Bool
 | .sc _=>true
 | .agg cs=>cs.all fun| .sc _=>true|_=>false
 |_=>false
def vY :AV->Ia Unit
 | .any=> .fail
 | .ptr x g _=> .hdr x fun| .box g' _ _=>if g'=g then .ret () else .fail|_=> .fail
 | .eptr _ _ _ _=> .fail
 | .own x g _=> .hdr x fun| .arr g' _ _ _ _=>if g'=g then .ret () else .fail|_=> .fail
 | .bsl x g _ _ _=> .hdr x fun| .box g' _ _=>if g'=g then .ret () else .fail|_=> .fail
 | .mp x g=> .hdr x fun| .map g' _=>if g'=g then .ret () else .fail|_=> .fail
 |_=> .ret ()
def xT :List AV->Ia Unit
 |[]=> .ret ()
 |v::vs=>(vY v).bind fun _=>xT vs
def splice (l:List AV)(off:Nat)(vs:List AV):List AV:=if vs.length=l.length then vs else l.take off++vs++l.drop (off+vs.length)
def dR (sz:Nat):Nat->List AV->List (List AV)
 |0,_=>[]
 |n+1,l=>l.take sz::dR sz n (l.drop sz)
def Hg :AV->Bool
 | .sc v=>v.oneCell'
 | .sl _ _ _=>true
 | .dp _ _=>true
 | .dmp _ _ _=>true
 |_=>false
def Gt :AV->Bool
 | .sc v=>v.oneCell'
 | .sl _ _ _=>true
 | .dp _ _=>true
 | .dmp _ _ _=>true
 | .fn _ caps=>caps.all Hg
 |_=>false
def JS :AV->Ia AV
 | .own x g n=> .get x fun
  | .arr g' sz _ rows _=>if g'=g then .ret (.sl false sz (rows.take n)) else .fail
  |_=> .fail
 | .mp x g=> .get x fun
  | .map g' ag ks rows _=>if g'=g then .ret (.dmp ag ks rows) else .fail
  |_=> .fail
 |v=>if Gt v then .ret v else .fail
def tM :List AV->Ia (List AV)
 |[]=> .ret []
 |v::vs=>(JS v).bind fun v'=>(tM vs).bind fun vs'=> .ret (v'::vs')
def kL (fz:Bool):AV->Ia AV
 | .sc v=>if v.oneCell' then .ret (.sc v) else .fail
 | .sl f sz rows=> .ret (.sl f sz rows)
 | .dp c o=> .ret (.dp c o)
 | .ptr x g off=> .get x fun
  | .box g' cells _=>if g'=g/\cells.all Gt then(if fz then .put x (.box g cells true) (.ret (.dp cells off)) else .ret (.dp cells off))
   else if g'=g/\fz=false then(tM cells).bind fun cs=> .ret (.dp cs off) else .fail
  |_=> .fail
 | .dmp ag ks rows=> .ret (.dmp ag ks rows)
 | .mp x g=> .get x fun
  | .map g' ag ks rows f=>if g'=g then(if fz then .put x (.map g ag ks rows true) (.ret (.dmp ag ks rows)) else if f then .ret (.dmp ag ks rows) else .ret (.dmp ag ks rows)) else .fail
  |_=> .fail
 |_=> .fail
def nK (fz:Bool):List AV->Ia (List AV)
 |[]=> .ret []
 |v::vs=>(kL fz v).bind fun v'=>(nK fz vs).bind fun vs'=> .ret (v'::vs')
def ownF :AV->Ia AV
 | .own x g n=> .get x fun
  | .arr g' sz e rows _=>if g'=g then .put x (.arr g sz e rows true) (.ret (.sl false sz (rows.take n))) else .fail
  |_=> .fail
 |v=>if Gt v then .ret v else .fail
def vG :List AV->Ia (List AV)
 |[]=> .ret []
 |v::vs=>(ownF v).bind fun v'=>(vG vs).bind fun vs'=> .ret (v'::vs')
def eD (P:Program)(fz:Bool)(ct:TypeId):AV->Ia AV
 | .sc (.slice none 0 0)=>match bF P ct with
  |some e=> .ret (.sl false (P.cellsOf e) [])
  |none=> .fail
 | .sc v=>if v.oneCell' then .ret (.sc v) else .fail
 | .sl _ sz rows=> .ret (.sl false sz rows)
 | .dp c o=> .ret (.dp c o)
 | .own x g n=> .get x fun
  | .arr g' sz e rows f=>if g'=g then(if fz then .put x (.arr g sz e rows true) (.ret (.sl false sz (rows.take n))) else if f then .ret (.sl false sz (rows.take n)) else .ret (.sl false sz (rows.take n))) else .fail
  |_=> .fail
 | .fn f caps=>(nK fz caps).bind fun cs=> .ret (.fn f cs)
 | .dmp ag ks rows=> .ret (.dmp ag ks rows)
 | .mp x g=> .get x fun
  | .map g' ag ks rows f=>if g'=g then(if fz then .put x (.map g ag ks rows true) (.ret (.dmp ag ks rows)) else if f then .ret (.dmp ag ks rows) else .ret (.dmp ag ks rows)) else .fail
  |_=> .fail
 | .bsl x g sz off n=> .get x fun
  | .box g' cells _=>if g'=g/\off+n*sz<=cells.length/\cells.all Gt then(if fz then .put x (.box g cells true) (.ret (.sl false sz (dR sz n (cells.drop off)))) else .ret (.sl false sz (dR sz n (cells.drop off))))
   else if fz=true/\g'=g/\off+n*sz<=cells.length then(vG cells).bind fun cs=> .get x fun
    | .box g'' _ _=>if g''=g then .put x (.box g cs true) (.ret (.sl false sz (dR sz n (cs.drop off)))) else .fail
    |_=> .fail
   else .fail
  |_=> .fail
 |_=> .fail
def fQ (P:Program)(fz:Bool):List TypeId->List AV->Ia (List AV)
 |_,[]=> .ret []
 |[],_::_=> .fail
 |t::ts,v::vs=>(eD P fz t v).bind fun v'=>(fQ P fz ts vs).bind fun vs'=> .ret (v'::vs')
def NG (d:Nat):AV->Ia Unit
 | .ptr x g _=> .hdr x fun| .box g' _ _=>if g'=g/\x.d<=d then .ret () else .fail|_=> .fail
 | .mp x g=> .hdr x fun| .map g' _=>if g'=g/\x.d<=d then .ret () else .fail|_=> .fail
 |v=>if Hg v then .ret () else .fail
def tV (d:Nat):List AV->Ia Unit
 |[]=> .ret ()
 |v::vs=>(NG d v).bind fun _=>tV d vs
def settle (P:Program)(y:Nm)(ct:TypeId):AV->Ia AV
 | .sc (.slice none 0 0)=>match bF P ct with
  |some e=> .get y fun o=> .put y (.arr (o.gen+1) (P.cellsOf e) e [] false) (.ret (.own y (o.gen+1) 0))
  |none=> .fail
 | .sc v=>if v.oneCell' then .ret (.sc v) else .fail
 | .own x g n=> .get x fun
  | .arr g' sz e rows f=>if g'=g then(if x=y then .ret (.own x g n) else if f=false/\n=rows.length then
    .put x (.no (g+1)) (.get y fun o=> .put y (.arr (o.gen+1) sz e rows false) (.ret (.own y (o.gen+1) n)))
    else .put x (.arr g sz e rows true) (.ret (.sl false sz (rows.take n)))) else .fail
  |_=> .fail
 | .sl f sz rows=> .ret (.sl f sz rows)
 | .dp c o=> .ret (.dp c o)
 | .fn f caps=>(tV y.d caps).bind fun _=> .ret (.fn f caps)
 | .ptr x g off=> .hdr x fun| .box g' _ _=>if g'=g/\x.d<=y.d then .ret (.ptr x g off) else .fail|_=> .fail
 | .bsl x g sz off n=> .hdr x fun| .box g' _ _=>if g'=g/\x.d<=y.d then .ret (.bsl x g sz off n) else .fail|_=> .fail
 | .dmp ag ks rows=> .ret (.dmp ag ks rows)
 | .mp x g=> .hdr x fun| .map g' _=>if g'=g/\x.d<=y.d then .ret (.mp x g) else .fail|_=> .fail
 |_=> .fail
def gS (P:Program)(d i:Nat):Nat->List TypeId->List AV->Ia (List AV)
 |_,_,[]=> .ret []
 |_,[],_::_=> .fail
 |off,t::ts,v::vs=>(settle P ⟨d,i,off+1⟩ t v).bind fun v'=>(gS P d i (off+1) ts vs).bind fun vs'=> .ret (v'::vs')
def rJ (P:Program)(k i:Nat)(t:TypeId)(cells:List AV):Ia AV:=
 if cells.length=P.cellsOf t then
  (gS P k i 0 (dO P t) cells).bind fun cs=> .get ⟨k,i,0⟩ fun o=> .put ⟨k,i,0⟩ (.box (o.gen+1) cs false) (.ret (.ptr ⟨k,i,0⟩ (o.gen+1) 0))
 else .fail
def Wx :AV->Bool
 | .fn _ caps=> !(caps.all Hg)
 | .ptr _ _ _=>true
 | .mp _ _=>true
 |_=>false
def iF (y:Nm)(sz:Nat)(e:TypeId)(rows:List (List AV)):Ia AV:=
 .get y fun o=> .put y (.arr (o.gen+1) sz e rows false) (.ret (.own y (o.gen+1) rows.length))
def uC (agg:Bool)(cs:List AV):Ia AV:=if agg then .ret (.agg cs) else match cs with|[c]=> .ret c|_=> .fail
/-! ### memory -/
def tU (x:Nm):Nat->Nat->Ia (List AV)
 |_,0=> .ret []
 |off,n+1=> .getC x off fun v=>(tU x (off+1) n).bind fun vs=> .ret (v::vs)
def tL (x:Nm):Nat->List AV->Ia AV
 |_,[]=> .ret .any
 |off,v::vs=> .putC x off v (tL x (off+1) vs)
def fK (n:Nat):AV->Ia (List AV)
 | .ptr x g off=> .hdr x fun| .box g' l _=>if g'=g/\off+n<=l then tU x off n else .fail|_=> .fail
 | .eptr x g i off=> .get x fun| .arr g' _ _ rows _=>if g'=g then(match rows[i]? with|some r=>if off+n<=r.length then .ret ((r.drop off).take n) else .fail|none=> .fail) else .fail|_=> .fail
 | .dp cells off=>if off+n<=cells.length then .ret ((cells.drop off).take n) else .fail
 |_=> .fail
def pM (P:Program)(t:TypeId)(a:AV):Ia AV:=
 if Iu P t then(if 0<P.cellsOf t then(fK (P.cellsOf t) a).bind fun cs=> .ret (.agg cs) else .fail)
 else if (P.underlying t).isSome then(fK 1 a).bind fun cs=>match cs with|[v]=> .ret v|_=> .fail
 else .fail
def uA (P:Program)(t:TypeId)(a v:AV):Ia AV:=
 let vs:=cK v
 if vs.length=P.cellsOf t then
  match a with
  | .ptr x g off=>(gS P x.d x.i off (dO P t) vs).bind fun vs'=> .hdr x fun
   | .box g' l f=>if g'=g/\f=false/\off+vs'.length<=l then tL x off vs' else .fail
   |_=> .fail
  | .eptr x g i off=>(fQ P true (dO P t) vs).bind fun vs'=> .get x fun
   | .arr g' sz e rows f=>if g'=g/\f=false then(match rows[i]? with
    |some r=>if off+vs'.length<=r.length then .put x (.arr g sz e (rows.set i (splice r off vs')) false) (.ret .any) else .fail
    |none=> .fail) else .fail
   |_=> .fail
  |_=> .fail
 else .fail
def kP (n:Nat):AV->Ia AV
 | .ptr x g off=> .hdr x fun| .box g' _ _=>if g'=g then .ret (.ptr x g (off+n)) else .fail|_=> .fail
 | .eptr x g i off=> .hdr x fun| .arr g' _ _ _ _=>if g'=g then .ret (.eptr x g i (off+n)) else .fail|_=> .fail
 | .dp cells off=> .ret (.dp cells (off+n))
 |_=> .fail
def uL (P:Program)(s:TypeId)(x:AV)(f:Nat):Ia AV:=
 match (eU P s)[f]? with
 |some (off,sz,_)=>if sz=0 then .fail else kP off x
 |none=> .fail
def pG (P:Program)(t:TypeId)(x:AV):AV->Ia AV
 | .sc (.int _ i)=>
  if 0<=i then
   match x with
   | .sl _ sz rows=>match bF P t with
    |some e=>if sz=P.cellsOf e/\kB P e then(match rows[i.toNat]? with|some r=> .ret (.dp r 0)|none=> .fail) else .fail
    |none=> .fail
   | .own y g n=>match bF P t with
    |some e=> .hdr y fun
     | .arr g' sz _ _ _=>if g'=g/\sz=P.cellsOf e/\kB P e/\i.toNat<n then .ret (.eptr y g i.toNat 0) else .fail
     |_=> .fail
    |none=> .fail
   | .bsl y g sz off n=>match bF P t with
    |some e=> .hdr y fun
     | .box g' _ _=>if g'=g/\sz=P.cellsOf e/\kB P e/\i.toNat<n then .ret (.ptr y g (off+i.toNat*P.cellsOf e)) else .fail
     |_=> .fail
    |none=> .fail
   |x=>match A5 P t with
    |some (len,e)=>if i.toNat<len/\kB P e then kP (i.toNat*P.cellsOf e) x else .fail
    |none=> .fail
  else .fail
 |_=> .fail
def bT (dflt:Nat):Option AV->Option Nat
 |none=>some dflt
 |some (.sc (.int _ i))=>if 0<=i then some i.toNat else none
 |_=>none
def kO (P:Program)(t:TypeId)(x:AV)(lo hi mx:Option AV):Ia AV:=
 match x with
 | .sc (.string s)=>match mP P t,bT 0 lo,bT s.size hi,mx with
  |true,some l,some h,none=>if l<=h/\h<=s.size then .ret (.sc (.string (s.extract l h))) else .fail
  |_,_,_,_=> .fail
 | .sl _ sz rows=>match bF P t,bT 0 lo,bT rows.length hi,mx with
  |some e,some l,some h,none=>if l<=h/\h<=rows.length/\sz=P.cellsOf e/\kB P e then .ret (.sl false sz ((rows.take h).drop l)) else .fail
  |some e,some l,some h,some m=>match bT 0 (some m) with
   |some m=>if l<=h/\h=m/\h<=rows.length/\sz=P.cellsOf e/\hi.isSome/\kB P e then .ret (.sl true sz ((rows.take h).drop l)) else .fail
   |none=> .fail
  |_,_,_,_=> .fail
 | .own y g n=> .get y fun
  | .arr g' sz e' rows f=>match bF P t,bT 0 lo,bT n hi,mx with
   |some e,some l,some h,none=>if g'=g/\l<=h/\h<=n/\sz=P.cellsOf e/\kB P e then
     (if l=0 then .ret (.own y g h) else .put y (.arr g sz e' rows true) (.ret (.sl false sz ((rows.take h).drop l)))) else .fail
   |some e,some l,some h,some m=>match bT 0 (some m) with
    |some m=>if g'=g/\l<=h/\h=m/\h<=n/\sz=P.cellsOf e/\hi.isSome/\kB P e then .put y (.arr g sz e' rows true) (.ret (.sl true sz ((rows.take h).drop l))) else .fail
    |none=> .fail
   |_,_,_,_=>if f then .fail else .fail
  |_=> .fail
 | .ptr y g off=>match A5 P t,bT 0 lo,mx with
  |some (n,e),some l,none=>match bT n hi with
   |some h=> .hdr y fun
    | .box g' len _=>if g'=g/\n<=maxLen/\off+n*P.cellsOf e<=len/\l<=h/\h<=n/\kB P e then .ret (.bsl y g (P.cellsOf e) (if n=l then off else off+l*P.cellsOf e) (h - l)) else .fail
    |_=> .fail
   |none=> .fail
  |_,_,_=> .fail
 | .dp cells off=>match A5 P t,lo,hi,mx with
  |some (n,e),none,none,none=>if n*P.cellsOf e<=(cells.drop off).length/\kB P e/\n<=maxLen then .ret (.sl true (P.cellsOf e) (dR (P.cellsOf e) n (cells.drop off))) else .fail
  |_,_,_,_=> .fail
 |_=> .fail
def gV :AV->Ia (Nat×List (List AV))
 | .sl _ sz rows=> .ret (sz,rows)
 | .own x g n=> .get x fun| .arr g' sz _ rows _=>if g'=g/\n<=rows.length then .ret (sz,rows.take n) else .fail|_=> .fail
 | .sc (.slice none 0 0)=> .ret (0,[])
 | .sc (.string s)=> .ret (1,s.data.toList.map fun b=>[.sc (.int .u8 b.toNat)])
 | .bsl x g sz off n=> .get x fun| .box g' cells _=>if g'=g/\off+n*sz<=cells.length/\cells.all Gt then .ret (sz,dR sz n (cells.drop off)) else .fail|_=> .fail
 |_=> .fail
def vI (P:Program)(t:TypeId):AV->Ia AV
 | .sc (.string s)=>if mP P t then .ret (.sc (.int .i64 s.size)) else .fail
 | .sl _ _ rows=>if (bF P t).isSome then .ret (.sc (.int .i64 rows.length)) else .fail
 | .own x g n=>if (bF P t).isSome then .hdr x fun| .arr g' _ _ _ _=>if g'=g then .ret (.sc (.int .i64 n)) else .fail|_=> .fail else .fail
 | .sc (.slice none 0 0)=>if (bF P t).isSome then .ret (.sc (.int .i64 0)) else .fail
 | .bsl x g _ _ n=>if (bF P t).isSome then .hdr x fun| .box g' _ _=>if g'=g then .ret (.sc (.int .i64 n)) else .fail|_=> .fail else .fail
 |_=> .fail
def oX (P:Program)(e:TypeId):Bool:=match U8 P e with|some z=>z.length==P.cellsOf e&&decide (0<P.cellsOf e)|none=>false
def oA (P:Program)(t:TypeId):Bool:=match P.underlying t with|some (.slice _)=>true|some .string=>true|_=>false
def tW (P:Program)(y:Nm)(e:TypeId)(src:List (List AV))(s:AV):Ia AV:=
 match s with
 | .own z g n=> .get z fun
  | .arr g' sz e' rows f=>if g'=g/\f=false/\n=rows.length/\(sz=P.cellsOf e/\e'=e)/\(n+src.length)*P.bytesOf e<=140737488355328/\n+src.length<=maxLen then
    .put z (.arr (g+1) sz e (rows++src) false) (.ret (.own z (g+1) (n+src.length))) else .fail
  |_=> .fail
 | .sc (.slice none 0 0)=>if src.length*P.bytesOf e<=140737488355328/\src.length<=maxLen then iF y (P.cellsOf e) e src else .fail
 | .sl true sz rows=>if sz=P.cellsOf e/\0<src.length/\(rows.length+src.length)*P.bytesOf e<=140737488355328/\rows.length+src.length<=maxLen then iF y sz e (rows++src) else .fail
 |_=> .fail
def appR (P:Program)(y:Nm)(e:TypeId)(src:List (List AV))(s:AV):Ia AV:=
 match s with
 | .own z g n=> .get z fun
  | .arr g' sz e' rows f=>if g'=g/\f=false/\n<rows.length then .put z (.arr (g+1) sz e' (rows.take n) false) (tW P y e src (.own z (g+1) n)) else tW P y e src (.own z g n)
  |_=> .fail
 |s=>tW P y e src s
def qU (P:Program)(y:Nm)(t t':TypeId)(s x:AV):Ia AV:=
 match bF P t with
 |some e=>if oX P e/\oA P t' then(gV x).bind fun(sz',src)=>
  if sz'=P.cellsOf e\/src=[] then appR P y e src s else .fail
  else .fail
 |none=> .fail
def yT (P:Program)(t:TypeId)(d s:AV):Ia AV:=
 match bF P t with
 |some e=>if kB P e then(gV s).bind fun(sz',src)=>
  if sz'=P.cellsOf e\/src=[] then
   match d with
   | .bsl x g sz off n=> .hdr x fun
    | .box g' l f=>if g'=g/\f=false/\sz=P.cellsOf e/\src.length<=n/\off+src.flatten.length<=l then(tL x off src.flatten).bind fun _=> .ret (.sc (.int .i64 src.length)) else .fail
    |_=> .fail
   | .own x g n=> .get x fun
    | .arr g' sz e' rows f=>if g'=g/\f=false/\sz=P.cellsOf e/\src.length<=n/\n<=rows.length then .put x (.arr g sz e' (src++rows.drop src.length) false) (.ret (.sc (.int .i64 src.length))) else .fail
    |_=> .fail
   |_=> .fail
  else .fail
  else .fail
 |none=> .fail
def yD (P:Program)(y:Nm)(t:TypeId):AV->AV->Ia AV
 | .sc (.int _ l),.sc (.int _ c)=>match bF P t with
  |some e=>match jG P e with
   |some z=>if 0<=l/\l<=c/\c<=9223372036854775807/\c*P.bytesOf e<=140737488355328/\z.length=P.cellsOf e/\oX P e then iF y (P.cellsOf e) e (List.replicate l.toNat z) else .fail
   |none=> .fail
  |none=> .fail
 |_,_=> .fail
def uD (P:Program)(y:Nm)(t:TypeId):AV->AV->Ia AV
 | .sc (.int _ l),.sc (.int _ c)=>match bF P t with
  |some e=>match jG P e with
   |some z=>if 0<=l/\l=c/\c<=9223372036854775807/\c*P.bytesOf e<=140737488355328/\z.length=P.cellsOf e/\oX P e then
     .get y fun o=> .put y (.box (o.gen+1) (List.replicate l.toNat z).flatten false) (.ret (.bsl y (o.gen+1) (P.cellsOf e) 0 l.toNat)) else .fail
   |none=> .fail
  |none=> .fail
 |_,_=> .fail
/-! Lists that grow as boxes:their elements BY be lists that are written. -/
def qR :AV->Ia (Nat×Nat×List AV)
 | .bsl x g sz off n=> .get x fun| .box g' cells _=>if g'=g/\off+n*sz<=cells.length then .ret (sz,n,(cells.drop off).take (n*sz)) else .fail|_=> .fail
 |v=>(gV v).bind fun(sz,rows)=> .ret (sz,rows.length,rows.flatten)
def wU :AV->Nat
 | .own _ _ n=>n
 | .bsl _ _ _ _ n=>n
 |_=>0
def zE (y:Nm):AV->Nm
 | .own z _ _=>if z.c=0 then z else y
 | .bsl z _ _ _ _=>z
 |_=>y
def Ala (sz:Nat)(t:Nm)(n':Nat)(cs:List AV):AV->Ia AV
 | .sc (.slice none 0 0)=> .get t fun o=> .put t (.box (o.gen+1) cs false) (.ret (.bsl t (o.gen+1) sz 0 n'))
 | .own z g n=> .get z fun
  | .arr g' sz' _ rows f=>if g'=g/\f=false/\n<=rows.length/\sz'=sz then
    .put z (.no (g+1)) (.get t fun o=> .put t (.box (o.gen+1) ((rows.take n).flatten++cs) false) (.ret (.bsl t (o.gen+1) sz 0 (n+n')))) else .fail
  |_=> .fail
 | .bsl z g sz' off n=> .get z fun
  | .box g' cells f=>if g'=g/\f=false/\off=0/\n*sz<=cells.length/\sz'=sz/\z=t then
    .put z (.no (g+1)) (.get t fun o=> .put t (.box (o.gen+1) (cells.take (n*sz)++cs) false) (.ret (.bsl t (o.gen+1) sz 0 (n+n')))) else .fail
  |_=> .fail
 |_=> .fail
def oT (P:Program)(y:Nm)(t t':TypeId)(s x:AV):Ia AV:=
 match bF P t with
 |some e=>if oX P e/\oA P t' then(qR x).bind fun(sz',n',cells)=>
  if sz'=P.cellsOf e/\0<n'/\(wU s+n')*P.bytesOf e<=140737488355328/\wU s+n'<=maxLen then
   (gS P (zE y s).d (zE y s).i (wU s*P.cellsOf e) (List.replicate n' (dO P e)).flatten cells).bind fun cs=>Ala (P.cellsOf e) (zE y s) n' cs s
  else .fail
  else .fail
 |none=> .fail
/-! ### maps -/
def zG (P:Program)(t:TypeId):Option (TypeId×TypeId):=match P.underlying t with|some (.map kt et)=>some (kt,et)|_=>none
def pV (P:Program)(t:TypeId):Bool:=match P.underlying t with
 |some (.array n e)=> !Iu P e&&kB P e&&P.cellsOf e==1&&P.cellsOf t==n&&(P.info? e).isSome&&(P.info? t).isSome
 |_=>false
def jM (P:Program)(t:TypeId):List TypeId:=match P.underlying t with
 |some (.array n e)=>List.replicate n e
 |_=>[t]
def Hf (P:Program)(kt:TypeId):Value->Bool
 | .int _ _=>(oD P kt).isSome
 | .string _=>mP P kt
 | .agg us=>pV P kt&&cN P (jM P kt) (us.toList.map .sc)
 |_=>false
def jR :Value->Value->Option Bool
 | .int k a,.int k' b=>if k=k' then some (a==b) else none
 | .string a,.string b=>some (decide (a=b))
 | .agg a,.agg b=>sU (a.toList.map .sc) (b.toList.map .sc)
 |_,_=>none
def pC :List AV->Option (List Value)
 |[]=>some []
 | .sc v::cs=>(pC cs).map (v:: ·)
 |_=>none
def BZ :AV->Option Value
 | .sc v=>some v
 | .agg cs=>(pC cs).map fun us=> .agg ⟨us⟩
 |_=>none
def dY (key:Value):List Value->Nat->Option (Option Nat)
 |[],_=>some none
 |k::ks,i=>match jR key k with
  |some true=>some (some i)
  |some false=>dY key ks (i+1)
  |none=>none
def qI (P:Program):AV->Ia (Bool×List Value×List (List AV))
 | .sc (.map none)=> .ret (false,[],[])
 | .dmp ag ks rows=> .ret (ag,ks,rows)
 | .mp x g=> .get x fun
  | .map g' ag ks rows _=>if g'=g then .ret (ag,ks,rows) else .fail
  |_=> .fail
 |_=> .fail
def yA (P:Program)(e:TypeId):Ia AV:=match jG P e,(P.info? e).bind (·.zero) with
 |some z,some (.agg _)=>if oX P e/\z.length=P.cellsOf e/\Iu P e then .ret (.agg z) else .fail
 |some [c],some zv=>if oX P e/\1=P.cellsOf e/\Iu P e=false/\zv.oneCell' then .ret c else .fail
 |_,_=> .fail
def qJ (P:Program)(t:TypeId)(x:AV)(ok:Bool)(i:AV):Ia AV:=
 match BZ i with
 |some key=>match zG P t with
  |some (kt,e)=>if Hf P kt key then(qI P x).bind fun(ag,ks,rows)=>match dY key ks 0 with
   |some (some i)=>match rows[i]? with
    |some r=>if ag=Iu P e then(uC ag r).bind fun v=> .ret (if ok then .tup [v,.sc (.bool true)] else v) else .fail
    |none=> .fail
   |some none=>(yA P e).bind fun v=> .ret (if ok then .tup [v,.sc (.bool false)] else v)
   |none=> .fail
   else .fail
  |none=> .fail
 |none=> .fail
def oE (P:Program)(t:TypeId)(x key v:AV):Ia AV:=
 match zG P t,BZ key with
 |some (kt,e),some kv=>if Hf P kt kv/\(cK v).length=P.cellsOf e/\mD v=Iu P e then
   (fQ P true (dO P e) (cK v)).bind fun r=>match x with
    | .mp x g=> .get x fun
     | .map g' ag ks rows f=>if g'=g/\f=false/\(ks=[]\/ag=Iu P e) then(match dY kv ks 0 with
      |some (some i)=> .put x (.map g (Iu P e) ks (rows.set i r) false) (.ret .any)
      |some none=> .put x (.map g (Iu P e) (ks++[kv]) (rows++[r]) false) (.ret .any)
      |none=> .fail) else .fail
     |_=> .fail
    |_=> .fail
   else .fail
 |_,_=> .fail
def nG (place:Nat->Option (Nat×Nat))(cells:List AV):List (Nat×AV)->Option (List AV)
 |[]=>some cells
 |(i,v)::rest=>match place i with
  |none=>none
  |some (off,size)=>if (cK v).length=size/\off+(cK v).length<=cells.length then nG place (splice cells off (cK v)) rest else none
def uN (P:Program)(t:TypeId)(parts:List (Nat×AV)):Ia AV:=
 if Bz P t then
  match nG (match A5 P t with
    |some (_,e)=>fun i=>some (i*P.cellsOf e,P.cellsOf e)
    |none=>fun i=>((eU P t)[i]?).map fun f=>(f.1,f.2.1)) (((U8 P t).getD []).map .sc) parts with
  |some cs=> .ret (.agg cs)
  |none=> .fail
 else .fail
def fH (P:Program)(e:TypeId):List (Nat×AV)->List (List AV)->Ia (List (List AV))
 |[],rows=> .ret rows
 |(i,v)::rest,rows=>if (cK v).length=P.cellsOf e/\i<rows.length then(fQ P true (dO P e) (cK v)).bind fun r=>fH P e rest (rows.set i r) else .fail
def jU (P:Program)(y:Nm)(t:TypeId)(len:Nat)(parts:List (Nat×AV)):Ia AV:=
 match bF P t with
 |some e=>match jG P e with
  |some z=>if z.length=P.cellsOf e/\oX P e/\len*P.cellsOf e<=16777216/\len<=maxLen then
    (fH P e parts (List.replicate len z)).bind fun rows=>iF y (P.cellsOf e) e rows else .fail
  |none=> .fail
 |none=> .fail
def mO (P:Program)(k i:Nat)(t:TypeId)(len:Nat)(parts:List (Nat×AV)):Ia AV:=
 match bF P t with
 |some e=>match U8 P e with
  |some z=>if oX P e/\z.all (·.oneCell')/\len*P.cellsOf e<=16777216/\len<=maxLen then
    match nG (fun j=>some (j*P.cellsOf e,P.cellsOf e)) (List.replicate len (z.map AV.sc)).flatten parts with
    |some cs=>(gS P k i 0 (List.replicate len (dO P e)).flatten cs).bind fun cs'=> .get ⟨k,i,0⟩ fun o=> .put ⟨k,i,0⟩ (.box (o.gen+1) cs' false) (.ret (.bsl ⟨k,i,0⟩ (o.gen+1) (P.cellsOf e) 0 len))
    |none=> .fail
   else .fail
  |none=> .fail
 |none=> .fail
def vF (P:Program)(t:TypeId)(cs:List AV)(off:Nat):Ia AV:=
 if !kB P t then .fail
 else if Iu P t then(if off+P.cellsOf t<=cs.length then .ret (.agg ((cs.drop off).take (P.cellsOf t))) else .fail)
 else match cs[off]? with|some v=> .ret v|none=> .fail
def qQ (P:Program)(t:TypeId)(x:AV)(f:Nat):Ia AV:=
 match (eU P t)[f]?,x with
 |some (off,_,ft),.agg cs=>vF P ft cs off
 |_,_=> .fail
def mJ (P:Program)(t:TypeId)(x:AV):AV->Ia AV
 | .sc (.int _ i)=>if 0<=i then
   match x with
   | .agg cs=>match A5 P t with
    |some (len,e)=>if i.toNat<len/\kB P e then vF P e cs (i.toNat*P.cellsOf e) else .fail
    |none=> .fail
   | .sc (.string s)=>if mP P t then(match s.data[i.toNat]? with
    |some b=> .ret (.sc (.int .u8 b.toNat))
    |none=> .fail) else .fail
   |_=> .fail
  else .fail
 |_=> .fail
def dF :List (List AV)->Option (List UInt8)
 |[]=>some []
 |[.sc (.int .u8 n)]::rs=>(dF rs).map (UInt8.ofNat n.toNat:: ·)
 |_=>none
def oQ (P:Program)(y:Nm)(src dst:TypeId)(x:AV):Ia AV:=
 match x with
 | .sc (.int _ n)=>match oD P dst with
  |some k=>if (P.underlying src).isSome then .ret (.sc (.int k (k.wrap n))) else .fail
  |none=> .fail
 | .sc (.string s)=>if mP P src then(if mP P dst then .ret (.sc (.string s)) else match bF P dst with
  |some e=>if oD P e=some .u8/\P.cellsOf e=1/\s.size<=maxLen then iF y 1 e (s.data.toList.map fun b=>[.sc (.int .u8 b.toNat)]) else .fail
  |none=> .fail) else .fail
 |x=>match bF P src with
  |some e=>if mP P dst/\oD P e=some .u8 then(gV x).bind fun(sz,rows)=>match dF rows with
    |some l=>if sz=1\/rows=[] then .ret (.sc (.string ⟨⟨l⟩⟩)) else .fail
    |none=> .fail
   else .fail
  |none=> .fail
/-! ### calls -/
def fX (P:Program)(fz:Bool):List TypeId->List AV->Ia (List AV)
 |[],[]=> .ret []
 |t::ts,v::vs=>
  if (cK v).length=P.cellsOf t/\mD v=Iu P t then
   (vY v).bind fun _=>(fQ P fz (dO P t) (cK v)).bind fun cs=>(fX P fz ts vs).bind fun r=>
    (uC (Iu P t) cs).bind fun a=> .ret (a::r)
  else .fail
 |[],v::vs=>(kL fz v).bind fun a=>(fX P fz [] vs).bind fun r=> .ret (a::r)
 |_::_,[]=> .fail
def dW (P:Program)(ct:TypeId):AV->Ia AV
 | .sc (.slice none 0 0)=>match bF P ct with
  |some e=> .ret (.vec (P.cellsOf e) [])
  |none=> .fail
 | .sc v=>if v.oneCell' then .ret (.sc v) else .fail
 | .sl _ sz rows=> .ret (.sl false sz rows)
 | .dp c o=> .ret (.dp c o)
 | .own x g n=> .get x fun
  | .arr g' sz e rows f=>if g'=g then(if f=false/\n=rows.length/\bF P ct=some e then .put x (.no (g+1)) (.ret (.vec sz rows)) else .put x (.arr g sz e rows true) (.ret (.sl false sz (rows.take n)))) else .fail
  |_=> .fail
 | .fn f caps=>(nK true caps).bind fun cs=> .ret (.fn f cs)
 | .dmp ag ks rows=> .ret (.dmp ag ks rows)
 | .mp x g=> .get x fun
  | .map g' ag ks rows _=>if g'=g then .put x (.map g ag ks rows true) (.ret (.dmp ag ks rows)) else .fail
  |_=> .fail
 | .bsl x g sz off n=>eD P true ct (.bsl x g sz off n)
 |_=> .fail
def rZ (P:Program):List TypeId->List AV->Ia (List AV)
 |_,[]=> .ret []
 |[],_::_=> .fail
 |t::ts,v::vs=>(dW P t v).bind fun v'=>(rZ P ts vs).bind fun vs'=> .ret (v'::vs')
def zT (P:Program)(t:TypeId)(v:AV):Ia AV:=
 if (cK v).length=P.cellsOf t/\mD v=Iu P t then(vY v).bind fun _=>(rZ P (dO P t) (cK v)).bind fun cs=>uC (Iu P t) cs
 else .fail
def kR (P:Program)(fr:Nat->AV)(t:TypeId):ResultVar->Ia AV
 | .tmp s=>zT P t (fr s)
 | .cell a t'=>if t'=t then(pM P t (fr a)).bind (zT P t) else .fail
def aN (P:Program)(fr:Nat->AV):List TypeId->List ResultVar->Ia (List AV)
 |[],[]=> .ret []
 |t::ts,r::rs=>(kR P fr t r).bind fun v=>(aN P fr ts rs).bind fun vs=> .ret (v::vs)
 |_,_=> .fail
def eI (P:Program)(ct:TypeId)(y:Nm):AV->Ia AV
 | .vec sz rows=>match bF P ct with
  |some e=> .get y fun o=> .put y (.arr (o.gen+1) sz e rows false) (.ret (.own y (o.gen+1) rows.length))
  |none=> .fail
 | .sc v=> .ret (.sc v)
 | .sl f sz rows=> .ret (.sl f sz rows)
 | .dp c o=> .ret (.dp c o)
 | .fn f caps=> .ret (.fn f caps)
 | .dmp ag ks rows=> .ret (.dmp ag ks rows)
 |_=> .fail
def rH (P:Program)(k d:Nat):Nat->List TypeId->List AV->Ia (List AV)
 |_,_,[]=> .ret []
 |_,[],_::_=> .fail
 |c,t::ts,v::vs=>(eI P t ⟨k,d,c⟩ v).bind fun v'=>(rH P k d (c+1) ts vs).bind fun vs'=> .ret (v'::vs')
def nY (P:Program)(k d c:Nat)(t:TypeId)(v:AV):Ia AV:=
 if (cK v).length=P.cellsOf t then
  if Iu P t then(match v with
   | .agg vs=>(rH P k d (c+1) (dO P t) vs).bind fun cs=> .ret (.agg cs)
   |_=> .fail) else eI P t ⟨k,d,c⟩ v
 else .fail
def jN (P:Program)(k d:Nat):Nat->List TypeId->List AV->Ia (List AV)
 |_,[],[]=> .ret []
 |c,t::ts,v::vs=>(nY P k d c t v).bind fun v'=>(jN P k d (c+1000) ts vs).bind fun vs'=> .ret (v'::vs')
 |_,_,_=> .fail
def qG (P:Program)(k d:Nat):List TypeId->List AV->Ia AV
 |[t],[v]=>nY P k d 0 t v
 |ts,vs=>(jN P k d 1000 ts vs).bind fun r=> .ret (.tup r)
/-! ### functions -/
def Il (P:Program)(f:Nat):Bool:=match P.funcs[f]? with
 |some fn=>fn.body.isSome&& !(fn.name== "runtime.NumGoroutine")
 |none=>false
def Um (P:Program)(f:Nat):List TypeId:=match P.funcs[f]? with|some fn=>fn.params.toList|none=>[]
def Iv (P:Program)(f:Nat):List TypeId:=match P.funcs[f]? with|some fn=>fn.resultTypes.toList|none=>[]
def Af (P:Program)(f:Nat):Bool:=(Iv P f).all (flatT P)
def Uy (fr:Nat->AV):Operand->AV
 | .tmp t=>fr t
 | .const (.agg us)=> .agg (us.toList.map .sc)
 | .const v=> .sc v
 | .func f=>if f<1000000 then .fn f [] else .any
 | .global g=>match tT g with
  |some vs=> .dp (vs.map .sc) 0
  |none=> .any
structure aS where
 dat:Nat->List AV->Option (List AV)
 hpc:Nat->Nat->Nat->List AV->Hp->Option (AV×Hp)
structure cD where
 eq:TypeId->Bool
 hp:Nat->Bool
 yl:Nat->Bool
 inl:Nat->Bool:=fun _=>false
 frz:Nat->Bool:=fun _=>false
 off:Nat:=0
 ws:Nat:=0
 bx:TypeId->Bool:=fun _=>false
 cl:Bool:=false
def cD.dry (E:cD):cD:={E with yl:=fun _=>false}
def cD.at (E:cD)(o:Nat):cD:={E with off:=o}
def jF (P:Program)(E:cD)(k d:Nat)(call:aS)(f:Nat)(args:List AV):Ia AV:=
 if Il P f then
  if E.hp f then .ext (call.hpc k d f args) .ret else
  (fX P (!Af P f) (Um P f) args).bind fun as=>match call.dat f as with
   |some rs=>if !Af P f||rs.all Cpa then qG P k d (Iv P f) rs else .fail
   |none=> .fail
 else .fail
def qT (P:Program)(y:Nm)(t:TypeId):AV->Ia AV
 | .sc (.slice none 0 0)=>match bF P t with
  |some e=>iF y (P.cellsOf e) e []
  |none=> .fail
 |v=> .ret v
def On (P:Program)(t:TypeId):Bool:=match P.underlying t with|some (.interface _)=>false|some _=>true|none=>false
def fnN (f:Nat):Nat:=if f<1000000 then f else f - 1000000
def fnA (f:Nat)(as cs:List AV):List AV:=if f<1000000 then as++cs else cs++as
def fT :List AV->Option (List Value)
 |[]=>some []
 | .sc v::cs=>(fT cs).map (v:: ·)
 | .fn f []::cs=>(fT cs).map (sW f []:: ·)
 |_=>none
def bL (P:Program)(E:cD)(k:Nat)(call:aS)(fr:Nat->AV)(o:Oper):Ia AV:=
 match o.op with
 | .move x=> .ret (Uy fr x)
 | .assign x=>qT P ⟨k,E.off+o.dst.getD 0,0⟩ o.type (Uy fr x)
 | .pick c a b=>match Uy fr c with
  | .sc (.bool t)=> .ret (if t then Uy fr a else Uy fr b)
  |_=> .fail
 | .alloc t=>match U8 P t with
  |some z=>rJ P k (E.off+o.dst.getD 0) t (z.map .sc)
  |none=> .fail
 | .box t x=>(vY (Uy fr x)).bind fun _=>rJ P k (E.off+o.dst.getD 0) t (cK (Uy fr x))
 | .build t parts=>(xT (parts.toList.map fun p=>Uy fr p.2)).bind fun _=>uN P t (parts.toList.map fun p=>(p.1,Uy fr p.2))
 | .buildSlice t len parts=>(xT (parts.toList.map fun p=>Uy fr p.2)).bind fun _=>if (E.bx t||parts.toList.any fun p=>(cK (Uy fr p.2)).any Wx) then mO P k (E.off+o.dst.getD 0) t len (parts.toList.map fun p=>(p.1,Uy fr p.2)) else jU P ⟨k,E.off+o.dst.getD 0,0⟩ t len (parts.toList.map fun p=>(p.1,Uy fr p.2))
 | .load t a=>pM P t (Uy fr a)
 | .store t a v=>if (P.info? t).isSome then(vY (Uy fr v)).bind fun _=>uA P t (Uy fr a) (Uy fr v) else .fail
 | .nilCheck x=>kP 0 (Uy fr x)
 | .binOp op t x y _=>match Cka P E.eq op t (Uy fr x) (Uy fr y) with
  |some v=> .ret v
  |none=> .fail
 | .unOp op _ x=>match MT op (Uy fr x) with
  |some v=> .ret v
  |none=> .fail
 | .convert s d x=>oQ P ⟨k,E.off+o.dst.getD 0,0⟩ s d (Uy fr x)
 | .makeMap t none=>if (zG P t).isSome then .get ⟨k,E.off+o.dst.getD 0,0⟩ fun b=> .put ⟨k,E.off+o.dst.getD 0,0⟩ (.map (b.gen+1) false [] [] false) (.ret (.mp ⟨k,E.off+o.dst.getD 0,0⟩ (b.gen+1))) else .fail
 | .lookup t x i ok=>qJ P t (Uy fr x) ok (Uy fr i)
 | .mapUpdate t x key v=>(vY (Uy fr v)).bind fun _=>oE P t (Uy fr x) (Uy fr key) (Uy fr v)
 | .insert t x key v=>(vY (Uy fr v)).bind fun _=>oE P t (Uy fr x) (Uy fr key) (Uy fr v)
 | .makeSlice t l c=>if E.bx t then uD P ⟨k,E.off+o.dst.getD 0,0⟩ t (Uy fr l) (Uy fr c) else yD P ⟨k,E.off+o.dst.getD 0,0⟩ t (Uy fr l) (Uy fr c)
 | .slice t x lo hi mx=>kO P t (Uy fr x) (lo.map (Uy fr)) (hi.map (Uy fr)) (mx.map (Uy fr))
 | .fieldAddr s x f=>uL P s (Uy fr x) f
 | .field t x f=>qQ P t (Uy fr x) f
 | .indexAddr t x i=>pG P t (Uy fr x) (Uy fr i)
 | .index t x i=>mJ P t (Uy fr x) (Uy fr i)
 | .extract t i=>match Uy fr t with
  | .tup vs=>match vs[i]? with
   |some v=> .ret v
   |none=> .fail
  |_=> .fail
 | .makeInterface t x=>if On P t then match Uy fr x with
  | .sc v=> .ret (.sc (.iface t v))
  | .agg cs=>match fT cs with
   |some us=> .ret (.sc (.iface t (.agg ⟨us⟩)))
   |none=> .fail
  |_=> .fail
  else .fail
 | .makeFunc (.func f) first caps=>if f<1000000 then(if first.isEmpty then .ret (.fn f (caps.toList.map (Uy fr))) else if caps.isEmpty then .ret (.fn (f+1000000) (first.toList.map (Uy fr))) else .fail) else .fail
 | .call c=>match c.callee,c.args.toList,c.argTypes.toList with
  | .builtin .len,[x],[t]=>vI P t (Uy fr x)
  | .builtin .append,[s,x],[t,t']=>if E.bx t then oT P ⟨k,E.off+o.dst.getD 0,0⟩ t t' (Uy fr s) (Uy fr x) else qU P ⟨k,E.off+o.dst.getD 0,0⟩ t t' (Uy fr s) (Uy fr x)
  | .builtin .copy,[d,x],[t,_]=>yT P t (Uy fr d) (Uy fr x)
  | .builtin .min,[x,y],_=>match Uy fr x,Uy fr y with
   | .sc (.int k a),.sc (.int _ b)=> .ret (.sc (.int k (min a b)))
   |_,_=> .fail
  | .builtin .max,[x,y],_=>match Uy fr x,Uy fr y with
   | .sc (.int k a),.sc (.int _ b)=> .ret (.sc (.int k (max a b)))
   |_,_=> .fail
  | .value x,args,_=>match Uy fr x with
   | .fn f cs=>jF P E k (E.off+o.dst.getD 0) call (fnN f) (fnA f (args.map (Uy fr)) cs)
   | .sc (.func (.yield l) a b)=>if E.yl l=true/\args.length=1/\a.size=0/\b.size=0 then .ret (.sc (.bool true)) else .fail
   |_=> .fail
  |_,_,_=> .fail
 |_=> .fail
/-! ### regions and code -/
structure AS where
 fr:Nat->AV
 hp:Hp
def Uw (fr:Nat->AV)(d:Option Nat)(v:AV):Nat->AV:=match d with
 |some d=>fun i=>if i=d then v else fr i
 |none=>fr
def bD (all:Array Oper)(fr:Nat->AV)(o:Oper):Option Bool:=match o.guard with
 |none=>some true
 |some (j,b)=>match (all[j]?).bind (·.dst) with
  |some d=>match fr d with
   | .sc (.bool c)=>some (c==b)
   | .sc (.tuple _)=>some false
   |_=>none
  |none=>none
def cW (P:Program)(E:cD)(k:Nat)(call:aS)(all:Array Oper):List Oper->AS->Option AS
 |[],st=>some st
 |o::os,st=>match bD all st.fr o with
  |some true=>match (bL P E k call st.fr o).run st.hp with
   |some (v,hp)=>cW P E k call all os ⟨Uw st.fr o.dst v,hp⟩
   |none=>none
  |some false=>cW P E k call all os ⟨Uw st.fr o.dst (.sc undef),st.hp⟩
  |none=>none
/-! A region that draws its order:what each operation reads and writes. -/
def eqS :Value->Value->Bool
 | .int k n,.int k' n'=>decide (k=k')&&decide (n=n')
 | .bool a,.bool b=>a==b
 | .string a,.string b=>decide (a=b)
 | .nilFunc,.nilFunc=>true
 | .nilIface,.nilIface=>true
 |_,_=>false
mutual
def wL :AV->AV->Bool
 | .any,.any=>true
 | .sc v,.sc u=>eqS v u
 | .sl f s r,.sl f' s' r'=>f==f'&&s==s'&&xR r r'
 | .dp c o,.dp c' o'=>o==o'&&sE c c'
 | .own x g n,.own x' g' n'=>decide (x=x')&&g==g'&&n==n'
 | .ptr x g n,.ptr x' g' n'=>decide (x=x')&&g==g'&&n==n'
 | .eptr x g i n,.eptr x' g' i' n'=>decide (x=x')&&g==g'&&i==i'&&n==n'
 | .agg c,.agg c'=>sE c c'
 | .tup c,.tup c'=>sE c c'
 | .vec s r,.vec s' r'=>s==s'&&xR r r'
 | .fn f c,.fn f' c'=>f==f'&&sE c c'
 | .bsl x g s o n,.bsl x' g' s' o' n'=>decide (x=x')&&g==g'&&s==s'&&o==o'&&n==n'
 | .mp x g,.mp x' g'=>decide (x=x')&&g==g'
 |_,_=>false
def sE :List AV->List AV->Bool
 |[],[]=>true
 |a::l,b::m=>wL a b&&sE l m
 |_,_=>false
def xR :List (List AV)->List (List AV)->Bool
 |[],[]=>true
 |a::l,b::m=>sE a b&&xR l m
 |_,_=>false
end
def eqO :It->It->Bool
 | .no g,.no g'=>g==g'
 | .box g c f,.box g' c' f'=>g==g'&&sE c c'&&f==f'
 | .arr g s e r f,.arr g' s' e' r' f'=>g==g'&&s==s'&&decide (e=e')&&xR r r'&&f==f'
 |_,_=>false
inductive I8 where
 |all (x:Nm)
 |hd (x:Nm)
 |cl (x:Nm) (off:Nat)
 |top
 |but (l:List Nm)
deriving DecidableEq
def I8.nm :I8->Nm
 | .top=>⟨0,0,0⟩
 | .but _=>⟨0,0,0⟩
 | .all x=>x
 | .hd x=>x
 | .cl x _=>x
def I8.meets :I8->I8->Bool
 | .top,_=>true
 |_,.top=>true
 | .but _,.but _=>true
 | .but l,g=> !l.contains g.nm
 |f,.but l=> !l.contains f.nm
 | .all x,g=>x==g.nm
 |f,.all y=>f.nm==y
 | .hd x,.hd y=>x==y
 | .cl x o,.cl y q=>x==y&&o==q
 |_,_=>false
def Ia.runF {α:Type}:Ia α->Hp->List I8->List I8->Option (α×Hp×List I8×List I8)
 | .ret a,hp,R,W=>some (a,hp,R,W)
 | .get x k,hp,R,W=>(k (hp x)).runF hp (.all x::R) W
 | .put x o k,hp,R,W=>k.runF (Ur hp x o) R (.all x::W)
 | .hdr x k,hp,R,W=>(k (hp x).head).runF hp (.hd x::R) W
 | .getC x off k,hp,R,W=>match eV (hp x) off with
  |some v=>(k v).runF hp (.cl x off:: .hd x::R) W
  |none=>none
 | .putC x off v k,hp,R,W=>match Uq (hp x) off v with
  |some o=>k.runF (Ur hp x o) (.hd x::R) (.cl x off::W)
  |none=>none
 | .ext g k,hp,R,W=>match g hp with
  |some (v,hp')=>(k v).runF hp' (.top::R) (.top::W)
  |none=>none
 | .fail,_,_,_=>none
structure gZ where
 R:List I8
 W:List I8
def neV :AV->AV->Bool
 | .sc (.int _ n),.sc (.int _ m)=>n !=m
 | .own _ _ n,.own _ _ m=>n !=m
 |_,_=>false
def neL :List AV->List AV->Bool
 |a::l,b::m=>neV a b||neL l m
 |[],[]=>false
 |_,_=>true
def neO :It->It->Bool
 | .no g,.no h=>g !=h
 | .box g c _,.box h d _=>g !=h||neL c d
 | .arr g _ _ r _,.arr h _ _ q _=>g !=h||r.length !=q.length
 | .no _,.box .. =>true
 | .no _,.arr .. =>true
 |_,_=>false
open Classical in
noncomputable def eqP (a b:It):Bool:=if eqO a b then true else if neO a b then false else decide (a=b)
noncomputable def gG (E:cD)(k:Nat)(hp hp':Hp)(W:List I8):List I8:=
 if E.ws=0 then W else if W.contains .top then[.but ((((List.range E.ws).flatMap fun i=>(List.range 6).map fun c=>(⟨k,E.off+i,c⟩:Nm))).filter fun x=>if E.cl then eqP (hp x) (hp' x) else eqO (hp x) (hp' x))] else W
noncomputable def eK (P:Program)(E:cD)(k:Nat)(call:aS)(all:Array Oper)(o:Oper)(st:AS):Option (AS×gZ):=
 match bD all st.fr o with
 |some true=>match (bL P E k call st.fr o).runF st.hp [] [] with
  |some (v,hp,R,W)=>some (⟨Uw st.fr o.dst v,hp⟩,⟨R,gG E k st.hp hp W⟩)
  |none=>none
 |some false=>some (⟨Uw st.fr o.dst (.sc undef),st.hp⟩,⟨[],[]⟩)
 |none=>none
noncomputable def aG (P:Program)(E:cD)(k:Nat)(call:aS)(all:Array Oper):List Oper->AS->List gZ->Option (AS×List gZ)
 |[],st,fs=>some (st,fs.reverse)
 |o::os,st,fs=>match eK P E k call all o st with
  |some (st',f)=>aG P E k call all os st' (f::fs)
  |none=>none
def fS (all:Array Oper)(o:Oper):List Nat:=
 (o.op.operands.toList.filterMap fun| .tmp t=>some t|_=>none)++
 (match o.guard with|some (j,_)=>((all[j]?).bind (·.dst)).toList|none=>[])
def wMask (r:List Nat)(es:List Edge):Nat:=es.foldl (fun m e=>if Region.binds .any e then m|||(1<<<e.on|||r.getD e.on 0) else m) 0
def waits :List Oper->List Nat->List Nat
 |[],acc=>acc.reverse
 |o::os,acc=>waits os (wMask acc.reverse o.after.toList::acc)
def apartF (f g:gZ):Bool:=f.W.all (fun x=>g.R.all (fun y=> !x.meets y)&&g.W.all (fun y=> !x.meets y))&&g.W.all (fun x=>f.R.all (fun y=> !x.meets y))
def L2 (all:Array Oper)(o p:Oper):Bool:=
 (match o.dst with|some d=> !((fS all p).contains d)&&p.dst !=some d|none=>true)&&(match p.dst with|some d=> !((fS all o).contains d)|none=>true)
def K3 (all:Array Oper):Bool:=
 let ws:=waits all.toList []
 ((List.range all.size).all fun j=>(all.getD j default).after.toList.all fun e=> !(Region.binds .any e)||decide (e.on<j))&&
 ((List.range all.size).all fun j=>(List.range j).all fun i=>((ws.getD j 0).testBit i)||L2 all (all.getD i default) (all.getD j default))
def Gu (all:Array Oper)(fs:List gZ):Bool:=
 let ws:=waits all.toList []
 (List.range all.size).all fun j=>(List.range j).all fun i=>((ws.getD j 0).testBit i)||apartF (fs.getD i ⟨[],[]⟩) (fs.getD j ⟨[],[]⟩)
def EB (ops:Array Oper):List Nat:=(ops.toList.filterMap fun o=>match o.op with| .load _ (.tmp s)=>some s|_=>none).filter fun s=>
 !(ops.toList.any fun o=>(match o.op with| .store _ (.tmp t) _=>t==s|_=>false)||o.dst==some s)
def dryOne (s:Nat)(st:AS):AS:=match st.fr s with
 | .ptr x g off=>match (kL true (.ptr x g off)).run st.hp with
  |some (v,hp')=>⟨fun i=>if i=s then v else st.fr i,hp'⟩
  |none=>st
 |_=>st
def dryAll :List Nat->AS->AS
 |[],st=>st
 |s::ss,st=>dryAll ss (dryOne s st)
noncomputable def bR (P:Program)(E:cD)(k:Nat)(call:aS)(ops:Array Oper)(draw:Bool)(st:AS):Option AS:=
 if draw then
  match aG P E.dry k call ops ops.toList st [] with
  |some (st',fs)=>if K3 ops&&Gu ops fs then some st' else
   match aG P E.dry k call ops ops.toList (dryAll (EB ops) st) [] with
   |some (st',fs)=>if K3 ops&&Gu ops fs then some st' else none
   |none=>none
  |none=>none
 else cW P E k call ops ops.toList st
inductive Ex where
 |normal
 |exit (id:Nat)
 |ret
 |panic (v:Value)
noncomputable def bP (P:Program)(E:cD)(k:Nat)(call:aS):Nat->Code->AS->Option (Ex×AS)
 |0,_,_=>none
 |n+1,c,st=>match c with
  | .skip=>some (.normal,st)
  | .label _=>some (.normal,st)
  | .region _ ops d=>(bR P E k call ops d st).map fun s=>(.normal,s)
  | .seq a b=>match bP P E k call n a st with
   |some (.normal,s)=>bP P E k call n b s
   |r=>r
  | .cond c a b=>match Uy st.fr c with
   | .sc (.bool t)=>if t then bP P E k call n a st else bP P E k call n b st
   |_=>none
  | .block id c=>match bP P E k call n c st with
   |some (.exit i,s)=>if i=id then some (.normal,s) else some (.exit i,s)
   |r=>r
  | .loop c=>match bP P E k call n c st with
   |some (.normal,s)=>bP P E k call n (.loop c) s
   |r=>r
  | .exit id=>some (.exit id,st)
  | .ret=>some (.ret,st)
  | .scope c=>bP P E k call n c st
  |_=>none
def Im (N:Nat):Code->Bool
 | .region _ ops _=>ops.toList.all fun o=>(o.dst.toList.all (· <N))&&o.op.operands.toList.all fun| .tmp t=>decide (t<N)|_=>true
 | .seq a b=>Im N a&&Im N b
 | .cond c a b=>(match c with| .tmp t=>decide (t<N)|_=>true)&&Im N a&&Im N b
 | .block _ c=>Im N c
 | .loop c=>Im N c
 | .scope c=>Im N c
 |_=>true
def resIn (N:Nat):ResultVar->Bool
 | .tmp t=>decide (t<N)
 | .cell t _=>decide (t<N)
def Uh (args:List AV):Nat->AV:=fun i=>args.getD i (.sc undef)
def U9 :Hp:=fun _=> .no 0
def Bb (fn:Func):Bool:=match fn.body with
 |some c=>Im fn.ntmps c&&fn.results.toList.all (resIn fn.ntmps)&&decide (fn.params.size+fn.nfree<=fn.ntmps)
 |none=>false
noncomputable def tF (P:Program)(E:cD)(call:aS)(n:Nat)(fn:Func)(args:List AV):Option (List AV):=
 match fn.body with
 |some c=>if Bb fn&&args.length==fn.params.size+fn.nfree then match bP P E 0 call n c ⟨Uh args,U9⟩ with
   |some (.exit _,_)=>none
   |some (_,st)=>((aN P st.fr fn.resultTypes.toList fn.results.toList).run st.hp).map (·.1)
   |none=>none
  else none
 |none=>none
/-! A call on the caller's heap:what comes of it is lowered to tN of the caller. -/
def BW (x:Nm)(g:Nat)(y:Nm)(cs:List AV)(off:Nat):Ia AV:= .get x fun
 | .box g' _ fz=>if g'=g/\fz=false/\x≠y then .put x (.no (g+1)) (.get y fun o=> .put y (.box (o.gen+1) cs false) (.ret (.ptr y (o.gen+1) off))) else .fail
 |_=> .fail
def xQ (f:Nat->AV->Ia AV):Nat->List AV->Ia (List AV)
 |_,[]=> .ret []
 |c,v::vs=>(f c v).bind fun v'=>(xQ f (c+1) vs).bind fun vs'=> .ret (v'::vs')
def iS (P:Program)(k d:Nat):Nat->Bool->Nat->AV->Ia AV
 |_,_,_,.sc v=> .ret (.sc v)
 |_,_,_,.sl f sz rows=> .ret (.sl f sz rows)
 |_,_,_,.dp c o=> .ret (.dp c o)
 |_,_,_,.dmp ag ks rows=> .ret (.dmp ag ks rows)
 |_,_,_,.mp x g=>if x.d<=k then .ret (.mp x g) else .get x fun
  | .map g' ag ks rows _=>if g'=g then .put x (.map g ag ks rows true) (.ret (.dmp ag ks rows)) else .fail
  |_=> .fail
 |_,_,c,.own x g n=>if x.d<=k then .ret (.own x g n) else settle P ⟨k,d,c⟩ 0 (.own x g n)
 |_,_,_,.eptr x g i off=>if x.d<=k then .ret (.eptr x g i off) else .fail
 |0,_,_,.ptr x g off=>if x.d<=k then .ret (.ptr x g off) else .fail
 |n+1,cap,c,.ptr x g off=>if x.d<=k then .ret (.ptr x g off) else .get x fun
  | .box g' cells fz=>if g'=g then
    (if cap&&cells.all Gt then .put x (.box g cells true) (.ret (.dp cells off))
     else if fz=false then(xQ (iS P k d n false) (c*100+1) cells).bind fun cs=>BW x g ⟨k,d,c⟩ cs off else .fail) else .fail
  |_=> .fail
 |n+1,_,c,.fn f caps=>(xQ (iS P k d n true) (c*100+1) caps).bind fun cs=> .ret (.fn f cs)
 |_,_,_,_=> .fail
def uE (P:Program)(k:Nat)(y:Nm)(v:AV):Ia AV:=iS P k y.i 6 false y.c v
def rM (P:Program)(k d:Nat):Nat->List AV->Ia (List AV)
 |_,[]=> .ret []
 |c,v::vs=>(uE P k ⟨k,d,c⟩ v).bind fun v'=>(rM P k d (c+1) vs).bind fun vs'=> .ret (v'::vs')
def rK (P:Program)(k d c:Nat):AV->Ia AV
 | .agg cs=>(rM P k d (c+1) cs).bind fun vs=> .ret (.agg vs)
 |v=>uE P k ⟨k,d,c⟩ v
def jO (P:Program)(fr:Nat->AV):ResultVar->Ia AV
 | .tmp s=> .ret (fr s)
 | .cell a t=>pM P t (fr a)
def kG (P:Program)(fr:Nat->AV)(k d:Nat):Nat->List ResultVar->Ia (List AV)
 |_,[]=> .ret []
 |c,r::rs=>(jO P fr r).bind fun v=>(rK P k d c v).bind fun v'=>(kG P fr k d (c+1000) rs).bind fun vs=> .ret (v'::vs)
def dU (P:Program)(fr:Nat->AV)(k d:Nat):List ResultVar->Ia AV
 |[r]=>(jO P fr r).bind fun v=>rK P k d 0 v
 |rs=>(kG P fr k d 1000 rs).bind fun vs=> .ret (.tup vs)
noncomputable def nJ (P:Program)(E:cD)(call:aS)(n:Nat)(fn:Func)(k d:Nat)(args:List AV)(hp:Hp):Option (AV×Hp):=
 match fn.body with
 |some c=>if Bb fn&&args.length==fn.params.size+fn.nfree then match bP P E (k+1) call n c ⟨Uh args,hp⟩ with
   |some (.exit _,_)=>none
   |some (_,st)=>(dU P st.fr k d fn.results.toList).run st.hp
   |none=>none
  else none
 |none=>none
def lU (P:Program)(fr:Nat->AV):List ResultVar->Ia (List AV)
 |[]=> .ret []
 |r::rs=>(jO P fr r).bind fun v=>(lU P fr rs).bind fun vs=> .ret (v::vs)
def lT (P:Program)(fr:Nat->AV):List ResultVar->Ia AV
 |[r]=>jO P fr r
 |rs=>(lU P fr rs).bind fun vs=> .ret (.tup vs)
noncomputable def nI (P:Program)(E:cD)(call:aS)(n:Nat)(fn:Func)(k d:Nat)(args:List AV)(hp:Hp):Option (AV×Hp):=
 match fn.body with
 |some c=>if Bb fn&&args.length==fn.params.size+fn.nfree then match bP P (E.at ((d+1)*1000)) k call n c ⟨Uh args,hp⟩ with
   |some (.exit _,_)=>none
   |some (_,st)=>(lT P st.fr fn.results.toList).run st.hp
   |none=>none
  else none
 |none=>none
def BO :List AV->AV
 |[v]=>v
 |vs=> .tup vs
def mB (P:Program)(fr:Nat->AV)(ts:List TypeId)(rvs:List ResultVar):Ia AV:=
 (lU P fr rvs).bind fun vs=>(fX P true ts vs).bind fun as=> .ret (BO as)
noncomputable def nH (P:Program)(E:cD)(call:aS)(n:Nat)(fn:Func)(k:Nat)(args:List AV)(hp:Hp):Option (AV×Hp):=
 match fn.body with
 |some c=>if Bb fn&&args.length==fn.params.size+fn.nfree then match bP P E (k+1) call n c ⟨Uh args,hp⟩ with
   |some (.exit _,_)=>none
   |some (_,st)=>(mB P st.fr fn.resultTypes.toList fn.results.toList).run st.hp
   |none=>none
  else none
 |none=>none
noncomputable def U4 (P:Program)(E:cD)(X:aS):Nat->aS
 |0=>X
 |n+1=>{
  dat:=fun f args=>match X.dat f args with
   |some rs=>some rs
   |none=>match P.funcs[f]? with
    |some fn=>tF P E (U4 P E X n) n fn args
    |none=>none
  hpc:=fun k d f args hp=>match X.hpc k d f args hp with
   |some r=>some r
   |none=>match P.funcs[f]? with
    |some fn=>if E.inl f then nI P E (U4 P E X n) n fn k d args hp else if E.frz f then nH P E (U4 P E X n) n fn k args hp else nJ P E (U4 P E X n) n fn k d args hp
    |none=>none}
end Go.Ab
namespace Go.Ab
section
open Go
variable {a:AV}{R:AV->Value->Prop}{rows:List (List AV)}{as r':List AV}{us:List Value}{i sz:Nat}{x:Nm}{u:Value}
/-! ### lists,one by one -/
def Ue (R:AV->Value->Prop)(as:List AV)(us:List Value):Prop:=as.length=us.length/\ ∀(i:Nat) (a:AV) (u:Value),as[i]?=some a->us[i]?=some u->R a u
theorem Ue.nil :Ue R [] []:=⟨rfl,fun i a u h=>by simp at h⟩
theorem Ue.cons(h:R a u)(hs:Ue R as us):Ue R (a::as) (u::us):=by
 refine⟨by simp[hs.1],fun i b v hb hv=>?_⟩
 cases i with
 |zero=>simp at hb hv;subst hb;subst hv;exact h
 |succ i=>exact hs.2 i b v (by simpa using hb) (by simpa using hv)
theorem Ue.cons_inv(h:Ue R (a::as) us): ∃v vs,us=v::vs/\R a v/\Ue R as vs:=by
 cases us with
 |nil=>have:=h.1;simp at this
 |cons v vs=>exact⟨v,vs,rfl,h.2 0 a v rfl rfl,by have:=h.1;simpa using this,fun i b u hb hu=>h.2 (i+1) b u (by simpa using hb) (by simpa using hu)⟩
theorem Ue.imp {R':AV->Value->Prop}(hr: ∀a u,R a u->R' a u)(h:Ue R as us):Ue R' as us:=⟨h.1,fun i a u ha hu=>hr _ _ (h.2 i a u ha hu)⟩
theorem Ue.get(h:Ue R as us)(ha:as[i]?=some a): ∃u,us[i]?=some u/\R a u:=by
 have hi:i<us.length:=by rw[<-h.1];exact(Oh.1 ha).1
 exact⟨us[i],Bs hi,h.2 i a _ ha (Bs hi)⟩
theorem Ue.append{bs:List AV}{vs:List Value}(h:Ue R as us)(h':Ue R bs vs):Ue R (as++bs) (us++vs):=by
 refine⟨by simp[h.1,h'.1],fun i a u ha hu=>?_⟩;by_cases hi:i<as.length
 ·rw[Acu hi] at ha
  rw[Acu (by rw[<-h.1];exact hi)] at hu;exact h.2 i a u ha hu
 ·rw[Ab9 Zo] at ha
  rw[Ab9 (by rw[<-h.1];omega)] at hu;exact h'.2 _ a u ha (by rw[h.1];exact hu)
theorem Ue.take(h:Ue R as us)(n:Nat):Ue R (as.take n) (us.take n):=by
 refine⟨by simp[h.1],fun i a u ha hu=>?_⟩;rw[xZ] at ha hu
 split at ha
 ·rename_i hi;rw[Ka hi] at hu;exact h.2 i a u ha hu
 ·cases ha
theorem Ue.drop(h:Ue R as us)(n:Nat):Ue R (as.drop n) (us.drop n):=by
 refine⟨by simp[h.1],fun i a u ha hu=>?_⟩;rw[zD] at ha hu;exact h.2 _ a u ha hu
theorem Ue.splice{vs:List AV}{ws:List Value}(h:Ue R as us)(h':Ue R vs ws)(off:Nat)(hl:off+vs.length<=as.length):
  Ue R (splice as off vs) (us.take off++ws++us.drop (off+ws.length)):=by
 unfold Go.Ab.splice
 split
 ·rename_i e
  have e0:off=0:=Zo;subst e0;have hd:us.drop (0+ws.length)=[]:=by rw[List.drop_eq_nil_iff];rw[<-h'.1,<-h.1];omega
  rw[hd,List.take_zero,Acm,Acn];exact h'
 ·rw[<-h'.1]
  exact((h.take off).append h').append (h.drop _)
theorem Ax {I:Nat->Prop}{w:World}: ∀(as:List AV) (us:List Value),aC I w as us↔Ue (Iq I w) as us
 |[],us=>by
  simp only[aC];exact⟨fun h=>by subst h;exact .nil,fun h=>Kw (by rw[<-h.1];rfl)⟩
 |a::as,us=>by
  simp only[aC];constructor
  ·rintro⟨v,vs,rfl,h1,h2⟩
   exact .cons h1 ((Ax as vs).1 h2)
  ·intro h
   obtain⟨v,vs,rfl,h1,h2⟩:=h.cons_inv;exact⟨v,vs,rfl,h1,(Ax as vs).2 h2⟩
theorem Ae {D:Nat}{I:Nat->Prop}{m:Mp}{hp:Hp}{w:World}: ∀(as:List AV) (us:List Value),bM D I m hp w as us↔Ue (Ie D I m hp w) as us
 |[],us=>by
  simp only[bM];exact⟨fun h=>by subst h;exact .nil,fun h=>Kw (by rw[<-h.1];rfl)⟩
 |a::as,us=>by
  simp only[bM];constructor
  ·rintro⟨v,vs,rfl,h1,h2⟩
   exact .cons h1 ((Ae as vs).1 h2)
  ·intro h
   obtain⟨v,vs,rfl,h1,h2⟩:=h.cons_inv;exact⟨v,vs,rfl,h1,(Ae as vs).2 h2⟩
def eX (sz:Nat)(rows:List (List AV)):Prop:= ∀r∈rows,r.length=sz
theorem Ai {I:Nat->Prop}{w:World}{sz:Nat}: ∀(rows:List (List AV)) (us:List Value),U3 I w sz rows us↔eX sz rows/\Ue (Iq I w) rows.flatten us
 |[],us=>by
  simp only[U3,List.flatten_nil];exact⟨fun h=>by subst h;exact⟨fun r h=>by simp at h,.nil⟩,fun h=>Kw (by rw[<-h.2.1];rfl)⟩
 |r::rs,us=>by
  simp only[U3,Acb];constructor
  ·rintro⟨u1,u2,rfl,hl,h1,h2⟩
   have pS:=(Ax r u1).1 h1;obtain⟨h3,h4⟩:=(Ai rs u2).1 h2;refine⟨fun x hx=>?_,pS.append h4⟩;rcases sV.1 hx with rfl|hx
   ·rw[pS.1,hl]
   ·exact h3 x hx
  ·rintro⟨h1,h2⟩
   have hr:r.length=sz:=h1 r Zi;have a1:=h2.take r.length;have a2:=h2.drop r.length;simp only[Acv,List.drop_left'] at a1 a2;refine⟨us.take r.length,us.drop r.length,Zi,by rw[<-a1.1];exact hr,(Ax _ _).2 a1,(Ai rs _).2 ⟨fun x hx=>h1 x (by simp[hx]),a2⟩⟩
theorem eX.length {sz:Nat}: ∀{rows:List (List AV)},eX sz rows->rows.flatten.length=rows.length*sz
 |[],_=>Zi
 |r::rs,h=>by
  have h1:r.length=sz:=h r Zi;have h2:=eX.length (rows:=rs) (fun x hx=>h x (by simp[hx]));simp only[Acb,X3,wP,h1,h2,tZ];omega
theorem eX.take(h:eX sz rows)(n:Nat):eX sz (rows.take n):=fun r hr=>h r (List.mem_of_mem_take hr)
theorem eX.drop(h:eX sz rows)(n:Nat):eX sz (rows.drop n):=fun r hr=>h r (List.mem_of_mem_drop hr)
theorem eX.append{a b:List (List AV)}(h:eX sz a)(h':eX sz b):eX sz (a++b):=fun r hr=>by
 rcases nA.1 hr with hr|hr
 ·exact h r hr
 ·exact h' r hr
theorem eX.flatten_take {sz:Nat}: ∀{rows:List (List AV)},eX sz rows-> ∀n,(rows.take n).flatten=rows.flatten.take (n*sz)
 |[],_,n=>Zi
 |r::rs,h,0=>Zi
 |r::rs,h,n+1=>by
  have h1:r.length=sz:=h r Zi;have h2:=eX.flatten_take (rows:=rs) (fun x hx=>h x (by simp[hx])) n;simp only[Ad4,Acb,h2];have e:(n+1)*sz=r.length+n*sz:=by rw[h1,tZ];omega
  rw[e,List.take_length_add_append]
theorem eX.flatten_drop {sz:Nat}: ∀{rows:List (List AV)},eX sz rows-> ∀n,(rows.drop n).flatten=rows.flatten.drop (n*sz)
 |[],_,n=>Zi
 |r::rs,h,0=>Zi
 |r::rs,h,n+1=>by
  have h1:r.length=sz:=h r Zi;have h2:=eX.flatten_drop (rows:=rs) (fun x hx=>h x (by simp[hx])) n;simp only[List.drop_succ_cons,Acb,h2];have e:(n+1)*sz=r.length+n*sz:=by rw[h1,tZ];omega
  rw[e,List.drop_length_add_append]
theorem eX.row(h:eX sz rows){r:List AV}(hr:rows[i]?=some r):(rows.flatten.drop (i*sz)).take sz=r:=by
 rw[<-h.flatten_drop];have hi:i<rows.length:=(Oh.1 hr).1;rw[Ng hi];have e:rows[i]=r:=(Oh.1 hr).2;simp only[Acb,e];exact Acv (h r (by rw[<-e];exact oY hi))
theorem Mm(h:eX sz rows)(hi:i<rows.length):
  (rows.set i r').flatten=rows.flatten.take (i*sz)++r'++rows.flatten.drop (i*sz+sz):=by
 rw[List.set_eq_take_append_cons_drop,Ka hi];simp only[Adp,Acb];rw[h.flatten_take,h.flatten_drop,tZ,Nat.one_mul,tI]
theorem eX.set(h:eX sz rows)(hr:r'.length=sz):eX sz (rows.set i r'):=fun r hx=>by
 rcases Ado hx with hx|hx
 ·exact h r hx
 ·rw[hx];exact hr
theorem Iq.one {I:Nat->Prop}{w:World}(h:Iq I w a u):u.oneCell'=true:=by
 cases a<;>simp only[Iq] at h
 case sc=>rw[h.1];exact h.2
 case sl=>obtain⟨A,cap,rfl,_⟩:=h;rfl
 case dp=>obtain⟨b,o,us,rfl,_⟩:=h;rfl
 case fn=>obtain⟨us,rfl,_⟩:=h;rfl
 case dmp=>obtain⟨b,es,clock,rfl,_⟩:=h;rfl
theorem Ue.one {I:Nat->Prop}{w:World}(h:Ue (Iq I w) as us): ∀u∈us,u.oneCell'=true:=by
 intro u hu;obtain⟨i,hi,rfl⟩:=List.getElem_of_mem hu;have hi':i<as.length:=by rw[h.1];exact hi
 exact(h.2 i as[i] us[i] (Bs hi') (Bs hi)).one
mutual
theorem Iq.rep' {D:Nat} {I:Nat->Prop} {m:Mp} {hp:Hp} {w:World}: ∀(a:AV) (u:Value),Iq I w a u->Ie D I m hp w a u
 | .any,_,h=>by simp[Iq] at h
 | .sc v,u,h=>by simp only[Iq] at h;simp only[Ie];exact h.1
 | .sl ..,u,h=>by simp only[Ie];exact h
 | .dp ..,u,h=>by simp only[Ie];exact h
 | .own ..,_,h=>by simp[Iq] at h
 | .ptr ..,_,h=>by simp[Iq] at h
 | .eptr ..,_,h=>by simp[Iq] at h
 | .agg ..,_,h=>by simp[Iq] at h
 | .tup ..,_,h=>by simp[Iq] at h
 | .vec ..,_,h=>by simp[Iq] at h
 | .bsl ..,_,h=>by simp[Iq] at h
 | .mp ..,_,h=>by simp[Iq] at h
 | .dmp ..,u,h=>by simp only[Ie];exact h
 | .fn f caps,u,h=>by
  simp only[Iq] at h;simp only[Ie];obtain⟨us,hu,h⟩:=h;exact⟨us,hu,aC.rep' caps us h⟩
theorem aC.rep' {D:Nat} {I:Nat->Prop} {m:Mp} {hp:Hp} {w:World}: ∀(as:List AV) (us:List Value),aC I w as us->bM D I m hp w as us
 |[],us,h=>by simpa[aC,bM] using h
 |a::as,us,h=>by
  simp only[aC] at h;simp only[bM];obtain⟨v,vs,hu,h1,h2⟩:=h;exact⟨v,vs,hu,Iq.rep' a v h1,aC.rep' as vs h2⟩
end
theorem Iq.rep {D:Nat}{I:Nat->Prop}{m:Mp}{hp:Hp}{w:World}(h:Iq I w a u):Ie D I m hp w a u:=Iq.rep' a u h
/-! ### going on -/
section
variable {I K I' I'':Nat->Prop}{m m' m'':Mp}{hp hp' hp'':Hp}{w w' w'':World}
theorem aL.refl (I K:Nat->Prop)(m:Mp)(hp:Hp)(w:World):aL I K m hp w I m hp w where
 isub:=fun _ h=>h
 keep:=fun _ _=>rfl
 size:=D5 _
 os:=rfl
 tape:=rfl
 output:=rfl
 gmono:=fun _=>D5 _
 stable:=fun x _=>by
  cases h:hp x with
  |no g=>exact⟨g,rfl⟩
  |box g c f=>exact⟨rfl,g,c,f,rfl⟩
  |arr g sz e rows f=>exact⟨rfl,g,rows,f,rfl,D5 _⟩
  |map g ag ks rows f=>exact⟨rfl,g,ag,ks,rows,f,rfl⟩
theorem aL.trans (E:aL I K m hp w I' m' hp' w')(F:aL I' K m' hp' w' I'' m'' hp'' w''):aL I K m hp w I'' m'' hp'' w'' where
 isub:=fun b h=>F.isub b (E.isub b h)
 keep:=fun b h=>(F.keep b (h.imp (E.isub b) id)).trans (E.keep b h)
 size:=Ve E.size F.size
 os:=F.os.trans E.os
 tape:=F.tape.trans E.tape
 output:=F.output.trans E.output
 gmono:=fun x=>Ve (E.gmono x) (F.gmono x)
 stable:=fun x hx=>by
  have h1:(hp' x).gen=(hp x).gen:=by have:=E.gmono x;have:=F.gmono x;omega
  have h2:(hp'' x).gen=(hp' x).gen:=Zo;have s1:=E.stable x h1;have s2:=F.stable x h2
  cases h:hp x with
  |no g=>rw[h] at s1;obtain⟨g1,e1⟩:=s1;rw[e1] at s2;exact s2
  |box g c f=>
   rw[h] at s1;obtain⟨hm,g1,c1,f1,e1⟩:=s1;rw[e1] at s2;obtain⟨sS,g2,c2,f2,e2⟩:=s2;exact⟨sS.trans hm,g2,c2,f2,e2⟩
  |arr g sz e rows f=>
   rw[h] at s1;obtain⟨hm,g1,r1,f1,e1,l1⟩:=s1;rw[e1] at s2;obtain⟨sS,g2,r2,f2,e2,l2⟩:=s2;exact⟨sS.trans hm,g2,r2,f2,e2,Ve l1 l2⟩
  |map g ag ks rows f=>
   rw[h] at s1;obtain⟨hm,g1,a1,k1,r1,f1,e1⟩:=s1;rw[e1] at s2;obtain⟨sS,g2,a2,k2,r2,f2,e2⟩:=s2;exact⟨sS.trans hm,g2,a2,k2,r2,f2,e2⟩
def It.fz :It->Bool
 | .no _=>true
 | .box _ _ f=>f
 | .arr _ _ _ _ f=>f
 | .map _ _ _ _ f=>f
theorem oU.mono (E:aL I K m hp w I' m' hp' w'){o:It}(h:oU I K m hp w x o)(hm:m' x=m x)
  (hb: ∀p,m x=some p->w'.heap[p.1]?=w.heap[p.1]?) (hI:o.fz=false-> ∀p,m x=some p-> ¬I p.1-> ¬I' p.1):oU I' K m' hp' w' x o:=by
 cases o with
 |no g=>trivial
 |box g cells fz=>
  obtain⟨b,c,us,T,mk,h1,h2,h3,h4,h5,h6⟩:=h;refine⟨b,c,us,T,mk,hm.trans h1,(hb _ h1).trans h2,h3,Ie.mono_L E _ h4,fun hf=>⟨E.isub b (h5 hf).1,aC.mono E.isub (fun b hb=>E.keep b (.inl hb)) _ _ (h5 hf).2⟩,fun hf=>⟨hI hf _ h1 (h6 hf).1,(h6 hf).2⟩⟩
 |arr g sz e rows fz=>
  rcases h with⟨h1,h2⟩|⟨b,cap,us,mk,h1,h2,h3,h4,h5,h6,h7,h8,h9⟩
  ·exact .inl ⟨hm.trans h1,h2⟩
  ·exact .inr ⟨b,cap,us,mk,hm.trans h1,(hb _ h1).trans h2,h3,h4,h5,h6,U3.mono E.isub (fun b hb=>E.keep b (.inl hb)) _ _ _ h7,fun hf=>E.isub b (h8 hf),fun hf=>⟨hI hf _ h1 (h9 hf).1,(h9 hf).2⟩⟩
 |map g ag ks rows fz=>
  obtain⟨b,c,es,clock,h1,h2,h3,h4,h5,h6⟩:=h;exact⟨b,c,es,clock,hm.trans h1,(hb _ h1).trans h2,h3,aV.mono E.isub (fun b hb=>E.keep b (.inl hb)) _ _ _ h4,fun hf=>E.isub b (h5 hf),fun hf=>⟨hI hf _ h1 (h6 hf).1,(h6 hf).2⟩⟩
where
 Ie.mono_L {D:Nat} (E:aL I K m hp w I' m' hp' w') (cells:List AV) {us:List Value} (h:bM D I m hp w cells us):bM D I' m' hp' w' cells us:=bM.mono E D cells us h
theorem Uj.step (G:Uj I K m hp w)(E:aL I K m hp w I' m' hp' w')(X:Nm->Prop)(hX: ∀y,¬X y->hp' y=hp y/\m' y=m y)
  (qA: ∀y,X y->oU I' K m' hp' w' y (hp' y))
  (DE: ∀y,¬X y->(hp y).live=true-> ∀p,m y=some p->w'.heap[p.1]?=w.heap[p.1]?)
  (hI: ∀y,¬X y->(hp y).live=true->(hp y).fz=false-> ∀p,m y=some p-> ¬I p.1-> ¬I' p.1)
  (inj: ∀x y p q,(hp' x).live=true->(hp' y).live=true->m' x=some p->m' y=some q->p.1=q.1->x=y)
  (ilt: ∀b,I' b->b<w'.heap.size) (ik: ∀b,I' b-> ¬K b):Uj I' K m' hp' w' where
 obj:=fun y=>by
  by_cases hy:X y
  ·exact qA y hy
  ·obtain⟨h1,h2⟩:=hX y hy
   rw[h1]
   cases hl:(hp y).live with
   |false=>cases ho:hp y with
    |no g=>trivial
    |box g c f=>rw[ho] at hl;simp[It.live] at hl
    |arr g sz e rows f=>rw[ho] at hl;simp[It.live] at hl
    |map g ag ks rows f=>rw[ho] at hl;simp[It.live] at hl
   |true=>exact(G.obj y).mono E h2 (DE y hy hl) (fun hf p hp=>hI y hy hl hf p hp)
 inj:=inj
 ilt:=ilt
 klt:=fun b hb=>AY (G.klt b hb) E.size
 ik:=ik
 gl:=G.gl.mono E.isub (fun b hb=>E.keep b (.inl hb))
theorem Uj.blk (G:Uj I K m hp w)(hl:(hp x).live=true){p:Nat×Nat}(hm:m x=some p):p.1<w.heap.size:=by
 have h:=G.obj x
 cases ho:hp x with
 |no g=>rw[ho] at hl;simp[It.live] at hl
 |box g c f=>
  rw[ho] at h;obtain⟨b,c,us,T,mk,h1,h2,_⟩:=h;rw[h1] at hm;cases hm;exact(Xc.1 h2).1
 |arr g sz e rows f=>
  rw[ho] at h;rcases h with⟨h1,_⟩|⟨b,cap,us,mk,h1,h2,_⟩
  ·rw[h1] at hm;cases hm
  ·rw[h1] at hm;cases hm
   exact(Xc.1 h2).1
 |map g ag ks rows f=>
  rw[ho] at h;obtain⟨b,c,es,clock,h1,h2,_⟩:=h;rw[h1] at hm;cases hm;exact(Xc.1 h2).1
end
end
section
open Go
variable {o:It}{f:Bool}{rows:List (List AV)}{cells cs:List AV}{ks:List Value}{g sz D:Nat}{x:Nm}{p:Option (Nat×Nat)}{α β:Type}{u:Value}
structure WX (I K:Nat->Prop)(w w':World):Prop where
 keep: ∀b,I b\/K b->w'.heap[b]?=w.heap[b]?
 size:w.heap.size<=w'.heap.size
 os:w'.os=w.os
 tape:w'.tape=w.tape
 output:w'.output=w.output
theorem WX.refl (I K:Nat->Prop)(w:World):WX I K w w:=⟨fun _ _=>rfl,D5 _,rfl,rfl,rfl⟩
theorem WX.alloc {I K:Nat->Prop}{w:World}(o:Obj)(hi: ∀b,I b->b<w.heap.size)(hk: ∀b,K b->b<w.heap.size):WX I K w (w.alloc o) where
 keep:=fun b hb=>by
  have Ii:b<w.heap.size:=hb.elim (hi b) (hk b);show(w.heap.push o)[b]?=w.heap[b]?;rw[Array.getElem?_push,Jx (Nat.ne_of_lt Ii)]
 size:=Zi
 os:=rfl
 tape:=rfl
 output:=rfl
def Cq :It->It->Prop
 | .no _,_=>False
 | .box g _ _,o'=> ∃cells' f',o'= .box g cells' f'
 | .arr g sz e rows _,o'=> ∃rows' f',o'= .arr g sz e rows' f'/\rows.length<=rows'.length
 | .map g _ _ _ _,o'=> ∃ag ks rows f',o'= .map g ag ks rows f'
section
variable {I K I':Nat->Prop}{m:Mp}{hp:Hp}{w w':World}
theorem aL.bump(W:WX I K w w')(hi: ∀b,I b->I' b)(hg:(hp x).gen<o.gen):aL I K m hp w I' (Ur m x p) (Ur hp x o) w' where
 isub:=hi
 keep:=W.keep
 size:=W.size
 os:=W.os
 tape:=W.tape
 output:=W.output
 gmono:=fun y=>by
  by_cases hy:y=x
  ·subst hy;rw[Ad];omega
  ·rw[Aj _ _ hy];exact D5 _
 stable:=fun y he=>by
  by_cases hy:y=x
  ·subst hy;rw[Ad] at he;omega
  ·rw[Aj _ _ hy,Aj _ _ hy]
   cases h:hp y with
   |no g=>exact⟨g,rfl⟩
   |box g c f=>exact⟨rfl,g,c,f,rfl⟩
   |arr g sz e rows f=>exact⟨rfl,g,rows,f,rfl,D5 _⟩
   |map g ag ks rows f=>exact⟨rfl,g,ag,ks,rows,f,rfl⟩
theorem aL.same(W:WX I K w w')(hi: ∀b,I b->I' b)(hk:Cq (hp x) o):aL I K m hp w I' m (Ur hp x o) w' where
 isub:=hi
 keep:=W.keep
 size:=W.size
 os:=W.os
 tape:=W.tape
 output:=W.output
 gmono:=fun y=>by
  by_cases hy:y=x
  ·subst hy;rw[Ad]
   cases h:hp y with
   |no g=>rw[h] at hk;exact hk.elim
   |box g c f=>rw[h] at hk;obtain⟨c',f',rfl⟩:=hk;exact D5 _
   |arr g sz e rows f=>rw[h] at hk;obtain⟨r',f',rfl,_⟩:=hk;exact D5 _
   |map g ag ks rows f=>rw[h] at hk;obtain⟨a',k',r',f',rfl⟩:=hk;exact D5 _
  ·rw[Aj _ _ hy];exact D5 _
 stable:=fun y _=>by
  by_cases hy:y=x
  ·subst hy;rw[Ad]
   cases h:hp y with
   |no g=>rw[h] at hk;exact hk.elim
   |box g c f=>rw[h] at hk;obtain⟨c',f',rfl⟩:=hk;exact⟨rfl,g,c',f',rfl⟩
   |arr g sz e rows f=>rw[h] at hk;obtain⟨r',f',rfl,hl⟩:=hk;exact⟨rfl,g,r',f',rfl,hl⟩
   |map g ag ks rows f=>rw[h] at hk;obtain⟨a',k',r',f',rfl⟩:=hk;exact⟨rfl,g,a',k',r',f',rfl⟩
  ·rw[Aj _ _ hy]
   cases h:hp y with
   |no g=>exact⟨g,rfl⟩
   |box g c f=>exact⟨rfl,g,c,f,rfl⟩
   |arr g sz e rows f=>exact⟨rfl,g,rows,f,rfl,D5 _⟩
   |map g ag ks rows f=>exact⟨rfl,g,ag,ks,rows,f,rfl⟩
theorem Uj.bump (G:Uj I K m hp w)(W:WX I K w w')(hi: ∀b,I b->I' b)(hg:(hp x).gen<o.gen)
  (qA:oU I' K (Ur m x p) (Ur hp x o) w' x o)
  (DE: ∀y,y≠x->(hp y).live=true-> ∀q,m y=some q->w'.heap[q.1]?=w.heap[q.1]?)
  (hI: ∀y,y≠x->(hp y).live=true->(hp y).fz=false-> ∀q,m y=some q-> ¬I q.1-> ¬I' q.1)
  (Ir:o.live=true-> ∀r,p=some r-> ∀y,y≠x->(hp y).live=true-> ∀q,m y=some q->r.1≠q.1)
  (ilt: ∀b,I' b->b<w'.heap.size) (ik: ∀b,I' b-> ¬K b):Uj I' K (Ur m x p) (Ur hp x o) w':=by
 refine G.step (.bump W hi hg) (fun y=>y=x) (fun y hy=>⟨Aj _ _ hy,Aj _ _ hy⟩) (fun y hy=>by subst hy;rw[Ad];exact qA) DE hI ?_ ilt ik;intro a b r q la lb ha hb e;by_cases h1:a=x<;>by_cases h2:b=x
 ·rw[h1,h2]
 ·subst h1
  rw[Ad] at la ha;rw[Aj _ _ h2] at lb hb;exact(Ir la r ha b h2 lb q hb e).elim
 ·subst h2
  rw[Ad] at lb hb;rw[Aj _ _ h1] at la ha;exact(Ir lb q hb a h1 la r ha e.symm).elim
 ·rw[Aj _ _ h1] at la ha
  rw[Aj _ _ h2] at lb hb;exact G.inj a b r q la lb ha hb e
theorem Uj.same (G:Uj I K m hp w)(W:WX I K w w')(hi: ∀b,I b->I' b)(hk:Cq (hp x) o)
  (qA:oU I' K m (Ur hp x o) w' x o)
  (DE: ∀y,y≠x->(hp y).live=true-> ∀q,m y=some q->w'.heap[q.1]?=w.heap[q.1]?)
  (hI: ∀y,y≠x->(hp y).live=true->(hp y).fz=false-> ∀q,m y=some q-> ¬I q.1-> ¬I' q.1)
  (ilt: ∀b,I' b->b<w'.heap.size) (ik: ∀b,I' b-> ¬K b):Uj I' K m (Ur hp x o) w':=by
 refine G.step (.same W hi hk) (fun y=>y=x) (fun y hy=>⟨Aj _ _ hy,rfl⟩) (fun y hy=>by subst hy;rw[Ad];exact qA) DE hI ?_ ilt ik;have hl: ∀y,(Ur hp x o y).live=true->(hp y).live=true:=fun y h=>by
  by_cases hy:y=x
  ·subst hy
   cases h0:hp y with
   |no g=>rw[h0] at hk;exact hk.elim
   |box g c f=>rfl
   |arr g sz e rows f=>rfl
   |map g ag ks rows f=>rfl
  ·rwa [Aj _ _ hy] at h
 intro a b r q la lb ha hb e;exact G.inj a b r q (hl a la) (hl b lb) ha hb e
theorem Uj.virt (G:Uj I K m hp w)(x:Nm)(sz:Nat)(e:TypeId):
  Uj I K (Ur m x none) (Ur hp x (.arr ((hp x).gen+1) sz e [] false)) w/\aL I K m hp w I (Ur m x none) (Ur hp x (.arr ((hp x).gen+1) sz e [] false)) w:=by
 have hg:(hp x).gen<(It.arr ((hp x).gen+1) sz e [] false).gen:=by simp[It.gen]
 refine⟨G.bump (.refl I K w) (fun _ h=>h) hg (.inl ⟨Ad _ _ _,rfl⟩) (fun _ _ _ _ _=>rfl) (fun _ _ _ _ _ _ h=>h) ?_ G.ilt G.ik,.bump (.refl I K w) (fun _ h=>h) hg⟩;intro _ r hr;cases hr
theorem Uj.kill (G:Uj I K m hp w)(x:Nm)(hg:(hp x).gen<g):
  Uj I K m (Ur hp x (.no g)) w/\aL I K m hp w I m (Ur hp x (.no g)) w:=by
 have e:Ur m x (m x)=m:=by funext y;by_cases h:y=x<;>simp[Ur,h]
 have qB:(hp x).gen<(It.no g).gen:=hg;have h1:=G.bump (x:=x) (o:= .no g) (p:=m x) (.refl I K w) (fun _ h=>h) qB trivial (fun _ _ _ _ _=>rfl) (fun _ _ _ _ _ _ h=>h) (fun h=>by simp[It.live] at h) G.ilt G.ik;have h2:aL I K m hp w I (Ur m x (m x)) (Ur hp x (.no g)) w:= .bump (.refl I K w) (fun _ h=>h) qB;rw[e] at h1 h2;exact⟨h1,h2⟩
theorem Uj.move (G:Uj I K m hp w){y:Nm}(sX:x≠y){e:TypeId}(hx:hp x= .arr g sz e rows false):
  Uj I K (Ur m y (m x)) (Ur (Ur hp x (.no (g+1))) y (.arr ((hp y).gen+1) sz e rows false)) w/\
  aL I K m hp w I (Ur m y (m x)) (Ur (Ur hp x (.no (g+1))) y (.arr ((hp y).gen+1) sz e rows false)) w:=by
 obtain⟨G1,E1⟩:=G.kill x (g:=g+1) (by rw[hx];simp[It.gen]);have hy:(Ur hp x (.no (g+1)) y)=hp y:=Aj _ _ (Ne.symm sX);have hg:(Ur hp x (.no (g+1)) y).gen<(It.arr ((hp y).gen+1) sz e rows false).gen:=by rw[hy];simp[It.gen]
 have E2:aL I K m (Ur hp x (.no (g+1))) w I (Ur m y (m x)) (Ur (Ur hp x (.no (g+1))) y (.arr ((hp y).gen+1) sz e rows false)) w:= .bump (.refl I K w) (fun _ h=>h) hg;refine⟨G1.bump (.refl I K w) (fun _ h=>h) hg ?_ (fun _ _ _ _ _=>rfl) (fun _ _ _ _ _ _ h=>h) ?_ G.ilt G.ik,E1.trans E2⟩
 ·have h:=G.obj x
  rw[hx] at h;rcases h with⟨h1,h2⟩|⟨b,cap,us,mk,h1,h2,h3,h4,h5,h6,h7,h8,h9⟩
  ·exact .inl ⟨by rw[Ad];exact h1,h2⟩
  ·exact .inr ⟨b,cap,us,mk,by rw[Ad];exact h1,h2,h3,h4,h5,h6,h7,h8,h9⟩
 ·intro _ r hr z hz lz q hq e
  have mT:z≠x:=fun h=>by subst h;rw[Ad] at lz;simp[It.live] at lz
  rw[Aj _ _ mT] at lz;exact mT (G.inj x z r q (by rw[hx];rfl) lz hr hq e).symm
theorem Uj.moveBox (G:Uj I K m hp w){y:Nm}(sX:x≠y){b c:Nat}{us:Array Value}{T:TypeId}{mk:Nat×Nat}(hx:hp x= .box g cells false)(h1:m x=some (b,c))(h2:w.heap[b]?=some (.cells us T mk))(h3:D7 us mk/\us.size=c)
  (cB:bM y.d I m hp w cs (us.toList.take cs.length)) (h6: ¬I b/\ ¬K b):
  Uj I K (Ur m y (m x)) (Ur (Ur hp x (.no (g+1))) y (.box ((hp y).gen+1) cs false)) w/\
  aL I K m hp w I (Ur m y (m x)) (Ur (Ur hp x (.no (g+1))) y (.box ((hp y).gen+1) cs false)) w:=by
 obtain⟨G1,E1⟩:=G.kill x (g:=g+1) (by rw[hx];simp[It.gen]);have hy:(Ur hp x (.no (g+1)) y)=hp y:=Aj _ _ (Ne.symm sX);have hg:(Ur hp x (.no (g+1)) y).gen<(It.box ((hp y).gen+1) cs false).gen:=by rw[hy];simp[It.gen]
 have E2:aL I K m (Ur hp x (.no (g+1))) w I (Ur m y (m x)) (Ur (Ur hp x (.no (g+1))) y (.box ((hp y).gen+1) cs false)) w:= .bump (.refl I K w) (fun _ h=>h) hg;refine⟨G1.bump (.refl I K w) (fun _ h=>h) hg ?_ (fun _ _ _ _ _=>rfl) (fun _ _ _ _ _ _ h=>h) ?_ G.ilt G.ik,E1.trans E2⟩
 ·exact⟨b,c,us,T,mk,by rw[Ad];exact h1,h2,h3,bM.mono (E1.trans E2) _ _ _ cB,fun h=>(by cases h),fun _=>h6⟩
 ·intro _ r hr z hz lz q hq e
  have mT:z≠x:=fun h=>by subst h;rw[Ad] at lz;simp[It.live] at lz
  rw[Aj _ _ mT] at lz;exact mT (G.inj x z r q (by rw[hx];rfl) lz hr hq e).symm
theorem Uj.freeze' (G:Uj I K m hp w){e:TypeId}(hx:hp x= .arr g sz e rows f):
  ∃I',Uj I' K m (Ur hp x (.arr g sz e rows true)) w/\aL I K m hp w I' m (Ur hp x (.arr g sz e rows true)) w/\(∀b c,m x=some (b,c)->I' b)/\ ∀b,I' b->I b\/ ∃z p,(hp z).live=true/\m z=some p/\p.1=b:=by
 have hk:Cq (hp x) (.arr g sz e rows true):=by rw[hx];exact⟨rows,true,rfl,D5 _⟩
 have h:=G.obj x;rw[hx] at h;have hi: ∀b,I b->(I b\/ ∃c,m x=some (b,c)):=fun _ h=> .inl h
 refine⟨fun b=>I b\/ ∃c,m x=some (b,c),G.same (.refl I K w) hi hk ?_ (fun _ _ _ _ _=>rfl) ?_ ?_ ?_,.same (.refl I K w) hi hk,fun b c hc=> .inr ⟨c,hc⟩,fun b hb=>hb.imp id fun⟨c,hc⟩=>⟨x,(b,c),by rw[hx];rfl,hc,rfl⟩⟩
 ·rcases h with⟨h1,h2⟩|⟨b,cap,us,mk,h1,h2,h3,h4,h5,h6,h7,h8,h9⟩
  ·exact .inl ⟨h1,h2⟩
  ·exact .inr ⟨b,cap,us,mk,h1,h2,h3,h4,h5,h6,U3.mono hi (fun _ _=>rfl) _ _ _ h7,fun _=> .inr ⟨cap,h1⟩,fun hf=>by cases hf⟩
 ·rintro y hy ly _ q hq hn (CO|⟨c,hc⟩)
  ·exact hn CO
  ·exact hy (G.inj y x q (q.1,c) ly (by rw[hx];rfl) hq hc rfl)
 ·rintro b (hb|⟨c,hc⟩)
  ·exact G.ilt b hb
  ·exact G.blk (x:=x) (by rw[hx];rfl) hc
 ·rintro b (hb|⟨c,hc⟩)
  ·exact G.ik b hb
  ·rcases h with⟨h1,h2⟩|⟨b',cap,us,mk,h1,h2,h3,h4,h5,h6,h7,h8,h9⟩
   ·rw[h1] at hc;cases hc
   ·rw[h1] at hc;cases hc
    cases f with
    |true=>exact G.ik _ (h8 rfl)
    |false=>exact(h9 rfl).2
theorem Uj.freeze (G:Uj I K m hp w){e:TypeId}(hx:hp x= .arr g sz e rows f):
  ∃I',Uj I' K m (Ur hp x (.arr g sz e rows true)) w/\aL I K m hp w I' m (Ur hp x (.arr g sz e rows true)) w/\ ∀b c,m x=some (b,c)->I' b:=
 let ⟨I',h1,h2,h3,_⟩:=G.freeze' hx
 ⟨I',h1,h2,h3⟩
theorem Uj.freezeBox' (G:Uj I K m hp w)(hx:hp x= .box g cells f)
  (hd: ∀us,bM x.d I m hp w cells us->aC I w cells us):
  ∃I',Uj I' K m (Ur hp x (.box g cells true)) w/\aL I K m hp w I' m (Ur hp x (.box g cells true)) w/\(∀b c,m x=some (b,c)->I' b)/\ ∀b,I' b->I b\/ ∃z p,(hp z).live=true/\m z=some p/\p.1=b:=by
 have hk:Cq (hp x) (.box g cells true):=by rw[hx];exact⟨cells,true,rfl⟩
 have h:=G.obj x;rw[hx] at h;obtain⟨b,c,us,T,mk,h1,h2,h3,h4,h5,h6⟩:=h;have hi: ∀b,I b->(I b\/ ∃c,m x=some (b,c)):=fun _ h=> .inl h
 have E:aL I K m hp w (fun b=>I b\/ ∃c,m x=some (b,c)) m (Ur hp x (.box g cells true)) w:= .same (.refl I K w) hi hk;refine⟨fun b=>I b\/ ∃c,m x=some (b,c),G.same (.refl I K w) hi hk ?_ (fun _ _ _ _ _=>rfl) ?_ ?_ ?_,E,fun b c hc=> .inr ⟨c,hc⟩,fun b hb=>hb.imp id fun⟨c,hc⟩=>⟨x,(b,c),by rw[hx];rfl,hc,rfl⟩⟩
 ·exact⟨b,c,us,T,mk,h1,h2,h3,bM.mono E _ _ _ h4,fun _=>⟨.inr ⟨c,h1⟩,aC.mono hi (fun _ _=>rfl) _ _ (hd _ h4)⟩,fun hf=>by cases hf⟩
 ·rintro y hy ly _ q hq hn (CO|⟨c,hc⟩)
  ·exact hn CO
  ·exact hy (G.inj y x q (q.1,c) ly (by rw[hx];rfl) hq hc rfl)
 ·rintro b (hb|⟨c,hc⟩)
  ·exact G.ilt b hb
  ·exact G.blk (x:=x) (by rw[hx];rfl) hc
 ·rintro b' (hb|⟨c',hc⟩)
  ·exact G.ik b' hb
  ·rw[h1] at hc;cases hc
   cases f with
   |true=>exact G.ik _ (h5 rfl).1
   |false=>exact(h6 rfl).2
theorem Uj.freezeBoxC (G:Uj I K m hp w)(hx:hp x= .box g cells f)
  (hd: ∀b c us T mk,m x=some (b,c)->w.heap[b]?=some (.cells us T mk)->aC I w cs (us.toList.take cs.length)):
  ∃I',Uj I' K m (Ur hp x (.box g cs true)) w/\aL I K m hp w I' m (Ur hp x (.box g cs true)) w/\(∀b c,m x=some (b,c)->I' b)/\ ∀b,I' b->I b\/ ∃z p,(hp z).live=true/\m z=some p/\p.1=b:=by
 have hk:Cq (hp x) (.box g cs true):=by rw[hx];exact⟨cs,true,rfl⟩
 have h:=G.obj x;rw[hx] at h;obtain⟨b,c,us,T,mk,h1,h2,h3,h4,h5,h6⟩:=h;have hi: ∀b,I b->(I b\/ ∃c,m x=some (b,c)):=fun _ h=> .inl h
 have E:aL I K m hp w (fun b=>I b\/ ∃c,m x=some (b,c)) m (Ur hp x (.box g cs true)) w:= .same (.refl I K w) hi hk;have hD:=aC.mono (I':=fun b=>I b\/ ∃c,m x=some (b,c)) hi (fun _ _=>rfl) _ _ (hd b c us T mk h1 h2);refine⟨fun b=>I b\/ ∃c,m x=some (b,c),G.same (.refl I K w) hi hk ?_ (fun _ _ _ _ _=>rfl) ?_ ?_ ?_,E,fun b c hc=> .inr ⟨c,hc⟩,fun b hb=>hb.imp id fun⟨c,hc⟩=>⟨x,(b,c),by rw[hx];rfl,hc,rfl⟩⟩
 ·exact⟨b,c,us,T,mk,h1,h2,h3,(Ae _ _).2 (((Ax _ _).1 hD).imp fun a u h=>Iq.rep h),fun _=>⟨.inr ⟨c,h1⟩,hD⟩,fun hf=>by cases hf⟩
 ·rintro y hy ly _ q hq hn (CO|⟨c,hc⟩)
  ·exact hn CO
  ·exact hy (G.inj y x q (q.1,c) ly (by rw[hx];rfl) hq hc rfl)
 ·rintro b (hb|⟨c,hc⟩)
  ·exact G.ilt b hb
  ·exact G.blk (x:=x) (by rw[hx];rfl) hc
 ·rintro b' (hb|⟨c',hc⟩)
  ·exact G.ik b' hb
  ·rw[h1] at hc;cases hc
   cases f with
   |true=>exact G.ik _ (h5 rfl).1
   |false=>exact(h6 rfl).2
theorem Uj.freezeBox (G:Uj I K m hp w)(hx:hp x= .box g cells f)
  (hd: ∀us,bM x.d I m hp w cells us->aC I w cells us):
  ∃I',Uj I' K m (Ur hp x (.box g cells true)) w/\aL I K m hp w I' m (Ur hp x (.box g cells true)) w/\ ∀b c,m x=some (b,c)->I' b:=
 let ⟨I',h1,h2,h3,_⟩:=G.freezeBox' hx hd
 ⟨I',h1,h2,h3⟩
theorem Uj.freezeMap' (G:Uj I K m hp w){ag:Bool}(hx:hp x= .map g ag ks rows f):
  ∃I',Uj I' K m (Ur hp x (.map g ag ks rows true)) w/\aL I K m hp w I' m (Ur hp x (.map g ag ks rows true)) w/\(∀b c,m x=some (b,c)->I' b)/\ ∀b,I' b->I b\/ ∃z p,(hp z).live=true/\m z=some p/\p.1=b:=by
 have hk:Cq (hp x) (.map g ag ks rows true):=by rw[hx];exact⟨ag,ks,rows,true,rfl⟩
 have h:=G.obj x;rw[hx] at h;obtain⟨b,c,es,clock,h1,h2,h3,h4,h5,h6⟩:=h;have hi: ∀b,I b->(I b\/ ∃c,m x=some (b,c)):=fun _ h=> .inl h
 have E:aL I K m hp w (fun b=>I b\/ ∃c,m x=some (b,c)) m (Ur hp x (.map g ag ks rows true)) w:= .same (.refl I K w) hi hk;refine⟨fun b=>I b\/ ∃c,m x=some (b,c),G.same (.refl I K w) hi hk ?_ (fun _ _ _ _ _=>rfl) ?_ ?_ ?_,E,fun b c hc=> .inr ⟨c,hc⟩,fun b hb=>hb.imp id fun⟨c,hc⟩=>⟨x,(b,c),by rw[hx];rfl,hc,rfl⟩⟩
 ·exact⟨b,c,es,clock,h1,h2,h3,aV.mono hi (fun _ _=>rfl) _ _ _ h4,fun _=> .inr ⟨c,h1⟩,fun hf=>by cases hf⟩
 ·rintro y hy ly _ q hq hn (CO|⟨c,hc⟩)
  ·exact hn CO
  ·exact hy (G.inj y x q (q.1,c) ly (by rw[hx];rfl) hq hc rfl)
 ·rintro b (hb|⟨c,hc⟩)
  ·exact G.ilt b hb
  ·exact G.blk (x:=x) (by rw[hx];rfl) hc
 ·rintro b' (hb|⟨c',hc⟩)
  ·exact G.ik b' hb
  ·rw[h1] at hc;cases hc
   cases f with
   |true=>exact G.ik _ (h5 rfl)
   |false=>exact(h6 rfl).2
theorem Uj.mapD (G:Uj I K m hp w){ag:Bool}(hx:hp x= .map g ag ks rows f)(hr:Ie D I m hp w (.mp x g) u){J:Nat->Prop}(hi: ∀b,I b->J b)(hj: ∀b c,m x=some (b,c)->J b):Iq J w (.dmp ag ks rows) u:=by
 have h:=G.obj x;rw[hx] at h;obtain⟨b,c,es,clock,h1,h2,h3,h4,h5,h6⟩:=h;simp only[Ie] at hr;obtain⟨_,_,hr⟩:=hr;obtain⟨b',c',hm,rfl⟩:=hr _ _ _ _ hx;rw[h1] at hm;cases hm;simp only[Iq];exact⟨b,es,clock,rfl,hj _ _ h1,h2,h3,aV.mono hi (fun _ _=>rfl) _ _ _ h4⟩
/-! ### programs over the abstract heap -/
theorem run_bind(p:Ia α)(f:α->Ia β): ∀hp:Hp,(p.bind f).run hp=match p.run hp with|some (a,hp')=>(f a).run hp'|none=>none:=by
 induction p with
 |ret a=>intro hp;rfl
 |get x k ih=>intro hp;exact ih _ hp
 |put x o k ih=>intro hp;exact ih _
 |hdr x k ih=>intro hp;exact ih _ hp
 |getC x off k ih=>
  intro hp;simp only[Ia.bind,Ia.run]
  cases eV (hp x) off with
  |none=>rfl
  |some v=>exact ih v hp
 |putC x off v k ih=>
  intro hp;simp only[Ia.bind,Ia.run]
  cases Uq (hp x) off v with
  |none=>rfl
  |some o=>exact ih _
 |ext g k ih=>
  intro hp;simp only[Ia.bind,Ia.run]
  cases g hp with
  |none=>rfl
  |some q=>exact ih _ _
 |fail=>intro hp;rfl
theorem Aa{p:Ia α}{f:α->Ia β}{hp hp':Hp}{b:β}(h:(p.bind f).run hp=some (b,hp')): ∃a hp1,p.run hp=some (a,hp1)/\(f a).run hp1=some (b,hp'):=by
 rw[run_bind] at h
 cases hr:p.run hp with
 |none=>rw[hr] at h;cases h
 |some q=>obtain⟨a,hp1⟩:=q;rw[hr] at h;exact⟨a,hp1,rfl,h⟩
theorem Eza{l:List α}{i:Nat}{a:α}(h:l[i]?=some a):l.drop i=a::l.drop (i+1):=by
 obtain⟨hi,rfl⟩:=Oh.1 h;exact Ng hi
theorem Qo {x:Nm}{g:Nat}{cells:List AV}{f:Bool}(hx:hp x= .box g cells f): ∀n off,off+n<=cells.length->(tU x off n).run hp=some ((cells.drop off).take n,hp)
 |0,off,_=>by simp[tU,Ia.run]
 |n+1,off,h=>by
  have hc:cells[off]?=some cells[off]:=Bs Zo;simp only[tU,Ia.run,hx,eV,hc,run_bind,Qo hx n (off+1) Zo,Eza hc,Ad4]
theorem Yz (l:List AV)(off:Nat):splice l off []=l:=by
 unfold splice
 split
 ·rename_i e
  exact(Kw (by simpa using e.symm)).symm
 ·simp
theorem Vm (l:List AV)(off:Nat)(v:AV)(vs:List AV)(h:off+(vs.length+1)<=l.length):splice (l.set off v) (off+1) vs=splice l off (v::vs):=by
 have e1: ∀(l:List AV) (off:Nat) (vs:List AV),off+vs.length<=l.length->splice l off vs=l.take off++vs++l.drop (off+vs.length):=fun l off vs h=>by
  unfold splice
  split
  ·have e0:off=0:=Zo
   subst e0;have hd:l.drop (0+vs.length)=[]:=by rw[List.drop_eq_nil_iff];omega
   rw[hd];simp
  ·rfl
 rw[e1 _ _ _ (by simp;omega),e1 _ _ _ (by simp;omega)];have Ii:off<l.length:=Zo;have hs:(l.set off v).take (off+1)=l.take off++[v]:=by
  rw[List.take_succ_eq_append_getElem (by simpa using Ii),List.take_set_of_le (D5 _)];simp
 rw[hs,List.drop_set_of_lt Zo];simp[tJ,OF 1]
theorem Lf {x:Nm}{g:Nat}{f:Bool}: ∀(vs:List AV) (off:Nat) (cells:List AV) (hp:Hp),hp x= .box g cells f->off+vs.length<=cells.length->
  ∃hp',(tL x off vs).run hp=some (.any,hp')/\hp'=Ur hp x (.box g (splice cells off vs) f)
 |[],off,cells,hp,hx,_=>by
  refine⟨hp,rfl,?_⟩;rw[Yz cells off,<-hx]
  funext y;by_cases hy:y=x<;>simp[Ur,hy]
 |v::vs,off,cells,hp,hx,h=>by
  have Ii:off<cells.length:=by simp at h;omega
  obtain⟨hp',h1,h2⟩:=Lf vs (off+1) (cells.set off v) (Ur hp x (.box g (cells.set off v) f)) (Ad _ _ _) (by simp at h⊢;omega);refine⟨hp',by simp only[tL,Ia.run,hx,Uq,Ii,iW,h1],?_⟩;rw[h2,Vm cells off v vs (by simp at h;omega)]
  funext y;by_cases hy:y=x<;>simp[Ur,hy]
theorem Uj.ownRows (G:Uj I K m hp w){n:Nat}{e:TypeId}(hx:hp x= .arr g sz e rows f)(h:Ie D I m hp w (.own x g n) u):
  n<=rows.length/\u.oneCell'=true/\ ∀J:Nat->Prop,(∀b,I b->J b)->(∀b c,m x=some (b,c)->J b)->Iq J w (.sl false sz (rows.take n)) u:=by
 simp only[Ie] at h;obtain⟨_,_,h⟩:=h;obtain⟨hn,h⟩:=h sz e rows f hx;have ho:=G.obj x;rw[hx] at ho;refine⟨hn,?_,fun J hJ hb=>?_⟩
 ·rcases h with⟨_,rfl,_⟩|⟨b,cap,_,rfl⟩<;>rfl
 ·rcases h with⟨h0,rfl,rfl⟩|⟨b,cap,hm,rfl⟩
  ·simp only[Iq]
   exact⟨none,0,Zi,Zi,by simp[maxLen],Zi,.inl Zi⟩
  ·rcases ho with⟨h1,h2⟩|⟨b',cap',us,mk,h1,h2,h3,h4,h5,h6,h7,h8,h9⟩
   ·rw[h1] at hm;cases hm
   ·rw[h1] at hm;cases hm
    simp only[Iq];refine⟨_,_,by rw[sL,AD hn],by rw[sL];omega,h6,Zi,.inr ⟨b,0,us.toList.take (n*sz),rfl,hb b cap h1,?_,?_⟩⟩
    ·intro j v hv
     rw[xZ] at hv
     split at hv
     ·rw[mH,AQ w b j us e mk h2]
      simpa using hv
     ·cases hv
    ·have h7':=(Ai _ _).1 h7
     refine U3.mono hJ (fun _ _=>rfl) _ _ _ ((Ai _ _).2 ⟨h7'.1.take n,?_⟩);rw[h7'.1.flatten_take];have:=h7'.2.take (n*sz);rwa [Acq,AD (xY _ hn)] at this
end
end
section
open Go
variable {a' a:AV}{f:Bool}{rows:List (List AV)}{cells:List AV}{us:List Value}{n off g sz:Nat}{J:Nat->Prop}{x:Nm}{α:Type}{ct:TypeId}{u:Value}
theorem Dw (sz:Nat): ∀(n:Nat) (l:List AV),n*sz<=l.length->(dR sz n l).flatten=l.take (n*sz)/\eX sz (dR sz n l)/\(dR sz n l).length=n
 |0,l,_=>⟨by simp[dR],fun r hr=>by simp[dR] at hr,rfl⟩
 |n+1,l,h=>by
  have aI:sz<=l.length:=by rw[tZ] at h;omega
  obtain⟨h1,h2,h3⟩:=Dw sz n (l.drop sz) (by rw[AT];rw[tZ] at h;omega);refine⟨?_,fun r hr=>?_,by simp[dR,h3]⟩
  ·simp only[dR,Acb,h1]
   have e:(n+1)*sz=sz+n*sz:=by rw[tZ];omega
   rw[e,List.take_add]
  ·rcases sV.1 hr with rfl|hr
   ·rw[sL];omega
   ·exact h2 r hr
def Ao (m:Mp)(hp:Hp)(b:Nat):Prop:= ∃x p,(hp x).live=true/\m x=some p/\p.1=b
section
variable {P:Program}{I K:Nat->Prop}{m:Mp}{hp hp':Hp}{w:World}{D:Nat}
theorem ED{fz:Bool}{v:Value}(h:(eD P fz ct (.sc v)).run hp=some (a',hp')):hp'=hp/\Iq J w a' v:=by
 unfold eD at h
 split at h
 ·rename_i cE
  simp only[AV.sc.injEq] at cE;subst cE
  split at h<;>simp only[Ia.run,Bc,Br,reduceCtorEq] at h
  obtain⟨rfl,rfl⟩:=h;refine⟨rfl,?_⟩;simp only[Iq];exact⟨none,0,rfl,D5 _,by simp[maxLen],Zi,.inl trivial⟩
 ·rename_i v' _ cE
  simp only[AV.sc.injEq] at cE;subst cE
  split at h<;>simp only[Ia.run,Bc,Br,reduceCtorEq] at h
  rename_i hv;obtain⟨rfl,rfl⟩:=h;exact⟨rfl,by simp only[Iq];exact⟨trivial,hv⟩⟩
 all_goals first|(simp[Ia.run] at h;done)|(rename_i cE;simp at cE;done)
theorem Sb(fN:cells.all Hg=true)(jS:bM D I m hp w cells us):aC I w cells us:=by
 rw[Ae] at jS;rw[Ax];refine⟨jS.1,fun j a u ha hu=>?_⟩;have h1:=jS.2 j a u ha hu;have h2:Hg a=true:=nU.1 fN a (sM ha)
 cases a<;>simp[Hg] at h2<;>simp only[Ie] at h1
 ·simp only[Iq];exact⟨h1,h2⟩
 ·exact h1
 ·exact h1
 ·exact h1
theorem Ez(fN:cells.all Gt=true)(jS:bM D I m hp w cells us):aC I w cells us:=by
 rw[Ae] at jS;rw[Ax];refine⟨jS.1,fun j a u ha hu=>?_⟩;have h1:=jS.2 j a u ha hu;have h2:Gt a=true:=nU.1 fN a (sM ha)
 cases a<;>simp only[Gt,pW] at h2<;>simp only[Ie] at h1
 ·simp only[Iq];exact⟨h1,h2⟩
 ·exact h1
 ·exact h1
 ·simp only[Iq]
  obtain⟨us,hu,h1⟩:=h1;exact⟨us,hu,Sb h2 h1⟩
 ·exact h1
theorem Nq {R:AV->Value->Prop}{as:List AV}(h:Ue R as us):us.take as.length=us:=Kb (by rw[h.1];exact D5 _)
theorem Mb{us v:List α}(h:off+v.length<=n)(hn:n<=us.length):(us.take off++v++us.drop (off+v.length)).take n=(us.take n).take off++v++(us.take n).drop (off+v.length):=by
 have hl:(us.take off++v).length=off+v.length:=by rw[X3,sL];omega
 rw[List.take_append,Kb (by rw[hl];exact h),hl,List.drop_take,Acq,AD Zo]
theorem At{l:List α}{j:Nat}{v:α}(h:(l.take n)[j]?=some v):l[j]?=some v:=by
 rw[xZ] at h
 split at h
 ·exact h
 ·cases h
theorem boxD (G:Uj I K m hp w)(hx:hp x= .box g cells f)(fN:cells.all Gt=true)(hr:Ie D I m hp w (.ptr x g off) u)(hi: ∀b,I b->J b)(hj: ∀b c,m x=some (b,c)->J b):
  Iq J w (.dp cells off) u:=by
 have ho:=G.obj x;rw[hx] at ho;obtain⟨b,c,us,T,mk,o1,o2,o3,o4,o5,o6⟩:=ho;simp only[Ie] at hr;obtain⟨_,_,hr⟩:=hr;obtain⟨b',c',hm,rfl⟩:=hr cells f hx;rw[o1] at hm;cases hm;simp only[Iq];refine⟨b,0,us.toList.take cells.length,Zi,hj b c o1,fun j v hv=>?_,aC.mono hi (fun _ _=>rfl) _ _ (Ez fN o4)⟩;rw[AQ w b (0+j) us T mk o2];simpa using At hv
theorem bslD (G:Uj I K m hp w)(hx:hp x= .box g cells f)(fN:cells.all Gt=true)(hr:Ie D I m hp w (.bsl x g sz off n) u)(hl:off+n*sz<=cells.length):
  ∃b c cap us,m x=some (b,c)/\n<=cap/\cap<=maxLen/\u= .slice (some ⟨b,off,none⟩) n cap/\gC w b off us/\U3 I w sz (dR sz n (cells.drop off)) us/\(dR sz n (cells.drop off)).length=n/\us.length=n*sz:=by
 have ho:=G.obj x;rw[hx] at ho;obtain⟨b,c,us,T,mk,o1,o2,o3,o4,o5,o6⟩:=ho;simp only[Ie] at hr;obtain⟨_,_,hr⟩:=hr;obtain⟨b',c',cap,hm,h1,⟨h2,_⟩,rfl⟩:=hr cells f hx;rw[o1] at hm;cases hm;have hda:=(Ax _ _).1 (Ez fN o4);obtain⟨q1,q2,q3⟩:=Dw sz n (cells.drop off) (by rw[AT];omega);refine⟨b,c,cap,((us.toList.take cells.length).drop off).take (n*sz),o1,h1,h2,rfl,fun j v hv=>?_,?_,q3,?_⟩
 ·rw[AQ w b (off+j) us T mk o2]
  have hv:=At hv;rw[zD] at hv;simpa using At hv
 ·rw[Ai,q1]
  exact⟨q2,(hda.drop off).take _⟩
 ·have:=hda.1
  rw[sL,AT,<-this];omega
theorem JQ (G:Uj I K m hp w){e:TypeId}(hx:hp x= .arr g sz e rows f)(hr:Ie D I m hp w (.own x g n) u):Iq (fun b=>I b\/Ao m hp b) w (.sl false sz (rows.take n)) u:=by
 obtain⟨_,_,hd⟩:=G.ownRows hx hr;exact hd _ (fun _ h=> .inl h) (fun b c hc=> .inr ⟨x,(b,c),by rw[hx];rfl,hc,rfl⟩)
theorem JR (G:Uj I K m hp w)(hr:Ie D I m hp w a u)(h:(JS a).run hp=some (a',hp')):
  hp'=hp/\Iq (fun b=>I b\/Ao m hp b) w a' u:=by
 have hi: ∀b,I b->(I b\/Ao m hp b):=fun _ h=> .inl h
 unfold JS at h
 split at h
 ·rename_i x g n
  simp only[Ia.run] at h
  cases hx:hp x with
  |no g'=>rw[hx] at h;simp[Ia.run] at h
  |map _ _ _ _ _=>rw[hx] at h;simp[Ia.run] at h
  |box g' c f=>rw[hx] at h;simp[Ia.run] at h
  |arr g' sz e rows f=>
   rw[hx] at h;simp only at h
   split at h
   ·rename_i hg
    subst hg;simp only[Ia.run,Bc,Br] at h;obtain⟨rfl,rfl⟩:=h;exact⟨rfl,JQ G hx hr⟩
   ·simp[Ia.run] at h
 ·rename_i x g
  simp only[Ia.run] at h
  cases hx:hp x with
  |no g'=>rw[hx] at h;simp[Ia.run] at h
  |box g' c f=>rw[hx] at h;simp[Ia.run] at h
  |arr g' sz e rows f=>rw[hx] at h;simp[Ia.run] at h
  |map g' ag ks rows f=>
   rw[hx] at h;simp only at h
   split at h
   ·rename_i hg
    subst hg;simp only[Ia.run,Bc,Br] at h;obtain⟨rfl,rfl⟩:=h;exact⟨rfl,G.mapD hx hr hi (fun b c hc=> .inr ⟨x,(b,c),by rw[hx];rfl,hc,rfl⟩)⟩
   ·simp[Ia.run] at h
 ·split at h
  ·rename_i hd
   simp only[Ia.run,Bc,Br] at h;obtain⟨rfl,rfl⟩:=h;have h1:aC I w [a] [u]:=Ez (by simpa using hd) (by simp only[bM];exact⟨u,[],rfl,hr,rfl⟩);simp only[aC] at h1;obtain⟨v,vs,e1,h1,_⟩:=h1
   cases e1
   exact⟨rfl,Iq.mono hi (fun _ _=>rfl) _ _ h1⟩
  ·simp[Ia.run] at h
theorem V5 : ∀{as as':List AV} {us:List Value} {hp':Hp},Uj I K m hp w->Ue (Ie D I m hp w) as us->(tM as).run hp=some (as',hp')->
  hp'=hp/\Ue (Iq (fun b=>I b\/Ao m hp b) w) as' us
 |[],as',us,hp',G,hr,h=>by
  simp only[tM,Ia.run,Bc,Br] at h;obtain⟨rfl,rfl⟩:=h;have:us=[]:=Kw (by rw[<-hr.1];rfl);subst this;exact⟨rfl,.nil⟩
 |a::as,as',us,hp',G,hr,h=>by
  obtain⟨u,us',rfl,h1,h2⟩:=hr.cons_inv;simp only[tM] at h;obtain⟨v1,hp1,r1,h3⟩:=Aa h;clear h;obtain⟨vs,If,r2,h4⟩:=Aa h3;clear h3;simp only[Ia.run,Bc,Br] at h4;obtain⟨rfl,rfl⟩:=h4;obtain⟨e1,R1⟩:=JR G h1 r1;rw[e1] at r2;obtain⟨e2,R2⟩:=V5 G h2 r2;exact⟨e2,.cons R1 R2⟩
theorem Pk (G:Uj I K m hp w)(hr:Ie D I m hp w a u)(h:(kL true a).run hp=some (a',hp')):
  ∃I',Uj I' K m hp' w/\aL I K m hp w I' m hp' w/\Iq I' w a' u/\(∀b,I' b->I b\/Ao m hp b)/\ ∀b,Ao m hp' b->Ao m hp b:=by
 cases a with
 |sc v=>
  simp only[kL] at h
  split at h
  ·rename_i hv
   simp only[Ia.run,Bc,Br] at h;obtain⟨rfl,rfl⟩:=h;simp only[Ie] at hr;exact⟨I,G,.refl _ _ _ _ _,by simp only[Iq];exact⟨hr,hv⟩,fun _ h=> .inl h,fun _ h=>h⟩
  ·simp[Ia.run] at h
 |sl f sz rows=>
  simp only[kL,Ia.run,Bc,Br] at h;obtain⟨rfl,rfl⟩:=h;simp only[Ie] at hr;exact⟨I,G,.refl _ _ _ _ _,hr,fun _ h=> .inl h,fun _ h=>h⟩
 |dp c o=>
  simp only[kL,Ia.run,Bc,Br] at h;obtain⟨rfl,rfl⟩:=h;simp only[Ie] at hr;exact⟨I,G,.refl _ _ _ _ _,hr,fun _ h=> .inl h,fun _ h=>h⟩
 |ptr x g o=>
  simp only[kL,Ia.run] at h
  cases hx:hp x with
  |no g'=>rw[hx] at h;simp[Ia.run] at h
  |map _ _ _ _ _=>rw[hx] at h;simp[Ia.run] at h
  |arr g' sz e' rows f=>rw[hx] at h;simp[Ia.run] at h
  |box g' cells f=>
   rw[hx] at h;simp only[iW] at h
   split at h
   case isFalse=>simp[Ia.run] at h
   rename_i hc;obtain⟨rfl,fN⟩:=hc;simp only[Ia.run,Bc,Br] at h;obtain⟨rfl,rfl⟩:=h;obtain⟨I',G',E',hb,Ul⟩:=G.freezeBox' hx (fun us jS=>Ez fN jS);refine⟨I',G',E',boxD G hx fN hr E'.isub hb,Ul,?_⟩;intro b ⟨z,p,hz,hm,sT⟩;by_cases mT:z=x
   ·subst mT;exact⟨z,p,by rw[hx];rfl,hm,sT⟩
   ·rw[Aj _ _ mT] at hz;exact⟨z,p,hz,hm,sT⟩
 |dmp ag ks rows=>
  simp only[kL,Ia.run,Bc,Br] at h;obtain⟨rfl,rfl⟩:=h;simp only[Ie] at hr;exact⟨I,G,.refl _ _ _ _ _,hr,fun _ h=> .inl h,fun _ h=>h⟩
 |mp x g=>
  simp only[kL,Ia.run] at h
  cases hx:hp x with
  |no g'=>rw[hx] at h;simp[Ia.run] at h
  |box g' cells f=>rw[hx] at h;simp[Ia.run] at h
  |arr g' sz e rows f=>rw[hx] at h;simp[Ia.run] at h
  |map g' ag ks rows f=>
   rw[hx] at h;simp only[iW] at h
   split at h
   case isFalse=>simp[Ia.run] at h
   rename_i hg;subst hg;simp only[Ia.run,Bc,Br] at h;obtain⟨rfl,rfl⟩:=h;obtain⟨I',G',E',hb,Ul⟩:=G.freezeMap' hx;refine⟨I',G',E',G.mapD hx hr E'.isub hb,Ul,?_⟩;intro b ⟨z,p,hz,hm,sT⟩;by_cases mT:z=x
   ·subst mT;exact⟨z,p,by rw[hx];rfl,hm,sT⟩
   ·rw[Aj _ _ mT] at hz;exact⟨z,p,hz,hm,sT⟩
 |any|agg|tup|vec|fn|own|eptr|bsl=>simp[kL,Ia.run] at h
theorem Lz : ∀{as as':List AV} {us:List Value} {I:Nat->Prop} {hp hp':Hp},Uj I K m hp w->Ue (Ie D I m hp w) as us->(nK true as).run hp=some (as',hp')->
  ∃I',Uj I' K m hp' w/\aL I K m hp w I' m hp' w/\Ue (Iq I' w) as' us/\(∀b,I' b->I b\/Ao m hp b)/\ ∀b,Ao m hp' b->Ao m hp b
 |[],as',us,I,hp,hp',G,hr,h=>by
  simp only[nK,Ia.run,Bc,Br] at h;obtain⟨rfl,rfl⟩:=h;have:us=[]:=Kw (by rw[<-hr.1];rfl);subst this;exact⟨I,G,.refl _ _ _ _ _,.nil,fun _ h=> .inl h,fun _ h=>h⟩
 |a::as,as',us,I,hp,hp',G,hr,h=>by
  obtain⟨u,us',rfl,h1,h2⟩:=hr.cons_inv;simp only[nK] at h;obtain⟨v1,hp1,r1,h3⟩:=Aa h;clear h;obtain⟨vs,If,r2,h4⟩:=Aa h3;clear h3;simp only[Ia.run,Bc,Br] at h4;obtain⟨rfl,rfl⟩:=h4;obtain⟨I1,G1,E1,R1,i1,l1⟩:=Pk G h1 r1;obtain⟨I2,G2,E2,R2,i2,l2⟩:=Lz G1 (h2.imp fun a u h=>Ie.mono E1 _ a u h) r2;exact⟨I2,G2,E1.trans E2,.cons (Iq.mono E2.isub (fun _ _=>rfl) _ _ R1) R2,fun b hb=>(i2 b hb).elim (i1 b) (fun h=> .inr (l1 b h)),fun b hb=>l1 b (l2 b hb)⟩
theorem X5 (G:Uj I K m hp w)(hr:Ie D I m hp w a u)(h:(kL false a).run hp=some (a',hp')):
  hp'=hp/\Iq (fun b=>I b\/Ao m hp b) w a' u:=by
 have hi: ∀b,I b->(I b\/Ao m hp b):=fun _ h=> .inl h
 cases a with
 |sc v=>
  simp only[kL] at h
  split at h
  ·rename_i hv
   simp only[Ia.run,Bc,Br] at h;obtain⟨rfl,rfl⟩:=h;simp only[Ie] at hr;exact⟨rfl,by simp only[Iq];exact⟨hr,hv⟩⟩
  ·simp[Ia.run] at h
 |sl f sz rows=>
  simp only[kL,Ia.run,Bc,Br] at h;obtain⟨rfl,rfl⟩:=h;simp only[Ie] at hr;exact⟨rfl,Iq.mono hi (fun _ _=>rfl) _ _ hr⟩
 |dp c o=>
  simp only[kL,Ia.run,Bc,Br] at h;obtain⟨rfl,rfl⟩:=h;simp only[Ie] at hr;exact⟨rfl,Iq.mono hi (fun _ _=>rfl) _ _ hr⟩
 |ptr x g o=>
  simp only[kL,Ia.run] at h
  cases hx:hp x with
  |no g'=>rw[hx] at h;simp[Ia.run] at h
  |map _ _ _ _ _=>rw[hx] at h;simp[Ia.run] at h
  |arr g' sz e' rows f=>rw[hx] at h;simp[Ia.run] at h
  |box g' cells f=>
   rw[hx] at h;simp only[pW,lJ] at h
   split at h
   case isTrue hc=>
    obtain⟨rfl,fN⟩:=hc;simp only[Ia.run,Bc,Br] at h;obtain⟨rfl,rfl⟩:=h;exact⟨rfl,boxD G hx fN hr hi (fun b c hc=> .inr ⟨x,(b,c),by rw[hx];rfl,hc,rfl⟩)⟩
   split at h
   case isFalse=>simp[Ia.run] at h
   rename_i hc;obtain⟨rfl,_⟩:=hc;obtain⟨cs,hp1,r1,h2⟩:=Aa h;simp only[Ia.run,Bc,Br] at h2;obtain⟨rfl,rfl⟩:=h2;have ho:=G.obj x;rw[hx] at ho;obtain⟨b,c,us,T,mk,o1,o2,o3,o4,o5,o6⟩:=ho;simp only[Ie] at hr;obtain⟨_,_,hr⟩:=hr;obtain⟨b',c',hm,rfl⟩:=hr cells f hx;rw[o1] at hm;cases hm;obtain⟨e1,R'⟩:=V5 G ((Ae _ _).1 o4) r1;refine⟨e1,?_⟩;simp only[Iq];refine⟨b,0,us.toList.take cells.length,Zi,.inr ⟨x,(b,c),by rw[hx];rfl,o1,rfl⟩,fun j v hv=>?_,(Ax _ _).2 R'⟩;rw[AQ w b (0+j) us T mk o2];simpa using At hv
 |dmp ag ks rows=>
  simp only[kL,Ia.run,Bc,Br] at h;obtain⟨rfl,rfl⟩:=h;simp only[Ie] at hr;exact⟨rfl,Iq.mono hi (fun _ _=>rfl) _ _ hr⟩
 |mp x g=>
  simp only[kL,Ia.run] at h
  cases hx:hp x with
  |no g'=>rw[hx] at h;simp[Ia.run] at h
  |box g' cells f=>rw[hx] at h;simp[Ia.run] at h
  |arr g' sz e rows f=>rw[hx] at h;simp[Ia.run] at h
  |map g' ag ks rows f=>
   rw[hx] at h;simp only[pW,lJ] at h
   split at h
   case isFalse=>simp[Ia.run] at h
   rename_i hg;subst hg;have h':(AV.dmp ag ks rows,hp)=(a',hp'):=by
    split at h<;>simpa[Ia.run] using h
   simp only[Br] at h';obtain⟨rfl,rfl⟩:=h';exact⟨rfl,G.mapD hx hr hi (fun b c hc=> .inr ⟨x,(b,c),by rw[hx];rfl,hc,rfl⟩)⟩
 |any|agg|tup|vec|fn|own|eptr|bsl=>simp[kL,Ia.run] at h
theorem Sc : ∀{as as':List AV} {us:List Value} {hp':Hp},Uj I K m hp w->Ue (Ie D I m hp w) as us->(nK false as).run hp=some (as',hp')->
  hp'=hp/\Ue (Iq (fun b=>I b\/Ao m hp b) w) as' us
 |[],as',us,hp',G,hr,h=>by
  simp only[nK,Ia.run,Bc,Br] at h;obtain⟨rfl,rfl⟩:=h;have:us=[]:=Kw (by rw[<-hr.1];rfl);subst this;exact⟨rfl,.nil⟩
 |a::as,as',us,hp',G,hr,h=>by
  obtain⟨u,us',rfl,h1,h2⟩:=hr.cons_inv;simp only[nK] at h;obtain⟨v1,hp1,r1,h3⟩:=Aa h;clear h;obtain⟨vs,If,r2,h4⟩:=Aa h3;clear h3;simp only[Ia.run,Bc,Br] at h4;obtain⟨rfl,rfl⟩:=h4;obtain⟨e1,R1⟩:=X5 G h1 r1;rw[e1] at r2;obtain⟨e2,R2⟩:=Sc G h2 r2;exact⟨e2,.cons R1 R2⟩
theorem Nx(h:Iq J w (.sl f sz rows) u):Iq J w (.sl false sz rows) u:=by
 simp only[Iq] at h⊢;obtain⟨A,cap,h1,h2,h3,_,h5⟩:=h;exact⟨A,cap,h1,h2,h3,Zi,h5⟩
theorem Gva (G:Uj I K m hp w)(hr:Ie D I m hp w a u)(h:(ownF a).run hp=some (a',hp')):
  ∃I',Uj I' K m hp' w/\aL I K m hp w I' m hp' w/\Iq I' w a' u/\(∀b,I' b->I b\/Ao m hp b)/\ ∀b,Ao m hp' b->Ao m hp b:=by
 unfold ownF at h
 split at h
 ·rename_i x g n
  simp only[Ia.run] at h
  cases hx:hp x with
  |no g'=>rw[hx] at h;simp[Ia.run] at h
  |map _ _ _ _ _=>rw[hx] at h;simp[Ia.run] at h
  |box g' c f=>rw[hx] at h;simp[Ia.run] at h
  |arr g' sz e rows f=>
   rw[hx] at h;simp only at h
   split at h
   ·rename_i hg
    subst hg;simp only[Ia.run,Bc,Br] at h;obtain⟨rfl,rfl⟩:=h;obtain⟨I',G',E',hb,Ul⟩:=G.freeze' hx;obtain⟨_,_,hd⟩:=G.ownRows hx hr;refine⟨I',G',E',hd I' E'.isub hb,Ul,?_⟩;intro b ⟨z,p,hz,hm,sT⟩;by_cases mT:z=x
    ·subst mT;exact⟨z,p,by rw[hx];rfl,hm,sT⟩
    ·rw[Aj _ _ mT] at hz;exact⟨z,p,hz,hm,sT⟩
   ·simp[Ia.run] at h
 ·split at h
  ·rename_i hd
   simp only[Ia.run,Bc,Br] at h;obtain⟨rfl,rfl⟩:=h;have h1:aC I w [a] [u]:=Ez (by simpa using hd) (by simp only[bM];exact⟨u,[],rfl,hr,rfl⟩);simp only[aC] at h1;obtain⟨v,vs,e1,h1,_⟩:=h1
   cases e1
   exact⟨I,G,.refl _ _ _ _ _,h1,fun _ h=> .inl h,fun _ h=>h⟩
  ·simp[Ia.run] at h
theorem Qv : ∀{as as':List AV} {us:List Value} {I:Nat->Prop} {hp hp':Hp},Uj I K m hp w->Ue (Ie D I m hp w) as us->(vG as).run hp=some (as',hp')->
  ∃I',Uj I' K m hp' w/\aL I K m hp w I' m hp' w/\Ue (Iq I' w) as' us/\(∀b,I' b->I b\/Ao m hp b)/\ ∀b,Ao m hp' b->Ao m hp b
 |[],as',us,I,hp,hp',G,hr,h=>by
  simp only[vG,Ia.run,Bc,Br] at h;obtain⟨rfl,rfl⟩:=h;have:us=[]:=Kw (by rw[<-hr.1];rfl);subst this;exact⟨I,G,.refl _ _ _ _ _,.nil,fun _ h=> .inl h,fun _ h=>h⟩
 |a::as,as',us,I,hp,hp',G,hr,h=>by
  obtain⟨u,us',rfl,h1,h2⟩:=hr.cons_inv;simp only[vG] at h;obtain⟨v1,hp1,r1,h3⟩:=Aa h;clear h;obtain⟨vs,If,r2,h4⟩:=Aa h3;clear h3;simp only[Ia.run,Bc,Br] at h4;obtain⟨rfl,rfl⟩:=h4;obtain⟨I1,G1,E1,R1,i1,l1⟩:=Gva G h1 r1;obtain⟨I2,G2,E2,R2,i2,l2⟩:=Qv G1 (h2.imp fun a u h=>Ie.mono E1 D a u h) r2;exact⟨I2,G2,E1.trans E2,.cons (Iq.mono E2.isub (fun _ _=>rfl) _ _ R1) R2,fun b hb=>(i2 b hb).elim (i1 b) fun h=> .inr (l1 b h),fun b hb=>l1 b (l2 b hb)⟩
theorem Cma (G:Uj I K m hp w)(hr:Ie D I m hp w (.bsl x g sz off n) u)(h:(eD P true ct (.bsl x g sz off n)).run hp=some (a',hp')):
  ∃I',Uj I' K m hp' w/\aL I K m hp w I' m hp' w/\Iq I' w a' u/\(∀b,I' b->I b\/Ao m hp b)/\ ∀b,Ao m hp' b->Ao m hp b:=by
 simp only[eD,Ia.run] at h
 cases hx:hp x with
 |no g'=>rw[hx] at h;simp[Ia.run] at h
 |map _ _ _ _ _=>rw[hx] at h;simp[Ia.run] at h
 |arr g' sz e' rows f=>rw[hx] at h;simp[Ia.run] at h
 |box g' cells f=>
  rw[hx] at h;simp only[iW] at h
  split at h
  case isFalse=>
   split at h
   case isFalse=>simp[Ia.run] at h
   rename_i hc;obtain⟨_,rfl,hl⟩:=hc;obtain⟨cs,hp1,r1,h2⟩:=Aa h;have ho:=G.obj x;rw[hx] at ho;obtain⟨b,c,us,T,mk,o1,o2,o3,o4,o5,o6⟩:=ho;obtain⟨I1,G1,E1,R1,i1,l1⟩:=Qv G ((Ae _ _).1 o4) r1;have lY:cs.length=cells.length:=by
    have hh:=R1.1;have hh2:=((Ae _ _).1 o4).1;omega
   simp only[Ia.run] at h2
   cases yF:hp1 x with
   |no g'=>rw[yF] at h2;simp[Ia.run] at h2
   |map _ _ _ _ _=>rw[yF] at h2;simp[Ia.run] at h2
   |arr g' sz e' rows f=>rw[yF] at h2;simp[Ia.run] at h2
   |box g2 cells2 f2=>
    rw[yF] at h2;simp only at h2
    split at h2
    case isFalse=>simp[Ia.run] at h2
    rename_i iL;subst iL;simp only[Ia.run,Bc,Br] at h2;obtain⟨rfl,rfl⟩:=h2;obtain⟨I2,G2,E2,hb,Ul⟩:=G1.freezeBoxC (cs:=cs) yF (fun b' c' us' T' mk' q1 q2=>by
     rw[o1] at q1;cases q1;rw[o2] at q2;cases q2;rw[lY];exact(Ax _ _).2 R1)
    simp only[Ie] at hr;obtain⟨_,_,hr⟩:=hr;obtain⟨b',c',cap,hm,h1,⟨h2,_⟩,rfl⟩:=hr cells f hx;rw[o1] at hm;cases hm;obtain⟨q1,q2,q3⟩:=Dw sz n (cs.drop off) (by rw[AT];omega);refine⟨I2,G2,E1.trans E2,?_,fun b hb=>(Ul b hb).elim (i1 b) fun h=> .inr (l1 b h),fun b hb=>l1 b ?_⟩;rotate_left
    ·obtain⟨z,p,hz,hm,sT⟩:=hb
     by_cases mT:z=x
     ·subst mT;exact⟨z,p,by rw[yF];rfl,hm,sT⟩
     ·rw[Aj _ _ mT] at hz;exact⟨z,p,hz,hm,sT⟩
    simp only[Iq];refine⟨_,cap,by rw[q3],by rw[q3];exact h1,h2,Zi,.inr ⟨b,off,((us.toList.take cells.length).drop off).take (n*sz),rfl,hb b c o1,fun j v hv=>?_,?_⟩⟩
    ·rw[AQ w b (off+j) us T mk o2]
     have hv:=At hv;rw[zD] at hv;simpa using At hv
    ·rw[Ai,q1]
     exact⟨q2,((R1.imp fun a u h=>Iq.mono E2.isub (fun _ _=>rfl) _ _ h).drop off).take _⟩
  rename_i hc;obtain⟨rfl,hl,fN⟩:=hc;simp only[Ia.run,Bc,Br] at h;obtain⟨rfl,rfl⟩:=h;obtain⟨I',G',E',hb,Ul⟩:=G.freezeBox' hx (fun us jS=>Ez fN jS);obtain⟨b,c,cap,us,c1,c2,c3,rfl,c4,c5,c6,_⟩:=bslD G hx fN hr hl;refine⟨I',G',E',?_,Ul,?_⟩;rotate_left
  ·intro b ⟨z,p,hz,hm,sT⟩
   by_cases mT:z=x
   ·subst mT;exact⟨z,p,by rw[hx];rfl,hm,sT⟩
   ·rw[Aj _ _ mT] at hz;exact⟨z,p,hz,hm,sT⟩
  simp only[Iq];refine⟨_,cap,by rw[c6],by rw[c6];exact c2,c3,Zi,.inr ⟨b,off,us,rfl,hb b c c1,c4,U3.mono E'.isub (fun _ _=>rfl) _ _ _ c5⟩⟩
theorem Dba (G:Uj I K m hp w)(hr:Ie D I m hp w a u)(h:(eD P true ct a).run hp=some (a',hp')):
  ∃I',Uj I' K m hp' w/\aL I K m hp w I' m hp' w/\Iq I' w a' u:=by
 cases a with
 |sc v=>
  simp only[Ie] at hr;subst hr;obtain⟨rfl,h2⟩:=ED (J:=I) (w:=w) h;exact⟨I,G,.refl _ _ _ _ _,h2⟩
 |sl f sz rows=>
  simp only[eD,Ia.run,Bc,Br] at h;obtain⟨rfl,rfl⟩:=h;simp only[Ie] at hr;exact⟨I,G,.refl _ _ _ _ _,Nx hr⟩
 |dp c o=>
  simp only[eD,Ia.run,Bc,Br] at h;obtain⟨rfl,rfl⟩:=h;simp only[Ie] at hr;exact⟨I,G,.refl _ _ _ _ _,hr⟩
 |own x g n=>
  simp only[eD,Ia.run] at h
  cases hx:hp x with
  |no g'=>rw[hx] at h;simp[Ia.run] at h
  |map _ _ _ _ _=>rw[hx] at h;simp[Ia.run] at h
  |box g' c f=>rw[hx] at h;simp[Ia.run] at h
  |arr g' sz e rows f=>
   rw[hx] at h;simp only[iW] at h
   split at h
   ·rename_i hg
    subst hg;simp only[Ia.run,Bc,Br] at h;obtain⟨rfl,rfl⟩:=h;obtain⟨I',G',E',hb⟩:=G.freeze hx;obtain⟨_,_,hd⟩:=G.ownRows hx hr;exact⟨I',G',E',hd I' E'.isub hb⟩
   ·simp[Ia.run] at h
 |fn f caps=>
  simp only[eD] at h;simp only[Ie] at hr;obtain⟨us,rfl,hr⟩:=hr;obtain⟨cs,hp1,r1,h2⟩:=Aa h;simp only[Ia.run,Bc,Br] at h2;obtain⟨rfl,rfl⟩:=h2;obtain⟨I',G',E',R',_⟩:=Lz G ((Ae _ _).1 hr) r1;exact⟨I',G',E',by simp only[Iq];exact⟨us,rfl,(Ax _ _).2 R'⟩⟩
 |bsl x g sz off n=>
  obtain⟨I',G',E',R,_⟩:=Cma G hr h;exact⟨I',G',E',R⟩
 |dmp ag ks rows=>
  simp only[eD,Ia.run,Bc,Br] at h;obtain⟨rfl,rfl⟩:=h;simp only[Ie] at hr;exact⟨I,G,.refl _ _ _ _ _,hr⟩
 |mp x g=>
  simp only[eD,Ia.run] at h
  cases hx:hp x with
  |no g'=>rw[hx] at h;simp[Ia.run] at h
  |box g' cells f=>rw[hx] at h;simp[Ia.run] at h
  |arr g' sz e rows f=>rw[hx] at h;simp[Ia.run] at h
  |map g' ag ks rows f=>
   rw[hx] at h;simp only[iW] at h
   split at h
   case isFalse=>simp[Ia.run] at h
   rename_i hg;subst hg;simp only[Ia.run,Bc,Br] at h;obtain⟨rfl,rfl⟩:=h;obtain⟨I',G',E',hb,Ul⟩:=G.freezeMap' hx;exact⟨I',G',E',G.mapD hx hr E'.isub hb⟩
 |any|ptr|eptr|agg|tup|vec=>simp[eD,Ia.run] at h
theorem Dca (G:Uj I K m hp w)(hr:Ie D I m hp w a u)(h:(eD P false ct a).run hp=some (a',hp')):
  hp'=hp/\Iq (fun b=>I b\/Ao m hp b) w a' u:=by
 have hi: ∀b,I b->(I b\/Ao m hp b):=fun _ h=> .inl h
 cases a with
 |sc v=>
  simp only[Ie] at hr;subst hr;exact ED h
 |sl f sz rows=>
  simp only[eD,Ia.run,Bc,Br] at h;obtain⟨rfl,rfl⟩:=h;simp only[Ie] at hr;exact⟨rfl,Iq.mono hi (fun _ _=>rfl) _ _ (Nx hr)⟩
 |dp c o=>
  simp only[eD,Ia.run,Bc,Br] at h;obtain⟨rfl,rfl⟩:=h;simp only[Ie] at hr;exact⟨rfl,Iq.mono hi (fun _ _=>rfl) _ _ hr⟩
 |own x g n=>
  simp only[eD,Ia.run] at h
  cases hx:hp x with
  |no g'=>rw[hx] at h;simp[Ia.run] at h
  |map _ _ _ _ _=>rw[hx] at h;simp[Ia.run] at h
  |box g' c f=>rw[hx] at h;simp[Ia.run] at h
  |arr g' sz e rows f=>
   rw[hx] at h;simp only[pW,lJ] at h
   split at h
   ·rename_i hg
    subst hg;have h':(AV.sl false sz (rows.take n),hp)=(a',hp'):=by
     split at h<;>simpa[Ia.run] using h
    simp only[Br] at h';obtain⟨rfl,rfl⟩:=h';obtain⟨_,_,hd⟩:=G.ownRows hx hr;exact⟨rfl,hd _ hi (fun b c hc=> .inr ⟨x,(b,c),by rw[hx];rfl,hc,rfl⟩)⟩
   ·simp[Ia.run] at h
 |fn f caps=>
  simp only[eD] at h;simp only[Ie] at hr;obtain⟨us,rfl,hr⟩:=hr;obtain⟨cs,hp1,r1,h2⟩:=Aa h;simp only[Ia.run,Bc,Br] at h2;obtain⟨rfl,rfl⟩:=h2;obtain⟨e1,R'⟩:=Sc G ((Ae _ _).1 hr) r1;exact⟨e1,by simp only[Iq];exact⟨us,rfl,(Ax _ _).2 R'⟩⟩
 |bsl x g sz off n=>
  simp only[eD,Ia.run] at h
  cases hx:hp x with
  |no g'=>rw[hx] at h;simp[Ia.run] at h
  |map _ _ _ _ _=>rw[hx] at h;simp[Ia.run] at h
  |arr g' sz e' rows f=>rw[hx] at h;simp[Ia.run] at h
  |box g' cells f=>
   rw[hx] at h;simp only[pW,lJ,false_and] at h
   split at h
   case isFalse=>simp[Ia.run] at h
   rename_i hc;obtain⟨rfl,hl,fN⟩:=hc;simp only[Ia.run,Bc,Br] at h;obtain⟨rfl,rfl⟩:=h;obtain⟨b,c,cap,us,c1,c2,c3,rfl,c4,c5,c6,_⟩:=bslD G hx fN hr hl;refine⟨rfl,?_⟩;simp only[Iq];refine⟨_,cap,by rw[c6],by rw[c6];exact c2,c3,Zi,.inr ⟨b,off,us,rfl,.inr ⟨x,(b,c),by rw[hx];rfl,c1,rfl⟩,c4,U3.mono hi (fun _ _=>rfl) _ _ _ c5⟩⟩
 |dmp ag ks rows=>
  simp only[eD,Ia.run,Bc,Br] at h;obtain⟨rfl,rfl⟩:=h;simp only[Ie] at hr;exact⟨rfl,Iq.mono hi (fun _ _=>rfl) _ _ hr⟩
 |mp x g=>
  simp only[eD,Ia.run] at h
  cases hx:hp x with
  |no g'=>rw[hx] at h;simp[Ia.run] at h
  |box g' cells f=>rw[hx] at h;simp[Ia.run] at h
  |arr g' sz e rows f=>rw[hx] at h;simp[Ia.run] at h
  |map g' ag ks rows f=>
   rw[hx] at h;simp only[pW,lJ] at h
   split at h
   case isFalse=>simp[Ia.run] at h
   rename_i hg;subst hg;have h':(AV.dmp ag ks rows,hp)=(a',hp'):=by
    split at h<;>simpa[Ia.run] using h
   simp only[Br] at h';obtain⟨rfl,rfl⟩:=h';exact⟨rfl,G.mapD hx hr hi (fun b c hc=> .inr ⟨x,(b,c),by rw[hx];rfl,hc,rfl⟩)⟩
 |any|ptr|eptr|agg|tup|vec=>simp[eD,Ia.run] at h
theorem Eo : ∀{cts:List TypeId} {as as':List AV} {us:List Value} {I:Nat->Prop} {hp hp':Hp},Uj I K m hp w->Ue (Ie D I m hp w) as us->(fQ P true cts as).run hp=some (as',hp')->
  ∃I',Uj I' K m hp' w/\aL I K m hp w I' m hp' w/\Ue (Iq I' w) as' us
 |cts,[],as',us,I,hp,hp',G,hr,h=>by
  have:us=[]:=Kw (by rw[<-hr.1];rfl);subst this
  cases cts<;>simp only[fQ,Ia.run,Bc,Br] at h<;>obtain⟨rfl,rfl⟩:=h<;>exact⟨I,G,.refl _ _ _ _ _,.nil⟩
 |[],a::as,as',us,I,hp,hp',G,hr,h=>by simp[fQ,Ia.run] at h
 |ct::cts,a::as,as',us,I,hp,hp',G,hr,h=>by
  obtain⟨v,vs,rfl,h1,h2⟩:=hr.cons_inv;simp only[fQ] at h;obtain⟨a1,hp1,r1,h⟩:=Aa h;obtain⟨as1,If,r2,h⟩:=Aa h;obtain⟨I1,G1,E1,d1⟩:=Dba G h1 r1;obtain⟨I2,G2,E2,d2⟩:=Eo G1 (h2.imp fun a u h=>Ie.mono E1 D a u h) r2;simp only[Ia.run,Bc,Br] at h;obtain⟨rfl,rfl⟩:=h;exact⟨I2,G2,E1.trans E2,.cons (Iq.mono E2.isub (fun _ _=>rfl) _ _ d1) d2⟩
theorem Np : ∀{cts:List TypeId} {as as':List AV} {us:List Value} {hp':Hp},Uj I K m hp w->Ue (Ie D I m hp w) as us->(fQ P false cts as).run hp=some (as',hp')->
  hp'=hp/\Ue (Iq (fun b=>I b\/Ao m hp b) w) as' us
 |cts,[],as',us,hp',G,hr,h=>by
  have:us=[]:=Kw (by rw[<-hr.1];rfl);subst this
  cases cts<;>simp only[fQ,Ia.run,Bc,Br] at h<;>obtain⟨rfl,rfl⟩:=h<;>exact⟨rfl,.nil⟩
 |[],a::as,as',us,hp',G,hr,h=>by simp[fQ,Ia.run] at h
 |ct::cts,a::as,as',us,hp',G,hr,h=>by
  obtain⟨v,vs,rfl,h1,h2⟩:=hr.cons_inv;simp only[fQ] at h;obtain⟨a1,hp1,r1,h⟩:=Aa h;obtain⟨as1,If,r2,h⟩:=Aa h;obtain⟨e1,d1⟩:=Dca G h1 r1;rw[e1] at r2;obtain⟨e2,d2⟩:=Np G h2 r2;rw[e2] at h;simp only[Ia.run,Bc,Br] at h;obtain⟨rfl,rfl⟩:=h;exact⟨rfl,.cons d1 d2⟩
theorem NF (G:Uj I K m hp w){d:Nat}{z:Unit}(hr:Ie D I m hp w a u)(h:(NG d a).run hp=some (z,hp')):hp'=hp/\Ie d I m hp w a u:=by
 have dat:Hg a=true->Ie d I m hp w a u:=fun hd=>by
  have h1:=Sb (cells:=[a]) (us:=[u]) (by simpa using hd) (by simp only[bM];exact⟨u,[],rfl,hr,rfl⟩);simp only[aC] at h1;obtain⟨v,vs,e1,h1,_⟩:=h1
  cases e1
  exact h1.rep
 unfold NG at h
 split at h
 ·rename_i x g o
  simp only[Ia.run] at h
  cases hx:hp x with
  |no g'=>rw[hx] at h;simp[Ia.run,It.head] at h
  |arr g' sz e rows f=>rw[hx] at h;simp[Ia.run,It.head] at h
  |map g' ag ks rows f=>rw[hx] at h;simp[Ia.run,It.head] at h
  |box g' c f=>
   rw[hx] at h;simp only[It.head] at h
   split at h
   ·rename_i hg
    simp only[Ia.run,Bc,Br] at h;simp only[Ie] at hr⊢;exact⟨h.2.symm,hg.2,hr.2⟩
   ·simp[Ia.run] at h
 ·rename_i x g
  simp only[Ia.run] at h
  cases hx:hp x with
  |no g'=>rw[hx] at h;simp[Ia.run,It.head] at h
  |arr g' sz e rows f=>rw[hx] at h;simp[Ia.run,It.head] at h
  |box g' c f=>rw[hx] at h;simp[Ia.run,It.head] at h
  |map g' ag ks rows f=>
   rw[hx] at h;simp only[It.head] at h
   split at h
   ·rename_i hg
    simp only[Ia.run,Bc,Br] at h;simp only[Ie] at hr⊢;exact⟨h.2.symm,hg.2,hr.2⟩
   ·simp[Ia.run] at h
 ·split at h
  ·rename_i hd
   simp only[Ia.run,Bc,Br] at h;exact⟨h.2.symm,dat hd⟩
  ·simp[Ia.run] at h
theorem Xz {d:Nat}: ∀{as:List AV} {us:List Value} {z:Unit} {hp':Hp},Uj I K m hp w->Ue (Ie D I m hp w) as us->(tV d as).run hp=some (z,hp')->hp'=hp/\Ue (Ie d I m hp w) as us
 |[],us,z,hp',G,hr,h=>by
  simp only[tV,Ia.run,Bc,Br] at h;have:us=[]:=Kw (by rw[<-hr.1];rfl);subst this;exact⟨h.2.symm,.nil⟩
 |a::as,us,z,hp',G,hr,h=>by
  obtain⟨u,us',rfl,h1,h2⟩:=hr.cons_inv;simp only[tV] at h;obtain⟨_,hp1,r1,h3⟩:=Aa h;obtain⟨e1,R1⟩:=NF G h1 r1;rw[e1] at h3;obtain⟨e2,R2⟩:=Xz G h2 h3;exact⟨e2,.cons R1 R2⟩
theorem Le (G:Uj I K m hp w){y:Nm}(hr:Ie D I m hp w a u)(h:(settle P y ct a).run hp=some (a',hp')):
  ∃I' m',Uj I' K m' hp' w/\aL I K m hp w I' m' hp' w/\Ie y.d I' m' hp' w a' u/\u.oneCell'=true:=by
 cases a with
 |sc v=>
  simp only[Ie] at hr;subst hr;unfold settle at h
  split at h
  ·rename_i cE
   simp only[AV.sc.injEq] at cE;subst cE
   split at h
   ·rename_i e he
    simp only[Ia.run,Bc,Br] at h;obtain⟨rfl,rfl⟩:=h;obtain⟨G',E'⟩:=G.virt y (P.cellsOf e) e;refine⟨I,_,G',E',?_,rfl⟩;simp only[Ie];refine⟨D5 _,by rw[Ad];exact D5 _,fun sz e' rows fz hx=>?_⟩;rw[Ad] at hx
    cases hx
    exact⟨D5 _,.inl ⟨Ad _ _ _,trivial,trivial⟩⟩
   ·simp[Ia.run] at h
  ·rename_i v' _ cE
   simp only[AV.sc.injEq] at cE;subst cE
   split at h
   ·rename_i hv
    simp only[Ia.run,Bc,Br] at h;obtain⟨rfl,rfl⟩:=h;exact⟨I,m,G,.refl _ _ _ _ _,by simp only[Ie],hv⟩
   ·simp[Ia.run] at h
  all_goals first|(simp[Ia.run] at h;done)|(rename_i cE;simp at cE;done)
 |sl f sz rows=>
  simp only[settle,Ia.run,Bc,Br] at h;obtain⟨rfl,rfl⟩:=h;simp only[Ie] at hr;exact⟨I,m,G,.refl _ _ _ _ _,hr.rep,hr.one⟩
 |dp c o=>
  simp only[settle,Ia.run,Bc,Br] at h;obtain⟨rfl,rfl⟩:=h;simp only[Ie] at hr;exact⟨I,m,G,.refl _ _ _ _ _,hr.rep,hr.one⟩
 |own x g n=>
  simp only[settle,Ia.run] at h
  cases hx:hp x with
  |no g'=>rw[hx] at h;simp[Ia.run] at h
  |map _ _ _ _ _=>rw[hx] at h;simp[Ia.run] at h
  |box g' c f=>rw[hx] at h;simp[Ia.run] at h
  |arr g' sz e rows f=>
   rw[hx] at h;simp only at h
   split at h
   ·rename_i hg
    subst hg;obtain⟨_,ho,hd⟩:=G.ownRows hx hr
    split at h
    ·rename_i sX
     subst sX;simp only[Ia.run,Bc,Br] at h;obtain⟨rfl,rfl⟩:=h;simp only[Ie] at hr;exact⟨I,m,G,.refl _ _ _ _ _,by simp only[Ie];exact⟨D5 _,hr.2⟩,ho⟩
    ·rename_i sX
     split at h
     ·rename_i hc
      obtain⟨rfl,rfl⟩:=hc;simp only[Ia.run,Bc,Br,Aj _ _ (Ne.symm sX)] at h;obtain⟨rfl,rfl⟩:=h;obtain⟨G',E'⟩:=G.move sX hx;refine⟨I,_,G',E',?_,ho⟩;simp only[Ie] at hr⊢;obtain⟨_,_,hr⟩:=hr;obtain⟨_,hr⟩:=hr sz e rows false hx;refine⟨D5 _,by rw[Ad];exact D5 _,fun sz' e' rows' fz rO=>?_⟩;rw[Ad] at rO
      cases rO
      exact⟨D5 _,by rw[Ad];exact hr⟩
     ·simp only[Ia.run,Bc,Br] at h
      obtain⟨rfl,rfl⟩:=h;obtain⟨I',G',E',hb⟩:=G.freeze hx;exact⟨I',m,G',E',(hd I' E'.isub hb).rep,ho⟩
   ·simp[Ia.run] at h
 |fn f caps=>
  simp only[settle] at h;simp only[Ie] at hr;obtain⟨us,rfl,hr⟩:=hr;obtain⟨_,hp1,r1,h2⟩:=Aa h;simp only[Ia.run,Bc,Br] at h2;obtain⟨rfl,rfl⟩:=h2;obtain⟨e1,R1⟩:=Xz G ((Ae _ _).1 hr) r1;subst e1;exact⟨I,m,G,.refl _ _ _ _ _,by simp only[Ie];exact⟨us,rfl,(Ae _ _).2 R1⟩,rfl⟩
 |ptr x g o=>
  simp only[settle,Ia.run] at h
  cases hx:hp x with
  |no g'=>rw[hx] at h;simp[Ia.run,It.head] at h
  |map _ _ _ _ _=>rw[hx] at h;simp[Ia.run,It.head] at h
  |arr g' sz e rows f=>rw[hx] at h;simp[Ia.run,It.head] at h
  |box g' c f=>
   rw[hx] at h;simp only[It.head] at h
   split at h
   ·rename_i hg
    obtain⟨rfl,hd⟩:=hg;simp only[Ia.run,Bc,Br] at h;obtain⟨rfl,rfl⟩:=h;simp only[Ie] at hr;obtain⟨b,c',_,rfl⟩:=hr.2.2 c f hx;refine⟨I,m,G,.refl _ _ _ _ _,?_,rfl⟩;simp only[Ie];exact⟨hd,hr.2⟩
   ·simp[Ia.run] at h
 |bsl x g sz o n=>
  simp only[settle,Ia.run] at h
  cases hx:hp x with
  |no g'=>rw[hx] at h;simp[Ia.run,It.head] at h
  |arr g' sz e rows f=>rw[hx] at h;simp[Ia.run,It.head] at h
  |map g' ag ks rows f=>rw[hx] at h;simp[Ia.run,It.head] at h
  |box g' c f=>
   rw[hx] at h;simp only[It.head] at h
   split at h
   ·rename_i hg
    obtain⟨rfl,hd⟩:=hg;simp only[Ia.run,Bc,Br] at h;obtain⟨rfl,rfl⟩:=h;simp only[Ie] at hr;obtain⟨b,c',cap,_,_,_,rfl⟩:=hr.2.2 c f hx;refine⟨I,m,G,.refl _ _ _ _ _,?_,rfl⟩;simp only[Ie];exact⟨hd,hr.2⟩
   ·simp[Ia.run] at h
 |dmp ag ks rows=>
  simp only[settle,Ia.run,Bc,Br] at h;obtain⟨rfl,rfl⟩:=h;simp only[Ie] at hr;exact⟨I,m,G,.refl _ _ _ _ _,hr.rep,hr.one⟩
 |mp x g=>
  simp only[settle,Ia.run] at h
  cases hx:hp x with
  |no g'=>rw[hx] at h;simp[Ia.run,It.head] at h
  |arr g' sz e rows f=>rw[hx] at h;simp[Ia.run,It.head] at h
  |box g' c f=>rw[hx] at h;simp[Ia.run,It.head] at h
  |map g' ag ks rows f=>
   rw[hx] at h;simp only[It.head] at h
   split at h
   ·rename_i hg
    obtain⟨rfl,hd⟩:=hg;simp only[Ia.run,Bc,Br] at h;obtain⟨rfl,rfl⟩:=h;simp only[Ie] at hr;obtain⟨b,c',_,rfl⟩:=hr.2.2 ag ks rows f hx;refine⟨I,m,G,.refl _ _ _ _ _,?_,rfl⟩;simp only[Ie];exact⟨hd,hr.2⟩
   ·simp[Ia.run] at h
 |any|eptr|agg|tup|vec=>simp[settle,Ia.run] at h
theorem Ep {d i:Nat}: ∀{off:Nat} {cts:List TypeId} {as as':List AV} {us:List Value} {I:Nat->Prop} {m:Mp} {hp hp':Hp},Uj I K m hp w->Ue (Ie D I m hp w) as us->(gS P d i off cts as).run hp=some (as',hp')->
  ∃I' m',Uj I' K m' hp' w/\aL I K m hp w I' m' hp' w/\Ue (Ie d I' m' hp' w) as' us/\ ∀u∈us,u.oneCell'=true
 |off,cts,[],as',us,I,m,hp,hp',G,hr,h=>by
  have:us=[]:=Kw (by rw[<-hr.1];rfl);subst this
  cases cts<;>simp only[gS,Ia.run,Bc,Br] at h<;>obtain⟨rfl,rfl⟩:=h<;>exact⟨I,m,G,.refl _ _ _ _ _,.nil,Zi⟩
 |off,[],a::as,as',us,I,m,hp,hp',G,hr,h=>by simp[gS,Ia.run] at h
 |off,ct::cts,a::as,as',us,I,m,hp,hp',G,hr,h=>by
  obtain⟨v,vs,rfl,h1,h2⟩:=hr.cons_inv;simp only[gS] at h;obtain⟨a1,hp1,r1,h⟩:=Aa h;obtain⟨as1,If,r2,h⟩:=Aa h;obtain⟨I1,m1,G1,E1,d1,o1⟩:=Le G h1 r1;obtain⟨I2,m2,G2,E2,d2,o2⟩:=Ep G1 (h2.imp fun a u h=>Ie.mono E1 D a u h) r2;simp only[Ia.run,Bc,Br] at h;obtain⟨rfl,rfl⟩:=h;refine⟨I2,m2,G2,E1.trans E2,.cons (Ie.mono E2 _ _ _ d1) d2,fun u hu=>?_⟩;rcases sV.1 hu with rfl|hu
  ·exact o1
  ·exact o2 u hu
/-! ### handed over -/
def gH (P:Program)(I K:Nat->Prop)(w:World)(ct:TypeId)(a:AV)(u:Value)(bs:List Nat):Prop:=
 match a with
 | .vec sz rows=>(rows=[]/\u= .slice none 0 0/\bs=[])\/ ∃b cap us mk e,bs=[b]/\u= .slice (some ⟨b,0,none⟩) rows.length cap/\bF P ct=some e/\w.heap[b]?=some (.cells us e mk)/\
   D7 us mk/\us.size=cap*sz/\rows.length<=cap/\cap<=maxLen/\U3 I w sz rows (us.toList.take (rows.length*sz))/\ ¬I b/\ ¬K b
 |a=>bs=[]/\Iq I w a u
def bA (P:Program)(I K:Nat->Prop)(w:World):List TypeId->List AV->List Value->List Nat->Prop
 |_,[],us,bs=>us=[]/\bs=[]
 |[],_::_,_,_=>False
 |t::ts,a::as,us,bs=> ∃u us' b1 b2,us=u::us'/\bs=b1++b2/\gH P I K w t a u b1/\bA P I K w ts as us' b2
theorem gH.mono {I':Nat->Prop}(hi: ∀b,I b->I' b){bs:List Nat}(hn: ∀b∈bs,¬I b-> ¬I' b)(h:gH P I K w ct a u bs):gH P I' K w ct a u bs:=by
 cases a with
 |vec sz rows=>
  rcases h with h|⟨b,cap,us,mk,e,h1,h2,h3,h4,h5,h6,h7,h8,h9,lC,yR⟩
  ·exact .inl h
  ·exact .inr ⟨b,cap,us,mk,e,h1,h2,h3,h4,h5,h6,h7,h8,U3.mono hi (fun _ _=>rfl) _ _ _ h9,hn b (by rw[h1];simp) lC,yR⟩
 |_=>exact⟨h.1,Iq.mono hi (fun _ _=>rfl) _ _ h.2⟩
theorem Xb (G:Uj I K m hp w)(hr:Ie D I m hp w a u)(h:(dW P ct a).run hp=some (a',hp')):
  ∃I' bs,Uj I' K m hp' w/\aL I K m hp w I' m hp' w/\gH P I' K w ct a' u bs/\(∀b,I' b->I b\/Ao m hp b)/\(∀b∈bs,Ao m hp b/\ ¬Ao m hp' b)/\(∀b,Ao m hp' b->Ao m hp b)/\bs.Nodup:=by
 have same: ∀(a':AV) (u:Value),Iq I w a' u-> ∃I' bs,Uj I' K m hp w/\aL I K m hp w I' m hp w/\gH P I' K w ct a' u bs/\(∀b,I' b->I b\/Ao m hp b)/\(∀b∈bs,Ao m hp b/\ ¬Ao m hp b)/\(∀b,Ao m hp b->Ao m hp b)/\bs.Nodup:=
  fun a' u hd=>⟨I,[],G,.refl _ _ _ _ _,by cases a'<;>first|exact⟨rfl,hd⟩|simp[Iq] at hd,fun _ h=> .inl h,Zi,fun _ h=>h,Zi⟩
 cases a with
 |sc v=>
  simp only[Ie] at hr;subst hr;unfold dW at h
  split at h
  ·rename_i cE
   simp only[AV.sc.injEq] at cE;subst cE
   split at h
   ·simp only[Ia.run,Bc,Br] at h
    obtain⟨rfl,rfl⟩:=h;exact⟨I,[],G,.refl _ _ _ _ _,.inl ⟨rfl,rfl,rfl⟩,fun _ h=> .inl h,Zi,fun _ h=>h,Zi⟩
   ·simp[Ia.run] at h
  ·rename_i v' _ cE
   simp only[AV.sc.injEq] at cE;subst cE
   split at h
   ·rename_i hv
    simp only[Ia.run,Bc,Br] at h;obtain⟨rfl,rfl⟩:=h;exact same _ _ (by simp only[Iq];exact⟨trivial,hv⟩)
   ·simp[Ia.run] at h
  all_goals first|(simp[Ia.run] at h;done)|(rename_i cE;simp at cE;done)
 |sl f sz rows=>
  simp only[dW,Ia.run,Bc,Br] at h;obtain⟨rfl,rfl⟩:=h;simp only[Ie] at hr;exact same _ _ (Nx hr)
 |dp c o=>
  simp only[dW,Ia.run,Bc,Br] at h;obtain⟨rfl,rfl⟩:=h;simp only[Ie] at hr;exact same _ _ hr
 |own x g n=>
  simp only[dW,Ia.run] at h
  cases hx:hp x with
  |no g'=>rw[hx] at h;simp[Ia.run] at h
  |map _ _ _ _ _=>rw[hx] at h;simp[Ia.run] at h
  |box g' c f=>rw[hx] at h;simp[Ia.run] at h
  |arr g' sz e rows f=>
   rw[hx] at h;simp only at h
   split at h
   ·rename_i hg
    subst hg;obtain⟨hn,ho,hd⟩:=G.ownRows hx hr
    split at h
    ·rename_i hc
     obtain⟨rfl,rfl,yG⟩:=hc;simp only[Ia.run,Bc,Br] at h;obtain⟨rfl,rfl⟩:=h;obtain⟨G',E'⟩:=G.kill x (g:=g'+1) (by rw[hx];simp[It.gen]);have tR: ∀b,Ao m (Ur hp x (.no (g'+1))) b->Ao m hp b:=fun b ⟨z,p,hz,hm,hb⟩=>by
      by_cases mT:z=x
      ·subst mT;rw[Ad] at hz;simp[It.live] at hz
      ·rw[Aj _ _ mT] at hz;exact⟨z,p,hz,hm,hb⟩
     have qA:=G.obj x;rw[hx] at qA;simp only[Ie] at hr;obtain⟨_,_,hr⟩:=hr;obtain⟨_,hr⟩:=hr sz e rows false hx;rcases hr with⟨h0,rfl,h1⟩|⟨b,cap,hm,rfl⟩
     ·exact⟨I,[],G',E',.inl ⟨Kw h1,rfl,rfl⟩,fun _ h=> .inl h,Zi,tR,Zi⟩
     ·rcases qA with⟨h1,h2⟩|⟨b',cap',us,mk,h1,h2,h3,h4,h5,h6,h7,h8,h9⟩
      ·rw[h1] at hm;cases hm
      ·rw[h1] at hm;cases hm
       refine⟨I,[b],G',E',.inr ⟨b,cap,us,mk,e,rfl,rfl,yG,h2,h3,h4,h5,h6,h7,h9 rfl⟩,fun _ h=> .inl h,?_,tR,Zi⟩;intro b' zS;simp only[FH] at zS;subst zS;refine⟨⟨x,(b',cap),by rw[hx];rfl,h1,rfl⟩,fun⟨z,p,hz,hmz,sT⟩=>?_⟩;by_cases mT:z=x
       ·subst mT;rw[Ad] at hz;simp[It.live] at hz
       ·rw[Aj _ _ mT] at hz
        exact mT (G.inj z x p (b',cap) hz (by rw[hx];rfl) hmz h1 sT)
    ·simp only[Ia.run,Bc,Br] at h
     obtain⟨rfl,rfl⟩:=h;obtain⟨I',G',E',hb⟩:=G.freeze' hx;obtain⟨qN,Ul⟩:=hb;refine⟨I',[],G',E',⟨rfl,hd I' E'.isub qN⟩,Ul,Zi,?_,Zi⟩;intro b ⟨z,p,hz,hm,sT⟩;by_cases mT:z=x
     ·subst mT;exact⟨z,p,by rw[hx];rfl,hm,sT⟩
     ·rw[Aj _ _ mT] at hz;exact⟨z,p,hz,hm,sT⟩
   ·simp[Ia.run] at h
 |fn f caps=>
  simp only[dW] at h;simp only[Ie] at hr;obtain⟨us,rfl,hr⟩:=hr;obtain⟨cs,hp1,r1,h2⟩:=Aa h;simp only[Ia.run,Bc,Br] at h2;obtain⟨rfl,rfl⟩:=h2;obtain⟨I',G',E',R',i1,l1⟩:=Lz G ((Ae _ _).1 hr) r1;exact⟨I',[],G',E',⟨rfl,by simp only[Iq];exact⟨us,rfl,(Ax _ _).2 R'⟩⟩,i1,Zi,l1,Zi⟩
 |dmp ag ks rows=>
  simp only[dW,Ia.run,Bc,Br] at h;obtain⟨rfl,rfl⟩:=h;simp only[Ie] at hr;exact same _ _ hr
 |mp x g=>
  simp only[dW,Ia.run] at h
  cases hx:hp x with
  |no g'=>rw[hx] at h;simp[Ia.run] at h
  |box g' cells f=>rw[hx] at h;simp[Ia.run] at h
  |arr g' sz e rows f=>rw[hx] at h;simp[Ia.run] at h
  |map g' ag ks rows f=>
   rw[hx] at h;simp only at h
   split at h
   case isFalse=>simp[Ia.run] at h
   rename_i hg;subst hg;simp only[Ia.run,Bc,Br] at h;obtain⟨rfl,rfl⟩:=h;obtain⟨I',G',E',hb,Ul⟩:=G.freezeMap' hx;refine⟨I',[],G',E',⟨rfl,G.mapD hx hr E'.isub hb⟩,Ul,Zi,?_,Zi⟩;intro b ⟨z,p,hz,hm,sT⟩;by_cases mT:z=x
   ·subst mT;exact⟨z,p,by rw[hx];rfl,hm,sT⟩
   ·rw[Aj _ _ mT] at hz;exact⟨z,p,hz,hm,sT⟩
 |bsl x g sz off n=>
  simp only[dW] at h;obtain⟨I',G',E',R,i1,l1⟩:=Cma G hr h;exact⟨I',[],G',E',by cases a'<;>first|exact⟨rfl,R⟩|simp[Iq] at R,i1,Zi,l1,Zi⟩
 |any|ptr|eptr|agg|tup|vec=>simp[dW,Ia.run] at h
theorem Xa : ∀{cts:List TypeId} {as as':List AV} {us:List Value} {I:Nat->Prop} {hp hp':Hp},Uj I K m hp w->Ue (Ie D I m hp w) as us->(rZ P cts as).run hp=some (as',hp')->
  ∃I' bs,Uj I' K m hp' w/\aL I K m hp w I' m hp' w/\bA P I' K w cts as' us bs/\(∀b,I' b->I b\/Ao m hp b)/\(∀b∈bs,Ao m hp b/\ ¬Ao m hp' b)/\(∀b,Ao m hp' b->Ao m hp b)/\bs.Nodup
 |cts,[],as',us,I,hp,hp',G,hr,h=>by
  have:us=[]:=Kw (by rw[<-hr.1];rfl);subst this
  cases cts<;>simp only[rZ,Ia.run,Bc,Br] at h<;>obtain⟨rfl,rfl⟩:=h<;>exact⟨I,[],G,.refl _ _ _ _ _,by simp[bA],fun _ h=> .inl h,Zi,fun _ h=>h,Zi⟩
 |[],a::as,as',us,I,hp,hp',G,hr,h=>by simp[rZ,Ia.run] at h
 |ct::cts,a::as,as',us,I,hp,hp',G,hr,h=>by
  obtain⟨v,vs,rfl,h1,h2⟩:=hr.cons_inv;simp only[rZ] at h;obtain⟨a1,hp1,r1,h⟩:=Aa h;obtain⟨as1,If,r2,h⟩:=Aa h;obtain⟨I1,b1,G1,E1,d1,i1,l1,m1,n1⟩:=Xb G h1 r1;obtain⟨I2,b2,G2,E2,d2,i2,l2,m2,n2⟩:=Xa G1 (h2.imp fun a u h=>Ie.mono E1 D a u h) r2;simp only[Ia.run,Bc,Br] at h;obtain⟨rfl,rfl⟩:=h;refine⟨I2,b1++b2,G2,E1.trans E2,⟨v,vs,b1,b2,rfl,rfl,d1.mono E2.isub (fun b hb hn hi=>?_),d2⟩,fun b hb=>?_,fun b hb=>?_,fun b hb=>m1 b (m2 b hb),?_⟩
  ·rcases i2 b hi with hi|hi
   ·exact hn hi
   ·exact(l1 b hb).2 hi
  ·rcases i2 b hb with hb|hb
   ·exact i1 b hb
   ·exact .inr (m1 b hb)
  ·rcases nA.1 hb with hb|hb
   ·exact⟨(l1 b hb).1,fun hl=>(l1 b hb).2 (m2 b hl)⟩
   ·exact⟨m1 b (l2 b hb).1,(l2 b hb).2⟩
  ·rw[Ack]
   exact⟨n1,n2,fun b qN c hc hbc=>(l1 b qN).2 (by rw[hbc];exact(l2 c hc).1)⟩
end
end
section
open Go
theorem Bh (b o i:Nat):(⟨b,o,none⟩:Addr).add i=⟨b,o+i,none⟩:=by unfold Addr.add;split<;>simp_all
section
variable {P:Program}
theorem Cg (g o:Nat)(t:TypeId)(mk:Nat×Nat): ∀(vs:List Value) (i:Nat) (cur:Array Value) (w:World),w.heap[g]?=some (.cells cur t mk)->D7 cur mk->o+i+vs.length<=cur.size->(∀v∈vs,v.oneCell'=true)->
  (storeCells ⟨g,o,none⟩ vs i).run P w= .ok () (w.setRow g (cur.toList.take (o+i)++vs++cur.toList.drop (o+i+vs.length)).toArray)
 |[],i,cur,w,hg,_,_,_=>by
  simp only[storeCells,Acn,Adb,Ac5,List.take_append_drop,Array.toArray_toList];rw[setRow_self w g cur t mk hg];rfl
 |v::rest,i,cur,w,hg,hm,hl,h1=>by
  have hi:o+i<cur.size:=by simp at hl;omega
  have oK:w.cell? ⟨g,o+i,none⟩=some cur[o+i]:=by simp[World.cell?,hg,hi]
  have hfro:w.frozen? ⟨g,o+i,none⟩=false:=by
   simp only[World.frozen?,hg];exact hm (o+i) hi
  have dN:(store ((⟨g,o,none⟩:Addr).add i) v).run P w= .ok () (w.setRow g (cur.setIfInBounds (o+i) v)):=by
   rw[Bh,run_store P w _ v _ (h1 v Zi),oK];simp[hfro,setCell_eq_setRow w g (o+i) cur t mk v hg]
  have ih:=Cg g o t mk rest (i+1) (cur.setIfInBounds (o+i) v) (w.setRow g (cur.setIfInBounds (o+i) v)) (Adt w g cur _ t _ hg) (fun j hj=>hm j (by simpa using hj)) (by simp at hl⊢;omega) (fun x hx=>h1 x (by simp[hx]));simp only[storeCells,mG,dN,tH,ih,setRow_setRow];congr 3;have e:=list_seg_step cur.toList (o+i) v rest (by simp at hl⊢;omega);simpa[Array.toList_setIfInBounds,tJ] using e
structure EQ (P:Program)(w:World)(size n:Nat)(x:Value)(news:List Value):Prop where
 len: ∀w',(Builtin.lenOf x).run P w'= .ok n w'
 first: ∀w':World,w'.heap=w.heap->(Builtin.firstCells size n x).run P w'= .ok news.toArray w'
 length:news.length=n*size
def Zu (P:Program)(u:TypeId):Prop:=(∃e,P.underlying u=some (.slice e))\/P.underlying u=some .string
section
variable (w:World)(t u ty e:TypeId)(i:TypeInfo)(z:Value)(ht:P.underlying t=some (.slice e))(hu:Zu P u)(hi:P.info? e=some i)(hz:i.zero=some z)
include ht hu hi
theorem Mr (g sLen sCap:Nat)(cur:Array Value){T:TypeId}(mk:Nat×Nat)(hg:w.heap[g]?=some (.cells cur T mk))(hm:D7 cur mk)
  (x:Value) (m:Nat) (news:List Value) (hs:EQ P w i.size m x news) (h1: ∀v∈news,v.oneCell'=true)
  (lV:sLen+m<=sCap) (kY:sLen*i.size+news.length<=cur.size):
  (Builtin.append_ #[t,u] ty #[.slice (some ⟨g,0,none⟩) sLen sCap,x]).run P w=
   .ok (.slice (some ⟨g,0,none⟩) (sLen+m) sCap) (w.setRow g (cur.toList.take (sLen*i.size)++news++cur.toList.drop (sLen*i.size+news.length)).toArray):=by
 have dN:=Cg (P:=P) g (sLen*i.size) T mk news 0 cur w hg hm (by simpa using kY) h1;simp only[Ac5] at dN;have hf:=hs.first w rfl
 have hl:=hs.len w;rcases hu with⟨e',hu⟩|hu<;>simp[Builtin.append_,Qi ht,Qi hu,sizeOf,typeInfo,hi,hl,lV,hf,Bh,dN]
include hz
theorem Ff (b:Addr)(sLen sCap:Nat)(olds:List Value)(hlo:olds.length=sLen*i.size)(yI: ∀j v,olds[j]?=some v->w.cell? (b.add j)=some v)
  (x:Value) (n:Nat) (news:List Value) (hs:EQ P w i.size n x news)
  (hg:sCap<sLen+n) (h63:((sLen+n:Nat):Int)<=9223372036854775807) (kY:Builtin.nextslicecap (sLen+n) sCap*i.bytes<=281474976710656):
  (Builtin.append_ #[t,u] ty #[.slice (some b) sLen sCap,x]).run P w=
   .ok (.slice (some ⟨w.heap.size,0,none⟩) (sLen+n) (grownCap w (sLen+n) sCap e))
    (w.drew.alloc (.cells (olds.toArray++news.toArray++Builtin.zeroCells z.cells (grownCap w (sLen+n) sCap e - (sLen+n))) e)):=by
 have hn: ¬(sLen+n<=sCap):=Zo;have h63': ¬(9223372036854775807<((sLen:Int)+(n:Int))):=Zo;have h48': ¬(281474976710656<Builtin.nextslicecap (sLen+n) sCap*i.bytes):=Zo;have hf:=hs.first w.drew rfl
 have hl:=hs.len w;have hfo:=run_firstCells_some (P:=P) w.drew i.size sLen b sLen sCap olds hlo (by simpa using yI);rcases hu with⟨e',hu⟩|hu<;>simp[Builtin.append_,Qi ht,Qi hu,sizeOf,typeInfo,zeroValue,hi,hz,hl,hn,h63',h48',Question.forced,hf,hfo,newRow,grownCap]<;>(congr 2;apply sI;simp[tI])
theorem append_nil (x:Value)(n:Nat)(news:List Value)(hs:EQ P w i.size n x news)(h0:0<n)(h63:(n:Int)<=9223372036854775807)(h48:n*i.bytes<=281474976710656):
  (Builtin.append_ #[t,u] ty #[.slice none 0 0,x]).run P w=
   .ok (.slice (some ⟨w.heap.size,0,none⟩) n (grownCap w n 0 e)) (w.drew.alloc (.cells (news.toArray++Builtin.zeroCells z.cells (grownCap w n 0 e - n)) e)):=by
 have hn:n≠0:=Zo;have h63': ¬(9223372036854775807<(n:Int)):=Zo;have h48': ¬(281474976710656<Builtin.nextslicecap n 0*i.bytes):=by rw[nextslicecap_zero h0];omega
 have hf:=hs.first w.drew rfl
 have hl:=hs.len w;rcases hu with⟨e',hu⟩|hu<;>simp[Builtin.append_,Qi ht,Qi hu,sizeOf,typeInfo,zeroValue,hi,hz,hl,hn,h63',h48',Question.forced,run_firstCells_none,hf,newRow,grownCap]
omit hz in
theorem Yb (x:Value)(hs:EQ P w i.size 0 x []):(Builtin.append_ #[t,u] ty #[.slice none 0 0,x]).run P w= .ok (.slice none 0 0) w:=by
 have hf:=hs.first w rfl
 have hl:=hs.len w;rcases hu with⟨e',hu⟩|hu<;>simp[Builtin.append_,Qi ht,Qi hu,sizeOf,typeInfo,hi,hl,hf]
end
theorem Gw (w:World)(t:TypeId)(b o:Nat)(i:TypeInfo)(hi:P.info? t=some i):
  (Iu P t=true-> ∀us:List Value,us.length=i.size->gC w b o us->(loadVar t ⟨b,o,none⟩).run P w= .ok (.agg ⟨us⟩) w)/\
  (Iu P t=false->(P.underlying t).isSome-> ∀u,w.cell? ⟨b,o,none⟩=some u->(loadVar t ⟨b,o,none⟩).run P w= .ok u w):=by
 constructor
 ·intro ha us hl hc
  have lY:=run_loadCells_list (P:=P) w ⟨b,o,none⟩ us (fun j v hv=>by rw[Bh];exact hc j v hv);rw[hl] at lY;unfold Iu at ha
  cases hd:P.underlying t with
  |none=>simp[hd] at ha
  |some d=>cases d<;>simp[hd] at ha<;>simp[loadVar,isAgg,Qi hd,sizeOf,typeInfo,hi,lY]
 ·intro ha hs u hu
  unfold Iu at ha
  cases hd:P.underlying t with
  |none=>simp[hd] at hs
  |some d=>cases d<;>simp[hd] at ha<;>simp[loadVar,isAgg,Qi hd,load,Sem.run,hu]
theorem Gs (w:World)(t:TypeId)(b o:Nat)(i:TypeInfo)(hi:P.info? t=some i)(v:Value)(cur:Array Value)(T:TypeId)(mk:Nat×Nat)
  (hg:w.heap[b]?=some (.cells cur T mk)) (hm:D7 cur mk) (aZ:v.cells.size=i.size) (hl:o+v.cells.size<=cur.size) (h1: ∀u∈v.cells.toList,u.oneCell'=true):
  (storeVar t ⟨b,o,none⟩ v).run P w= .ok () (w.setRow b (cur.toList.take o++v.cells.toList++cur.toList.drop (o+v.cells.size)).toArray):=by
 have dN:=Cg (P:=P) b o T mk v.cells.toList 0 cur w hg hm (by simpa using hl) h1;simp only[Ac5] at dN;simp[storeVar,sizeOf,typeInfo,hi,aZ,dN]
end
section
variable {I K:Nat->Prop}{m:Mp}{hp hp':Hp}{w:World}{k:Nat}
mutual
theorem Ie.depth {D D':Nat} (hd:D<=D'): ∀(a:AV) (u:Value),Ie D I m hp w a u->Ie D' I m hp w a u
 | .any,_,_=>by simp[Ie]
 | .sc v,u,h=>by simpa[Ie] using h
 | .sl full sz rows,u,h=>by simpa only[Ie] using h
 | .dp cells off,u,h=>by simpa only[Ie] using h
 | .own ..,_,h=>by simp only[Ie] at h⊢;exact⟨Ve h.1 hd,h.2⟩
 | .ptr ..,_,h=>by simp only[Ie] at h⊢;exact⟨Ve h.1 hd,h.2⟩
 | .eptr ..,_,h=>by simp only[Ie] at h⊢;exact⟨Ve h.1 hd,h.2⟩
 | .bsl ..,_,h=>by simp only[Ie] at h⊢;exact⟨Ve h.1 hd,h.2⟩
 | .mp ..,_,h=>by simp only[Ie] at h⊢;exact⟨Ve h.1 hd,h.2⟩
 | .dmp ..,u,h=>by simpa only[Ie] using h
 | .agg cs,u,h=>by
  simp only[Ie] at h⊢;obtain⟨us,hu,h⟩:=h;exact⟨us,hu,bM.depth hd cs us h⟩
 | .tup cs,u,h=>by
  simp only[Ie] at h⊢;obtain⟨us,hu,h⟩:=h;exact⟨us,hu,bM.depth hd cs us h⟩
 | .fn f cs,u,h=>by
  simp only[Ie] at h⊢;obtain⟨us,hu,h⟩:=h;exact⟨us,hu,bM.depth hd cs us h⟩
 | .vec ..,_,h=>by simp[Ie] at h
theorem bM.depth {D D':Nat} (hd:D<=D'): ∀(as:List AV) (us:List Value),bM D I m hp w as us->bM D' I m hp w as us
 |[],us,h=>by simpa[bM] using h
 |a::as,us,h=>by
  simp only[bM] at h⊢;obtain⟨v,vs,hu,h1,h2⟩:=h;exact⟨v,vs,hu,Ie.depth hd a v h1,bM.depth hd as vs h2⟩
end
theorem Ec (G:Uj I K m hp w){n:Nat}(hn:0<n){a:AV}{u:Value}{cs:List AV}(hr:Ie k I m hp w a u)(h:(fK n a).run hp=some (cs,hp')):
  hp'=hp/\cs.length=n/\ ∃b o us,u= .pointer (some ⟨b,o,none⟩)/\gC w b o us/\Ue (Ie k I m hp w) cs us:=by
 cases a with
 |ptr x g off=>
  simp only[fK,Ia.run] at h
  cases hx:hp x with
  |no g'=>rw[hx] at h;simp[Ia.run,It.head] at h
  |map _ _ _ _ _=>rw[hx] at h;simp[Ia.run,It.head] at h
  |arr g' sz e rows f=>rw[hx] at h;simp[Ia.run,It.head] at h
  |box g' cells f=>
   rw[hx] at h;simp only[It.head] at h
   split at h
   ·rename_i hg
    obtain⟨rfl,aI⟩:=hg;rw[Qo hx n off aI] at h;simp only[Bc,Br] at h;obtain⟨rfl,rfl⟩:=h;refine⟨rfl,by rw[sL,AT];omega,?_⟩;simp only[Ie] at hr;obtain⟨hd,_,hr⟩:=hr;obtain⟨b,c,hm,rfl⟩:=hr cells f hx;have ho:=G.obj x;rw[hx] at ho;obtain⟨b',c',us,T,mk,h1,h2,h3,h4,h5,h6⟩:=ho;rw[h1] at hm;cases hm;refine⟨b,off,((us.toList.take cells.length).drop off).take n,rfl,fun j v hv=>?_,((((Ae _ _).1 h4).drop off).take n).imp fun a u h=>h.depth hd⟩;have hv:=At hv;rw[zD] at hv;rw[AQ w b (off+j) us T mk h2];simpa using At hv
   ·simp[Ia.run] at h
 |eptr x g i off=>
  simp only[fK,Ia.run] at h
  cases hx:hp x with
  |no g'=>rw[hx] at h;simp[Ia.run] at h
  |map _ _ _ _ _=>rw[hx] at h;simp[Ia.run] at h
  |box g' c f=>rw[hx] at h;simp[Ia.run] at h
  |arr g' sz e rows f=>
   rw[hx] at h;simp only at h
   split at h
   ·rename_i hg
    subst hg
    split at h
    ·rename_i r yH
     split at h
     ·rename_i aI
      simp only[Ia.run,Bc,Br] at h;obtain⟨rfl,rfl⟩:=h;refine⟨rfl,by rw[sL,AT];omega,?_⟩;simp only[Ie] at hr;obtain⟨hd,_,hr⟩:=hr;obtain⟨b,c,hm,rfl⟩:=hr sz e rows f hx;have ho:=G.obj x;rw[hx] at ho;have zP:i<rows.length:=(Oh.1 yH).1;rcases ho with⟨h1,h2⟩|⟨b',cap,us,mk,h1,h2,h3,h4,h5,h6,h7,h8,h9⟩
      ·rw[h1] at hm;cases hm
      ·rw[h1] at hm;cases hm
       obtain⟨he,ha⟩:=(Ai _ _).1 h7;have iP:=he.row yH;have yP:=((ha.drop (i*sz)).take sz);rw[iP] at yP;refine⟨b,i*sz+off,_,rfl,?_,((yP.drop off).take n).imp fun a u h=>Iq.rep h⟩;intro j v hv;rw[xZ] at hv
       split at hv
       ·rw[zD,xZ] at hv
        split at hv
        ·rw[zD,xZ] at hv
         split at hv
         ·rw[AQ w b _ us e mk h2]
          rw[<-tJ] at hv;simpa using hv
         ·cases hv
        ·cases hv
       ·cases hv
     ·simp[Ia.run] at h
    ·simp[Ia.run] at h
   ·simp[Ia.run] at h
 |dp cells off=>
  simp only[fK] at h
  split at h
  ·simp only[Ia.run,Bc,Br] at h
   obtain⟨rfl,rfl⟩:=h;refine⟨rfl,by rw[sL,AT];omega,?_⟩;simp only[Ie,Iq] at hr;obtain⟨b,o,us,rfl,hb,hc,hl⟩:=hr;refine⟨b,o+off,(us.drop off).take n,rfl,fun j v hv=>?_,((((Ax _ _).1 hl).drop off).take n).imp fun a u h=>Iq.rep h⟩;rw[xZ] at hv
   split at hv
   ·rw[zD] at hv
    have:=hc _ v hv;rwa [<-tJ] at this
   ·cases hv
  ·simp[Ia.run] at h
 |any|sc|sl|own|agg|tup|vec|fn|bsl|mp|dmp=>simp[fK,Ia.run] at h
theorem To (P:Program)(G:Uj I K m hp w){t:TypeId}{a v:AV}{u:Value}(hr:Ie k I m hp w a u)(h:(pM P t a).run hp=some (v,hp')):
  hp'=hp/\ ∃u',(Instr.loadAt t u).run P w= .ok u' w/\Ie k I m hp w v u':=by
 unfold pM at h;have fA:(P.underlying t).isSome=true-> ∃i,P.info? t=some i:=fun ht=>by
  cases hq:P.info? t with
  |none=>simp[Program.underlying,hq] at ht
  |some i=>exact⟨i,rfl⟩
 split at h
 ·rename_i iH
  split at h
  ·rename_i gX
   obtain⟨cs,hp1,r1,h2⟩:=Aa h;clear h;obtain⟨e1,Ij,b,o,us,rfl,h1,h3⟩:=Ec G gX hr r1;simp only[Ia.run,Bc,Br] at h2;obtain⟨rfl,rfl⟩:=h2;obtain⟨i,hi⟩:=fA (by unfold Iu at iH;cases hd:P.underlying t<;>simp[hd] at iH⊢);have aZ:P.cellsOf t=i.size:=by simp[Program.cellsOf,hi]
   refine⟨e1,.agg ⟨us⟩,?_,?_⟩
   ·simp only[Instr.loadAt,Instr.sureAddr,mG,Adi,tH]
    exact(Gw (P:=P) w t b o i hi).1 iH us (by rw[<-h3.1,Ij,aZ]) h1
   ·simp only[Ie]
    exact⟨_,rfl,(Ae _ _).2 h3⟩
  ·simp[Ia.run] at h
 ·rename_i iH
  split at h
  ·rename_i ht
   obtain⟨i,hi⟩:=fA ht;obtain⟨cs,hp1,r1,h2⟩:=Aa h;clear h;obtain⟨e1,Ij,b,o,us,rfl,h1,h3⟩:=Ec G Zo hr r1
   split at h2
   ·rename_i v'
    simp only[Ia.run,Bc,Br] at h2;obtain⟨rfl,rfl⟩:=h2;obtain⟨u',us',rfl,h4,_⟩:=h3.cons_inv;refine⟨e1,u',?_,h4⟩;simp only[Instr.loadAt,Instr.sureAddr,mG,Adi,tH];exact(Gw (P:=P) w t b o i hi).2 (by simpa using iH) ht u' (by simpa using h1 0 u' rfl)
   ·simp[Ia.run] at h2
  ·simp[Ia.run] at h
end
end
section
open Go
variable {v:AV}{us:List Value}{t:TypeId}{w1:World}
section
variable {P:Program}{I K:Nat->Prop}{m:Mp}{hp hp':Hp}{w:World}{k:Nat}
theorem Uj.fresh (G:Uj I K m hp w): ¬I w.heap.size/\ ¬K w.heap.size:=⟨fun h=>yY _ (G.ilt _ h),fun h=>yY _ (G.klt _ h)⟩
theorem W7 (w:World)(o:Obj):(w.alloc o).heap[w.heap.size]?=some o:=by
 show(w.heap.push o)[w.heap.size]?=some o;simp
theorem W6 (w:World)(o:Obj){b:Nat}(h:b<w.heap.size):(w.alloc o).heap[b]?=w.heap[b]?:=by
 show(w.heap.push o)[b]?=w.heap[b]?;rw[Array.getElem?_push,Jx (Nat.ne_of_lt h)]
theorem Uj.alloc (G:Uj I K m hp w){x:Nm}{o:It}(ob:Obj)(c:Nat)(hg:(hp x).gen<o.gen)
  (qA: ∀w' m',w'.heap[w.heap.size]?=some ob->m' x=some (w.heap.size,c)->aL I K m hp w I m' (Ur hp x o) w'->oU I K m' (Ur hp x o) w' x o)
 (h1:w1=w.alloc ob\/w1=w.drew.alloc ob):
  Uj I K (Ur m x (some (w.heap.size,c))) (Ur hp x o) w1/\aL I K m hp w I (Ur m x (some (w.heap.size,c))) (Ur hp x o) w1:=by
 have hW:WX I K w w1:=by
  rcases h1 with rfl|rfl
  ·exact .alloc ob G.ilt G.klt
  ·have h:=WX.alloc (w:=w.drew) ob G.ilt G.klt
   exact⟨h.keep,h.size,h.os,h.tape,h.output⟩
 have xD:w1.heap[w.heap.size]?=some ob:=by
  rcases h1 with rfl|rfl
  ·exact W7 w ob
  ·exact W7 w.drew ob
 have tA: ∀b,b<w.heap.size->w1.heap[b]?=w.heap[b]?:=fun b hb=>by
  rcases h1 with rfl|rfl
  ·exact W6 w ob hb
  ·exact W6 w.drew ob hb
 have E:aL I K m hp w I (Ur m x (some (w.heap.size,c))) (Ur hp x o) w1:= .bump hW (fun _ h=>h) hg;refine⟨G.bump hW (fun _ h=>h) hg (qA w1 _ xD (Ad _ _ _) E) (fun y _ hl q hq=>tA _ (G.blk hl hq)) (fun _ _ _ _ _ _ h=>h) ?_ (fun b hb=>AY (G.ilt b hb) hW.size) G.ik,E⟩;intro _ r hr y _ hl q hq e
 cases hr
 exact yY _ (e▸G.blk hl hq)
theorem kT (us:Array Value):D7 us (0,0):=fun j _=>Zi
theorem Q0 {D:Nat}(G:Uj I K m hp w){i:Nat}{cells:List AV}(hr:Ue (Ie D I m hp w) cells us)(h:(rJ P k i t cells).run hp=some (v,hp')):
  ∃I' m',Uj I' K m' hp' (w.alloc (.cells ⟨us⟩ t))/\aL I K m hp w I' m' hp' (w.alloc (.cells ⟨us⟩ t))/\Ie k I' m' hp' (w.alloc (.cells ⟨us⟩ t)) v (.pointer (some ⟨w.heap.size,0,none⟩)):=by
 unfold rJ at h
 split at h
 ·obtain⟨cs,hp1,r1,h2⟩:=Aa h
  clear h;obtain⟨I1,m1,G1,E1,d1,_⟩:=Ep G hr r1;simp only[Ia.run,Bc,Br] at h2;obtain⟨rfl,rfl⟩:=h2;obtain⟨G2,E2⟩:=G1.alloc (x:=⟨k,i,0⟩) (o:= .box ((hp1 ⟨k,i,0⟩).gen+1) cs false) (.cells ⟨us⟩ t) us.length (by simp[It.gen])
   (fun w' m' hb hm E=>⟨w.heap.size,us.length,⟨us⟩,t,(0,0),hm,hb,⟨kT _,Zi⟩,by rw[show(⟨us⟩:Array Value).toList.take cs.length=us from Nq d1];exact(Ae _ _).2 (d1.imp fun a u h=>Ie.mono E _ a u h),fun h=>(by cases h),fun _=>G1.fresh⟩) (.inl rfl)
  refine⟨I1,_,G2,E1.trans E2,?_⟩;simp only[Ie];refine⟨D5 _,by rw[Ad];exact D5 _,fun cells fz hx=>⟨w.heap.size,us.length,Ad _ _ _,rfl⟩⟩
 ·simp[Ia.run] at h
theorem Ln (G:Uj I K m hp w){y:Nm}(hy:y.d<=k){sz:Nat}{e:TypeId}{rows:List (List AV)}{cap:Nat}{mk:Nat×Nat}
  (hm:D7 ⟨us⟩ mk) (aZ:us.length=cap*sz) (hl:rows.length<=cap) (hc:cap<=maxLen) (hr:U3 I w sz rows (us.take (rows.length*sz)))
  (h:(iF y sz e rows).run hp=some (v,hp')) (h1:w1=w.alloc (.cells ⟨us⟩ e mk)\/w1=w.drew.alloc (.cells ⟨us⟩ e mk)):
  ∃m',Uj I K m' hp' w1/\aL I K m hp w I m' hp' w1/\Ie k I m' hp' w1 v (.slice (some ⟨w.heap.size,0,none⟩) rows.length cap):=by
 simp only[iF,Ia.run,Bc,Br] at h;obtain⟨rfl,rfl⟩:=h;obtain⟨G2,E2⟩:=G.alloc (x:=y) (o:= .arr ((hp y).gen+1) sz e rows false) (.cells ⟨us⟩ e mk) cap (by simp[It.gen])
  (fun w' m' hb AJ E=> .inr ⟨w.heap.size,cap,⟨us⟩,mk,AJ,hb,hm,by simpa using aZ,hl,hc,U3.mono E.isub (fun b hb=>E.keep b (.inl hb)) _ _ _ hr,fun h=>(by cases h),fun _=>G.fresh⟩) h1
 refine⟨_,G2,E2,?_⟩;simp only[Ie];refine⟨hy,by rw[Ad];exact D5 _,fun sz' e' rows' fz hx=>?_⟩;rw[Ad] at hx
 cases hx
 exact⟨D5 _,.inr ⟨_,_,Ad _ _ _,rfl⟩⟩
theorem WX.setRow {g:Nat}{us:Array Value}(hi: ¬I g)(hk: ¬K g):WX I K w (w.setRow g us) where
 keep:=fun b hb=>Adj w g b us (fun e=>by subst e;exact hb.elim hi hk)
 size:=by simp[World.setRow]
 os:=rfl
 tape:=rfl
 output:=rfl
theorem seg_eq (L vs:List Value)(a off sz N:Nat)(h1:off+vs.length<=sz)(h2:a+sz<=N)(h3:N<=L.length):
  List.take N (L.take (a+off)++vs++L.drop (a+off+vs.length))=
   List.take a (L.take N)++(List.take off (List.take sz (List.drop a (L.take N)))++vs++List.drop (off+vs.length) (List.take sz (List.drop a (L.take N))))++List.drop (a+sz) (L.take N):=by
 apply Acy;intro j;simp only[Acz,xZ,zD,sL,AT,X3];by_cases c1:j<a
 ·simp only[c1,show j<N by omega,show j<min (a+off) L.length by omega,show j<min (a+off) L.length+vs.length by omega,show j<a+off by omega,show j<min a (min N L.length) by omega,
   show j<min a (min N L.length)+(min off (min sz (min N L.length - a))+vs.length+(min sz (min N L.length - a) - (off+vs.length))) by omega,iW]
 ·have e1:min a (min N L.length)=a:=Zo
  have e2:min sz (min N L.length - a)=sz:=Zo;have e3:min off sz=off:=Zo;have e4:min (a+off) L.length=a+off:=Zo;simp only[e1,e2,e3,e4,c1,lJ];by_cases c2:j<a+off
  ·simp only[c2,show j<N by omega,show j<a+off+vs.length by omega,show j<a+(off+vs.length+(sz - (off+vs.length))) by omega,show j - a<off+vs.length by omega,show j - a<off by omega,show j - a<sz by omega,show a+(j - a)<N by omega,iW]
   congr 1;omega
  ·by_cases c3:j<a+off+vs.length
   ·simp only[c2,c3,show j<N by omega,show j<a+(off+vs.length+(sz - (off+vs.length))) by omega,show j - a<off+vs.length by omega,show¬(j - a<off) by omega,iW,lJ]
    congr 1;omega
   ·by_cases c4:j<a+sz
    ·simp only[c2,c3,show j<N by omega,show j<a+(off+vs.length+(sz - (off+vs.length))) by omega,show¬(j - a<off+vs.length) by omega,show off+vs.length+(j - a - (off+vs.length))<sz by omega,show a+(off+vs.length+(j - a - (off+vs.length)))<N by omega,iW,lJ]
     congr 1;omega
    ·by_cases c5:j<N
     ·simp only[c2,c3,c5,show¬(j<a+(off+vs.length+(sz - (off+vs.length)))) by omega,show a+sz+(j - (a+(off+vs.length+(sz - (off+vs.length)))))<N by omega,iW,lJ]
      congr 1;omega
     ·simp only[c5,show¬(j<a+(off+vs.length+(sz - (off+vs.length)))) by omega,show¬(a+sz+(j - (a+(off+vs.length+(sz - (off+vs.length)))))<N) by omega,lJ]
theorem F2a (G:Uj I K m hp w){a x:AV}{ua uv:Value}(hra:Ie k I m hp w a ua)(mK:Ue (Ie k I m hp w) (cK v) uv.cells.toList)
  (h:(uA P t a v).run hp=some (x,hp')) (fA:(P.info? t).isSome):
  x= .any/\ ∃w' I' m',(Instr.storeAt t ua uv).run P w= .ok () w'/\Uj I' K m' hp' w'/\aL I K m hp w I' m' hp' w':=by
 obtain⟨i,hi⟩:=X2.1 fA;have cB:P.cellsOf t=i.size:=by simp[Program.cellsOf,hi]
 unfold uA at h;simp only at h
 split at h
 ·rename_i Ij
  split at h
  ·rename_i x g off
   obtain⟨vs',hp1,r1,h2⟩:=Aa h;clear h;obtain⟨I1,m1,G1,E1,d1,o1⟩:=Ep G mK r1;have uF:=Ie.mono E1 _ _ _ hra;simp only[Ia.run] at h2
   cases hx:hp1 x with
   |no g'=>rw[hx] at h2;simp[Ia.run,It.head] at h2
   |map _ _ _ _ _=>rw[hx] at h2;simp[Ia.run,It.head] at h2
   |arr g' sz e rows f=>rw[hx] at h2;simp[Ia.run,It.head] at h2
   |box g' cells f=>
    rw[hx] at h2;simp only[It.head] at h2
    split at h2
    ·rename_i hc
     obtain⟨rfl,rfl,aI⟩:=hc;obtain⟨If,p1,p2⟩:=Lf vs' off cells hp1 hx aI;rw[p1] at h2;simp only[Bc,Br] at h2;obtain⟨rfl,rfl⟩:=h2;subst p2;refine⟨rfl,?_⟩;simp only[Ie] at uF;obtain⟨hd,_,uF⟩:=uF;obtain⟨b,c,qM,rfl⟩:=uF cells false hx;have ho:=G1.obj x;rw[hx] at ho;obtain⟨b',c',us,T,mk,h1,h2,h3,h4,h5,h6⟩:=ho;rw[h1] at qM;cases qM;have h4':=(Ae _ _).1 h4;have dN:=Gs (P:=P) w t b off i hi uv us T mk h2 h3.1 (by have:=mK.1;simp at this;omega) (by have:=h4'.1;have:=d1.1;simp at this;simp at*;omega) o1;refine⟨_,I1,m1,by simp only[Instr.storeAt,Instr.sureAddr,mG,Adi,tH];exact dN,?_⟩;have hk:Cq (hp1 x) (.box g' (splice cells off vs') false):=by rw[hx];exact⟨_,_,rfl⟩
     obtain⟨iQ,iC⟩:=h6 rfl;have E2:aL I1 K m1 hp1 w I1 m1 (Ur hp1 x (.box g' (splice cells off vs') false)) (w.setRow b (us.toList.take off++uv.cells.toList++us.toList.drop (off+uv.cells.size)).toArray):= .same (.setRow iQ iC) (fun _ h=>h) hk;refine⟨G1.same (.setRow iQ iC) (fun _ h=>h) hk ?_ (fun y hy hl q hq=>Adj w b q.1 _ (fun e=>hy (G1.inj y x q (b,c) hl (by rw[hx];rfl) hq h1 e))) (fun _ _ _ _ _ _ h=>h) (fun b hb=>by have:=G1.ilt b hb;simpa[World.setRow] using this) G1.ik,E1.trans E2⟩;refine⟨b,c,_,T,mk,h1,Adt w b us _ T mk h2,⟨fun j hj=>h3.1 j ?_,by
      have hz:=h3.2;have q1:=h4'.1;have q2:=d1.1;simp at q1 q2⊢;omega⟩,?_,fun h=>(by cases h),fun _=>⟨iQ,iC⟩⟩
     ·have hl:=d1.1
      have:=h4'.1;simp at hj hl this⊢;omega
     ·rw[Ae]
      have dM:=(h4'.imp fun a u h=>Ie.mono E2 _ a u h).splice ((d1.imp fun a u h=>Ie.depth (D5 _) a u (Ie.mono E2 _ a u h))) off aI;have q1:=h4'.1;have q2:=d1.1;have q3:=mK.1;have q4:=dM.1;have pP:(splice cells off vs').length=cells.length:=by simp at q1 q2 q4;omega
      have hn:cells.length<=us.toList.length:=by simp at q1⊢;omega
      have ev:off+uv.cells.toList.length<=cells.length:=by simp at q2⊢;omega
      have e:=Mb (us:=us.toList) (v:=uv.cells.toList) ev hn;rw[pP];simp only[wN] at e;rw[show(us.toList.take off++uv.cells.toList++us.toList.drop (off+uv.cells.size)).toArray.toList=us.toList.take off++uv.cells.toList++us.toList.drop (off+uv.cells.size) from rfl,e];simpa using dM
    ·simp[Ia.run] at h2
  ·rename_i x g i' off
   obtain⟨vs',hp1,r1,h2⟩:=Aa h;clear h;obtain⟨I1,G1,E1,d1⟩:=Eo G mK r1;have uF:=Ie.mono E1 _ _ _ hra;simp only[Ia.run] at h2
   cases hx:hp1 x with
   |no g'=>rw[hx] at h2;simp[Ia.run] at h2
   |map _ _ _ _ _=>rw[hx] at h2;simp[Ia.run] at h2
   |box g' c f=>rw[hx] at h2;simp[Ia.run] at h2
   |arr g' sz e rows f=>
    rw[hx] at h2;simp only at h2
    split at h2
    ·rename_i hc
     obtain⟨rfl,rfl⟩:=hc
     split at h2
     ·rename_i r yH
      split at h2
      ·rename_i aI
       simp only[Ia.run,Bc,Br] at h2;obtain⟨rfl,rfl⟩:=h2;refine⟨rfl,?_⟩;simp only[Ie] at uF;obtain⟨hd,_,uF⟩:=uF;obtain⟨b,c,qM,rfl⟩:=uF sz e rows false hx;have ho:=G1.obj x;rw[hx] at ho;have zP:i'<rows.length:=(Oh.1 yH).1;rcases ho with⟨h1,_⟩|⟨b',cap,us,mk,h1,h2,h3,h4,h5,h6,h7,h8,h9⟩
       ·rw[h1] at qM;cases qM
       ·rw[h1] at qM;cases qM
        obtain⟨he,ha⟩:=(Ai _ _).1 h7;have hrl:r.length=sz:=he r (sM yH);have hvl:vs'.length=uv.cells.size:=by have:=d1.1;simpa using this
        have hbd:i'*sz+sz<=rows.length*sz:=by
         have:=xY sz (show i'+1<=rows.length from zP);rw[tZ,Nat.one_mul] at this;exact this
        have hcapb:rows.length*sz<=us.size:=by rw[h4];exact xY _ h5
        have dN:=Gs (P:=P) w t b (i'*sz+off) i hi uv us e mk h2 h3 (by have:=mK.1;simp at this;omega) Zo d1.one;refine⟨_,I1,m,by simp only[Instr.storeAt,Instr.sureAddr,mG,Adi,tH];exact dN,?_⟩;have hk:Cq (hp1 x) (.arr g' sz e (rows.set i' (splice r off vs')) false):=by rw[hx];exact⟨_,_,rfl,Zi⟩
        obtain⟨iQ,iC⟩:=h9 rfl;have E2:aL I1 K m hp1 w I1 m (Ur hp1 x (.arr g' sz e (rows.set i' (splice r off vs')) false)) (w.setRow b (us.toList.take (i'*sz+off)++uv.cells.toList++us.toList.drop (i'*sz+off+uv.cells.size)).toArray):= .same (.setRow iQ iC) (fun _ h=>h) hk;refine⟨G1.same (.setRow iQ iC) (fun _ h=>h) hk ?_ (fun y hy hl q hq=>Adj w b q.1 _ (fun e=>hy (G1.inj y x q (b,c) hl (by rw[hx];rfl) hq h1 e))) (fun _ _ _ _ _ _ h=>h) (fun b hb=>by have:=G1.ilt b hb;simpa[World.setRow] using this) G1.ik,E1.trans E2⟩;refine .inr ⟨b,c,_,mk,h1,Adt w b us _ e mk h2,fun j hj=>h3 j ?_,?_,by simpa using h5,h6,?_,fun h=>(by cases h),fun _=>⟨iQ,iC⟩⟩
        ·simp at hj⊢;omega
        ·simp;omega
        ·refine U3.mono E2.isub (fun b hb=>E2.keep b (.inl hb)) _ _ _ ((Ai _ _).2 ⟨he.set ?_,?_⟩)
         ·unfold splice;split
          ·omega
          ·simp;omega
         ·rw[Mm he zP]
          have a1:=ha.take (i'*sz);have a2:=ha.drop (i'*sz+sz);have a3:=((ha.drop (i'*sz)).take sz);rw[he.row yH] at a3;have a4:=a3.splice d1 off aI;have a5:=(a1.append a4).append a2;have e1:=seg_eq us.toList uv.cells.toList (i'*sz) off sz (rows.length*sz) (by rw[<-hrl];have:=hvl;simp at this⊢;omega) hbd (by simpa using hcapb);rw[List.length_set];simp only[wN] at e1 a5⊢;rw[e1];exact a5
      ·simp[Ia.run] at h2
     ·simp[Ia.run] at h2
    ·simp[Ia.run] at h2
  ·simp[Ia.run] at h
 ·simp[Ia.run] at h
end
end
section
open Go
variable {x s v:AV}{rows:List (List AV)}{news:List Value}{b n c sz cap:Nat}{t t' ty:TypeId}{i:TypeInfo}{us ux:Value}
section
variable {P:Program}{I K:Nat->Prop}{m:Mp}{hp hp':Hp}{w:World}{k:Nat}
theorem H0 {o size:Nat}{us:List Value}(hc:gC w b o us)(hl:us.length=n*size):EQ P w size n (.slice (some ⟨b,o,none⟩) n c) us where
 len:=fun w'=>rfl
 first:=fun w' hw=>by
  refine run_firstCells_some w' size n _ n c us hl fun j v hv=>?_
  rw[Bh];have:=hc j v hv;simpa[World.cell?,hw] using this
 length:=hl
theorem Fo {size:Nat}{A:Option Addr}:EQ P w size 0 (.slice A 0 c) [] where
 len:=fun w'=>rfl
 first:=fun w' _=>by
  cases A with
  |none=>simp[Builtin.firstCells]
  |some a=>simp[Builtin.firstCells,loadCells,loadCellsFrom]
 length:=Zi
theorem Ea (G:Uj I K m hp w){u:Value}(hr:Ie k I m hp w x u)(h:(gV x).run hp=some ((sz,rows),hp')):
  hp'=hp/\ ∀size,(sz=size\/rows=[])-> ∃news,EQ P w size rows.length u news/\Ue (Iq I w) rows.flatten news/\eX size rows:=by
 cases x with
 |sl f sz' rows'=>
  simp only[gV,Ia.run,Bc,Br] at h;obtain⟨⟨rfl,rfl⟩,rfl⟩:=h;refine⟨rfl,fun size aZ=>?_⟩;simp only[Ie,Iq] at hr;obtain⟨A,cap,rfl,h1,h2,_,h4⟩:=hr;rcases h4 with rfl|⟨b,o,us,rfl,hb,hc,hrr⟩
  ·exact⟨[],Fo,by simpa using Ue.nil,fun r hr=>by simp at hr⟩
  ·obtain⟨he,ha⟩:=(Ai _ _).1 hrr
   rcases aZ with rfl|rfl
   ·exact⟨us,H0 hc (by rw[<-ha.1,he.length]),ha,he⟩
   ·exact⟨[],Fo,by simpa using Ue.nil,fun r hr=>by simp at hr⟩
 |own y g n=>
  simp only[gV,Ia.run] at h
  cases hx:hp y with
  |no g'=>rw[hx] at h;simp[Ia.run] at h
  |map _ _ _ _ _=>rw[hx] at h;simp[Ia.run] at h
  |box g' c f=>rw[hx] at h;simp[Ia.run] at h
  |arr g' sz' e rows' f=>
   rw[hx] at h;simp only at h
   split at h
   ·rename_i hc
    obtain⟨rfl,hn⟩:=hc;simp only[Ia.run,Bc,Br] at h;obtain⟨⟨rfl,rfl⟩,rfl⟩:=h;refine⟨rfl,fun size aZ=>?_⟩;simp only[Ie] at hr;obtain⟨_,_,hr⟩:=hr;obtain⟨_,hr⟩:=hr sz' e rows' f hx;rcases hr with⟨h0,rfl,rfl⟩|⟨b,cap,hm,rfl⟩
    ·exact⟨[],by simpa using Fo,by simpa using Ue.nil,fun r hr=>by simp at hr⟩
    ·by_cases hz:rows'.take n=[]
     ·have FU:n=0:=by
       have:=congrArg List.length hz;rw[sL,Adb] at this;omega
      subst FU;exact⟨[],by simpa using Fo,by simpa using Ue.nil,fun r hr=>by simp at hr⟩
     ·have hsz':sz'=size:=aZ.resolve_right hz
      subst hsz';have ho:=G.obj y;rw[hx] at ho;rcases ho with⟨h1,_⟩|⟨b',cap',us,mk,h1,h2,h3,h4,h5,h6,h7,h8,h9⟩
      ·rw[h1] at hm;cases hm
      ·rw[h1] at hm;cases hm
       obtain⟨he,ha⟩:=(Ai _ _).1 h7;have yP:=ha.take (n*sz');rw[Acq,AD (xY _ hn),<-he.flatten_take] at yP;have Ij:(rows'.take n).length=n:=by rw[sL];omega
       refine⟨us.toList.take (n*sz'),?_,yP,he.take n⟩;rw[Ij];refine H0 (fun j v hv=>?_) (by rw[<-yP.1,(he.take n).length,Ij]);rw[xZ] at hv
       split at hv
       ·rw[mH,AQ w b j us e mk h2]
        simpa using hv
       ·cases hv
   ·simp[Ia.run] at h
 |sc v=>
  simp only[Ie] at hr;subst hr;unfold gV at h
  split at h
  all_goals first|(simp[Ia.run] at h;done)|skip
  ·rename_i cE;simp at cE
  ·rename_i cE;simp at cE
  ·rename_i cE
   simp only[AV.sc.injEq] at cE;subst cE;simp only[Ia.run,Bc,Br] at h;obtain⟨⟨rfl,rfl⟩,rfl⟩:=h;exact⟨rfl,fun size _=>⟨[],Fo,by simpa using Ue.nil,fun r hr=>by simp at hr⟩⟩
  ·rename_i s cE
   simp only[AV.sc.injEq] at cE;subst cE;simp only[Ia.run,Bc,Br] at h;obtain⟨⟨rfl,rfl⟩,rfl⟩:=h;refine⟨rfl,fun size aZ=>?_⟩;have cU:Ue (Iq I w) (s.data.toList.map fun b=>[AV.sc (.int .u8 b.toNat)]).flatten (s.data.toList.map fun b=>Value.int .u8 b.toNat):=by
    have e:(s.data.toList.map fun b=>[AV.sc (.int .u8 b.toNat)]).flatten=s.data.toList.map fun b=>AV.sc (.int .u8 b.toNat):=by
     induction s.data.toList with
     |nil=>rfl
     |cons b l ih=>simp[ih]
    rw[e];refine⟨Zi,fun i a u ha hu=>?_⟩;rw[qY] at ha hu
    cases hb:s.data.toList[i]? with
    |none=>rw[hb] at ha;cases ha
    |some b=>
     rw[hb] at ha hu
     cases ha;cases hu
     simp[Iq,Value.oneCell']
   have pN:size=1\/s.data.toList=[]:=by
    rcases aZ with h|h
    ·exact .inl h.symm
    ·exact .inr (by simpa using h)
   refine⟨_,⟨fun w'=>?_,fun w' _=>?_,?_⟩,cU,?_⟩
   ·show Result.ok s.size w'=Result.ok (List.length (s.data.toList.map _)) w'
    rw[Aco];rfl
   ·have e:s.extract 0 s.data.toList.length=s:=by
     apply Adc;simp
    simp only[Builtin.firstCells,Aco];rw[e];simp;congr 1;apply sI;simp
   ·rcases pN with rfl|h0
    ·simp
    ·simp[h0]
   ·intro r hr
    rw[Adk] at hr;obtain⟨b,hb,rfl⟩:=hr;rcases pN with rfl|h0
    ·rfl
    ·rw[h0] at hb;simp at hb
  ·rename_i cE;simp at cE
 |bsl x g sz' off n=>
  simp only[gV,Ia.run] at h
  cases hx:hp x with
  |no g'=>rw[hx] at h;simp[Ia.run] at h
  |map _ _ _ _ _=>rw[hx] at h;simp[Ia.run] at h
  |arr g' sz e rows f=>rw[hx] at h;simp[Ia.run] at h
  |box g' cells f=>
   rw[hx] at h;simp only at h
   split at h
   case isFalse=>simp[Ia.run] at h
   rename_i hc;obtain⟨rfl,hl,fN⟩:=hc;simp only[Ia.run,Bc,Br] at h;obtain⟨⟨rfl,rfl⟩,rfl⟩:=h;refine⟨rfl,fun size aZ=>?_⟩;obtain⟨b,c,cap,us,c1,c2,c3,rfl,c4,c5,c6,c7⟩:=bslD G hx fN hr hl;rcases aZ with rfl|h0
   ·obtain⟨he,ha⟩:=(Ai _ _).1 c5
    rw[c6];exact⟨us,H0 c4 c7,ha,he⟩
   ·have FU:n=0:=by rw[<-c6,h0];rfl
    subst FU;exact⟨[],by simpa[dR] using Fo,by simpa[dR] using Ue.nil,fun r hr=>by simp[dR] at hr⟩
 |any|ptr|eptr|dp|agg|tup|vec|fn|mp|dmp=>simp[gV,Ia.run] at h
theorem Sp {e:TypeId}(h:oX P e=true): ∃i z,P.info? e=some i/\i.zero=some z/\z.cells.size=i.size/\0<i.size/\P.cellsOf e=i.size/\P.bytesOf e=i.bytes:=by
 unfold oX U8 at h
 cases hi:P.info? e with
 |none=>simp[hi] at h
 |some i=>
  cases hz:i.zero with
  |none=>simp[hi,hz] at h
  |some z=>
   simp[hi,hz,Program.cellsOf] at h;exact⟨i,z,rfl,hz,h.1,h.2,by simp[Program.cellsOf,hi],by simp[Program.bytesOf,hi]⟩
theorem Bha(h:oA P t=true):Zu P t:=by
 unfold oA at h
 split at h
 ·rename_i e he;exact .inl ⟨e,he⟩
 ·rename_i he;exact .inr he
 ·cases h
theorem Bj {e:TypeId}(h:bF P t=some e):P.underlying t=some (.slice e):=by
 unfold bF at h
 split at h
 ·rename_i e' he;cases h;exact he
 ·cases h
theorem Aka{olds rest:List Value}(he:eX sz rows)(ha:Ue (Iq I w) rows.flatten olds)(hn:rows.length=n)(hr:rest.length=(cap - n)*sz)(hc:n<=cap):
  U3 I w sz rows ((olds++rest).take (rows.length*sz))/\(olds++rest).length=cap*sz:=by
 have hl:olds.length=rows.length*sz:=by rw[<-ha.1,he.length]
 constructor
 ·rw[Ai]
  refine⟨he,?_⟩;rw[Acv hl];exact ha
 ·rw[X3,hl,hr,hn,<-tZ]
  congr 1;omega
theorem Ho (G:Uj I K m hp w){y:Nm}(hy:y.d<=k){e:TypeId}(mV:Ie k I m hp w s us)(ht:P.underlying t=some (.slice e)){z:Value}(hi:P.info? e=some i)(jB:i.zero=some z)
  (hzc:z.cells.size=i.size) (gX:0<i.size) (xL:P.cellsOf e=i.size) (DF:P.bytesOf e=i.bytes) (hu:Zu P t') {src:List (List AV)} (hS:EQ P w i.size src.length ux news) (hN:Ue (Iq I w) src.flatten news) (hE:eX i.size src)
  (h2:(tW P y e src s).run hp=some (v,hp')):
  ∃u' w' m',(Builtin.append_ #[t,t'] ty #[us,ux]).run P w= .ok u' w'/\Uj I K m' hp' w'/\aL I K m hp w I m' hp' w'/\Ie k I m' hp' w' v u':=by
 unfold tW at h2;have fresh: ∀(x:Nm) (g:Nat) (olds:List Value) (rows:List (List AV)) (old:Nat),x.d<=k->(hp x).gen<g->eX i.size rows->Ue (Iq I w) rows.flatten olds->rows.length+src.length<=maxLen->
   ∃m',Uj I K m' (Ur hp x (.arr g i.size e (rows++src) false)) (w.drew.alloc (.cells (olds.toArray++news.toArray++Builtin.zeroCells z.cells (grownCap w (rows.length+src.length) old e - (rows.length+src.length))) e))/\
    aL I K m hp w I m' (Ur hp x (.arr g i.size e (rows++src) false)) (w.drew.alloc (.cells (olds.toArray++news.toArray++Builtin.zeroCells z.cells (grownCap w (rows.length+src.length) old e - (rows.length+src.length))) e))/\
    Ie k I m' (Ur hp x (.arr g i.size e (rows++src) false)) (w.drew.alloc (.cells (olds.toArray++news.toArray++Builtin.zeroCells z.cells (grownCap w (rows.length+src.length) old e - (rows.length+src.length))) e))
     (.own x g (rows.length+src.length)) (.slice (some ⟨w.heap.size,0,none⟩) (rows.length+src.length) (grownCap w (rows.length+src.length) old e)):=by
  intro x g olds rows old hxk hg gE uW dE;have wI:=grownCap_ge w (rows.length+src.length) old e;have aI:=Ads w (rows.length+src.length) old e dE;obtain⟨a1,a2⟩:=Aka (rest:=(Builtin.zeroCells z.cells (grownCap w (rows.length+src.length) old e - (rows.length+src.length))).toList) (gE.append hE) (by rw[Adp];exact uW.append hN) (by rw[X3])
   (by rw[wN,size_zeroCells,hzc]) wI
  obtain⟨G2,E2⟩:=G.alloc (x:=x) (o:= .arr g i.size e (rows++src) false) (.cells (olds.toArray++news.toArray++Builtin.zeroCells z.cells (grownCap w (rows.length+src.length) old e - (rows.length+src.length))) e) (grownCap w (rows.length+src.length) old e) hg
   (fun w' m' hb hm E=> .inr ⟨w.heap.size,_,_,(0,0),hm,hb,kT _,by have:=a2;simp at this⊢;omega,by rw[X3];exact wI,aI,
    U3.mono E.isub (fun b hb=>E.keep b (.inl hb)) _ _ _ (by simpa using a1),fun h=>(by cases h),fun _=>G.fresh⟩) (.inr rfl)
  refine⟨_,G2,E2,?_⟩;simp only[Ie];refine⟨hxk,by rw[Ad];exact D5 _,fun sz e' rows' fz hx=>?_⟩;rw[Ad] at hx
  cases hx
  exact⟨by rw[X3];exact D5 _,.inr ⟨_,_,Ad _ _ _,rfl⟩⟩
 have onNil: ∀(x:Nm) (g:Nat),x.d<=k->(hp x).gen<g->src.length<=maxLen->src.length*i.bytes<=140737488355328->
   ∃u' w' m',(Builtin.append_ #[t,t'] ty #[.slice none 0 0,ux]).run P w= .ok u' w'/\Uj I K m' (Ur hp x (.arr g i.size e src false)) w'/\aL I K m hp w I m' (Ur hp x (.arr g i.size e src false)) w'/\
    Ie k I m' (Ur hp x (.arr g i.size e src false)) w' (.own x g src.length) u':=by
  intro x g hxk hg dE nF;by_cases h0:src.length=0
  ·have oG:src=[]:=Kw h0
   subst oG;have FU:news=[]:=Kw (by rw[hS.length];simp);subst FU;have qB:(hp x).gen<(It.arr g i.size e [] false).gen:=hg;refine⟨_,w,Ur m x none,Yb w t t' ty e i ht hu hi ux hS,G.bump (.refl I K w) (fun _ h=>h) qB (.inl ⟨Ad _ _ _,rfl⟩) (fun _ _ _ _ _=>rfl) (fun _ _ _ _ _ _ h=>h) (fun _ r hr=>(by cases hr)) G.ilt G.ik,.bump (.refl I K w) (fun _ h=>h) qB,?_⟩;simp only[Ie];refine⟨hxk,by rw[Ad];exact D5 _,fun sz e' rows' fz hx=>?_⟩;rw[Ad] at hx
   cases hx
   exact⟨D5 _,.inl ⟨Ad _ _ _,trivial,rfl⟩⟩
  ·have tB:(src.length:Int)<=9223372036854775807:=by simp only[maxLen] at dE;omega
   have hr:=append_nil w t t' ty e i z ht hu hi jB ux src.length news hS Zo tB Zo;obtain⟨m',G',E',R'⟩:=fresh x g [] [] 0 hxk hg (fun r hr=>by simp at hr) (by simpa using Ue.nil) (by simpa using dE);simp only[Adb,mH,Acm] at G' E' R';refine⟨_,_,m',hr,?_,?_,?_⟩
   ·simpa using G'
   ·simpa using E'
   ·simpa using R'
 split at h2
 · -- onto what is owned
  rename_i zn g n;simp only[Ia.run] at h2
  cases hx:hp zn with
  |no g'=>rw[hx] at h2;simp[Ia.run] at h2
  |map _ _ _ _ _=>rw[hx] at h2;simp[Ia.run] at h2
  |box g' c f=>rw[hx] at h2;simp[Ia.run] at h2
  |arr g' sz e' rows f=>
   rw[hx] at h2;simp only at h2
   split at h2
   case isFalse=>simp[Ia.run] at h2
   rename_i hc;obtain⟨rfl,rfl,rfl,⟨rfl,rfl⟩,nF,dE⟩:=hc;simp only[Ia.run,Bc,Br] at h2;obtain⟨rfl,rfl⟩:=h2;simp only[Ie] at mV;obtain⟨LP,_,mV⟩:=mV;obtain⟨_,mV⟩:=mV _ e' rows false hx;have xJ:(hp zn).gen<g'+1:=by rw[hx];simp[It.gen]
   have ho:=G.obj zn;rw[hx] at ho;rw[xL] at ho⊢;rw[DF] at nF;rcases mV with⟨h0,rfl,FU⟩|⟨b,cap,hm,rfl⟩
   ·have wZ:rows=[]:=Kw FU
    subst wZ;simp only[Adb,mH,Acm] at nF dE⊢;exact onNil zn (g'+1) LP xJ dE nF
   ·rcases ho with⟨h1,_⟩|⟨b',cap',cur,mk,h1,h2,h3,h4,h5,h6,h7,h8,h9⟩
    ·rw[h1] at hm;cases hm
    ·rw[h1] at hm;cases hm
     obtain⟨gE,uW⟩:=(Ai _ _).1 h7;have tA:(cur.toList.take (rows.length*i.size)).length=rows.length*i.size:=by rw[<-uW.1,gE.length]
     by_cases lV:rows.length+src.length<=cap
     ·have qL:news.length=src.length*i.size:=hS.length
      have kY:rows.length*i.size+news.length<=cur.size:=by rw[qL,h4,<-tZ];exact xY _ lV
      have hr:=Mr w t t' ty e' i ht hu hi b rows.length cap cur mk h2 h3 ux src.length news hS hN.one lV kY;obtain⟨iQ,iC⟩:=h9 rfl;have hp':m zn=some (b,cap):=h1;have em:Ur m zn (some (b,cap))=m:=by funext q;by_cases hq:q=zn<;>simp[Ur,hq,h1]
      have E2:aL I K m hp w I (Ur m zn (some (b,cap))) (Ur hp zn (.arr (g'+1) i.size e' (rows++src) false)) (w.setRow b (cur.toList.take (rows.length*i.size)++news++cur.toList.drop (rows.length*i.size+news.length)).toArray):= .bump (.setRow iQ iC) (fun _ h=>h) xJ;refine⟨_,_,Ur m zn (some (b,cap)),hr,G.bump (.setRow iQ iC) (fun _ h=>h) xJ ?_ (fun q hq hl r hr=>Adj w b r.1 _ (fun e=>hq (G.inj q zn r (b,cap) hl (by rw[hx];rfl) hr h1 e))) (fun _ _ _ _ _ _ h=>h) ?_ (fun c hc=>by have:=G.ilt c hc;simpa[World.setRow] using this) G.ik,E2,?_⟩
      ·refine .inr ⟨b,cap,_,mk,Ad _ _ _,Adt w b cur _ e' mk h2,fun j hj=>h3 j ?_,?_,by rw[X3];exact lV,h6,?_,fun h=>(by cases h),fun _=>⟨iQ,iC⟩⟩
       ·simp at hj;omega
       ·simp;omega
       ·refine U3.mono E2.isub (fun b hb=>E2.keep b (.inl hb)) _ _ _ ((Ai _ _).2 ⟨gE.append hE,?_⟩)
        rw[Adp];have happ:=uW.append hN;have pP:(cur.toList.take (rows.length*i.size)++news).length=(rows++src).length*i.size:=by rw[X3,tA,qL,X3,tZ]
        rw[Acv pP];exact happ
      ·intro _ r hr q hq hl s hs e
       cases hr
       exact hq (G.inj q zn s (b,cap) hl (by rw[hx];rfl) hs h1 e.symm)
      ·simp only[Ie]
       refine⟨LP,by rw[Ad];exact D5 _,fun sz e' rows' fz hx=>?_⟩;rw[Ad] at hx
       cases hx
       exact⟨by rw[X3];exact D5 _,.inr ⟨b,cap,Ad _ _ _,rfl⟩⟩
     ·have oK: ∀j v,(cur.toList.take (rows.length*i.size))[j]?=some v->w.cell? ((⟨b,0,none⟩:Addr).add j)=some v:=fun j v hv=>by
       rw[Bh,mH,AQ w b j cur e' mk h2];rw[xZ] at hv
       split at hv
       ·simpa using hv
       ·cases hv
      have tB:((rows.length+src.length:Nat):Int)<=9223372036854775807:=by simp only[maxLen] at dE;omega
      have hr:=Ff w t t' ty e' i z ht hu hi jB ⟨b,0,none⟩ rows.length cap _ tA oK ux src.length news hS Zo tB (Ad7 Zo nF);obtain⟨m',G',E',R'⟩:=fresh zn (g'+1) _ rows cap LP xJ gE uW dE;exact⟨_,_,m',hr,G',E',R'⟩
 · -- onto nil
  split at h2
  case isFalse=>simp[Ia.run] at h2
  rename_i hc;simp only[iF,Ia.run,Bc,Br] at h2;obtain⟨rfl,rfl⟩:=h2;simp only[Ie] at mV;subst mV;rw[xL];rw[DF] at hc;exact onNil y ((hp y).gen+1) hy (vB _) hc.2 hc.1
 · -- onto a list without spare room
  rename_i sz rows
  split at h2
  case isFalse=>simp[Ia.run] at h2
  rename_i hc;obtain⟨rfl,h0,nF,dE⟩:=hc;simp only[iF,Ia.run,Bc,Br] at h2;obtain⟨rfl,rfl⟩:=h2;simp only[Ie,Iq] at mV;obtain⟨A,cap,rfl,h1,h2,h3,h4⟩:=mV;have uJ:cap=rows.length:=h3 trivial;subst uJ;rw[xL] at h4⊢;rw[DF] at nF;have tB:((rows.length+src.length:Nat):Int)<=9223372036854775807:=by simp only[maxLen] at dE;omega
  rw[X3];rcases h4 with rfl|⟨b,o,cur,rfl,hb,GB,hrr⟩
  ·cases A with
   |none=>
    simp only[Adb,mH,Acm] at*;exact onNil y ((hp y).gen+1) hy (vB _) dE nF
   |some ad=>
    obtain⟨m',G',E',R'⟩:=fresh y ((hp y).gen+1) [] [] 0 hy (vB _) (fun r hr=>by simp at hr) (by simpa using Ue.nil) dE;have hr:=Ff w t t' ty e i z ht hu hi jB ad 0 0 [] Zi Zi ux src.length news hS Zo (by simpa using tB) (Ad7 Zo (by simpa using nF));exact⟨_,_,m',hr,G',E',R'⟩
  ·obtain⟨gE,uW⟩:=(Ai _ _).1 hrr
   obtain⟨m',G',E',R'⟩:=fresh y ((hp y).gen+1) cur rows rows.length hy (vB _) gE uW dE;have hr:=Ff w t t' ty e i z ht hu hi jB ⟨b,o,none⟩ rows.length rows.length cur (by rw[<-uW.1,gE.length]) (fun j v hv=>by rw[Bh];exact GB j v hv) ux src.length news hS Zo tB (Ad7 Zo nF);exact⟨_,_,m',hr,G',E',R'⟩
 ·simp[Ia.run] at h2
theorem Faa (G:Uj I K m hp w){y:Nm}(hy:y.d<=k)(mV:Ie k I m hp w s us)(hrx:Ie k I m hp w x ux)
  (h:(qU P y t t' s x).run hp=some (v,hp')):
  ∃u' w' m',(Builtin.append_ #[t,t'] ty #[us,ux]).run P w= .ok u' w'/\Uj I K m' hp' w'/\aL I K m hp w I m' hp' w'/\Ie k I m' hp' w' v u':=by
 unfold qU at h
 split at h
 case h_2=>simp[Ia.run] at h
 rename_i e he;have ht:=Bj he
 split at h
 case isFalse=>simp[Ia.run] at h
 rename_i zH;obtain⟨hz,dN⟩:=zH;obtain⟨i,z,hi,jB,hzc,gX,xL,DF⟩:=Sp hz;have hu:=Bha dN;obtain⟨⟨sz',src⟩,hp1,r1,h2⟩:=Aa h;clear h;obtain⟨e1,wX⟩:=Ea (P:=P) G hrx r1;rw[e1] at h2;clear r1 e1;simp only at h2
 split at h2
 case isFalse=>simp[Ia.run] at h2
 rename_i aZ;obtain⟨news,hS,hN,hE⟩:=wX (P.cellsOf e) aZ;rw[xL] at hS hE;unfold appR at h2
 split at h2
 case h_2=>exact Ho G hy mV ht hi jB hzc gX xL DF hu hS hN hE h2
 rename_i zn g n;simp only[Ia.run] at h2
 cases hx:hp zn with
 |no g'=>rw[hx] at h2;simp[Ia.run] at h2
 |map _ _ _ _ _=>rw[hx] at h2;simp[Ia.run] at h2
 |box g' c f=>rw[hx] at h2;simp[Ia.run] at h2
 |arr g' sz e' rows f=>
  rw[hx] at h2;simp only at h2
  split at h2
  case isFalse=>exact Ho G hy mV ht hi jB hzc gX xL DF hu hS hN hE h2
  rename_i hc;obtain⟨rfl,rfl,Ii⟩:=hc;simp only[Ia.run] at h2;have zJ:=mV;simp only[Ie] at zJ;obtain⟨LP,_,zJ⟩:=zJ;obtain⟨_,zJ⟩:=zJ _ e' rows false hx;have xJ:(hp zn).gen<(It.arr (g'+1) sz e' (rows.take n) false).gen:=by rw[hx];simp[It.gen]
  have ho:=G.obj zn;rw[hx] at ho;rcases ho with⟨_,h1⟩|⟨b,cap,cur,mk,h1,hh2,h3,h4,h5,h6,h7,_,h9⟩
  ·rw[h1] at Ii;simp at Ii
  ·obtain⟨iQ,iC⟩:=h9 rfl
   have em:Ur m zn (some (b,cap))=m:=by funext q;by_cases hq:q=zn<;>simp[Ur,hq,h1]
   have Ij:(rows.take n).length=n:=by rw[sL];omega
   have E2:aL I K m hp w I (Ur m zn (some (b,cap))) (Ur hp zn (.arr (g'+1) sz e' (rows.take n) false)) w:= .bump (.refl I K w) (fun _ h=>h) xJ;have G2:Uj I K (Ur m zn (some (b,cap))) (Ur hp zn (.arr (g'+1) sz e' (rows.take n) false)) w:=by
    refine G.bump (.refl I K w) (fun _ h=>h) xJ ?_ (fun _ _ _ _ _=>rfl) (fun _ _ _ _ _ _ h=>h) ?_ G.ilt G.ik
    ·obtain⟨gE,ha⟩:=(Ai _ _).1 h7
     have yP:=ha.take (n*sz);rw[Acq,AD (xY _ (Nat.le_of_lt Ii)),<-gE.flatten_take] at yP;exact .inr ⟨b,cap,cur,mk,Ad _ _ _,hh2,h3,h4,by rw[Ij];omega,h6,by rw[Ij];exact(Ai _ _).2 ⟨gE.take n,yP⟩,fun h=>(by cases h),fun _=>⟨iQ,iC⟩⟩
    ·intro _ r hr q hq hl s hs e
     cases hr
     exact hq (G.inj q zn s (b,cap) hl (by rw[hx];rfl) hs h1 e.symm)
   rw[em] at E2 G2;have hrs2:Ie k I m (Ur hp zn (.arr (g'+1) sz e' (rows.take n) false)) w (.own zn (g'+1) n) us:=by
    rcases zJ with⟨h0,_⟩|⟨b2,cap2,sS,jS⟩
    ·rw[h0] at h1;cases h1
    ·simp only[Ie]
     refine⟨LP,by rw[Ad];exact D5 _,fun sz' e'' rows' fz rO=>?_⟩;rw[Ad] at rO
     cases rO
     exact⟨by rw[Ij];exact D5 _,.inr ⟨b2,cap2,sS,jS⟩⟩
   obtain⟨u',w',m',r1,r2,r3,r4⟩:=Ho G2 hy hrs2 ht hi jB hzc gX xL DF hu hS hN hE h2;exact⟨u',w',m',r1,r2,E2.trans r3,r4⟩
theorem Xy {e:TypeId}(ht:P.underlying t=some (.slice e))(hi:P.info? e=some i){off:Nat}{T:TypeId}{mk:Nat×Nat}{cur:Array Value}(hg:w.heap[b]?=some (.cells cur T mk))(hm:D7 cur mk)
  {x:Value} {q:Nat} (hs:EQ P w i.size q x news) (h1: ∀v∈news,v.oneCell'=true) (hq:q<=n) (kY:off+news.length<=cur.size):
  (Builtin.copy_ #[t,t'] ty #[.slice (some ⟨b,off,none⟩) n cap,x]).run P w= .ok (.int .i64 q) (w.setRow b (cur.toList.take off++news++cur.toList.drop (off+news.length)).toArray):=by
 have dN:=Cg (P:=P) b off T mk news 0 cur w hg hm (by simpa using kY) h1;simp only[Ac5] at dN;have hmin:Nat.min q n=q:=AD hq;simp[Builtin.copy_,Qi ht,sizeOf,typeInfo,hi,hs.len w,hmin,hs.first w rfl,dN,goInt]
theorem E0a {e:TypeId}(ht:P.underlying t=some (.slice e))(hi:P.info? e=some i)
  {x:Value} (hs:EQ P w i.size 0 x news):
  (Builtin.copy_ #[t,t'] ty #[.slice none 0 0,x]).run P w= .ok (.int .i64 0) w:=by
 have h0:=hs.len w;have hf:=hs.first w rfl
 simp[Builtin.copy_,Qi ht,sizeOf,typeInfo,hi,h0,hf,goInt]
theorem NE (G:Uj I K m hp w){d:AV}{ud:Value}(eB:Ie k I m hp w d ud)(mV:Ie k I m hp w s us)(h:(yT P t d s).run hp=some (v,hp')):
  ∃u' w',(Builtin.copy_ #[t,t'] ty #[ud,us]).run P w= .ok u' w'/\Uj I K m hp' w'/\aL I K m hp w I m hp' w'/\Ie k I m hp' w' v u':=by
 unfold yT at h
 split at h
 case h_2=>simp[Ia.run] at h
 rename_i e he;have ht:=Bj he
 split at h
 case isFalse=>simp[Ia.run] at h
 rename_i CJ;simp only[kB,Ed] at CJ;obtain⟨i,hi⟩:=X2.1 CJ.1;have xL:P.cellsOf e=i.size:=by simp[Program.cellsOf,hi]
 obtain⟨⟨sz',src⟩,hp1,r1,h2⟩:=Aa h;clear h;obtain⟨e1,wX⟩:=Ea (P:=P) G mV r1;rw[e1] at h2;clear r1 e1;simp only at h2
 split at h2
 case isFalse=>simp[Ia.run] at h2
 rename_i aZ;obtain⟨news,hS,hN,hE⟩:=wX (P.cellsOf e) aZ;rw[xL] at hS hE;have qL:src.flatten.length=news.length:=hN.1
 split at h2
 ·rename_i x g sz off n
  simp only[Ia.run] at h2
  cases hx:hp x with
  |no g'=>rw[hx] at h2;simp[Ia.run,It.head] at h2
  |map _ _ _ _ _=>rw[hx] at h2;simp[Ia.run,It.head] at h2
  |arr g' sz e' rows f=>rw[hx] at h2;simp[Ia.run,It.head] at h2
  |box g' cells f=>
   rw[hx] at h2;simp only[It.head] at h2
   split at h2
   case isFalse=>simp[Ia.run] at h2
   rename_i hc;obtain⟨rfl,rfl,rfl,aI,kY⟩:=hc;obtain⟨v1,If,p0,h3⟩:=Aa h2;obtain⟨zK,p1,p2⟩:=Lf src.flatten off cells hp hx kY;rw[p1] at p0;simp only[Bc,Br] at p0;obtain⟨rfl,rfl⟩:=p0;subst p2;simp only[Ia.run,Bc,Br] at h3;obtain⟨rfl,rfl⟩:=h3;simp only[Ie] at eB;obtain⟨hd,_,eB⟩:=eB;obtain⟨b,c,cap,qM,_,_,rfl⟩:=eB cells false hx;have ho:=G.obj x;rw[hx] at ho;obtain⟨b',c',us',T,mk,o1,o2,o3,o4,o5,o6⟩:=ho;rw[o1] at qM;cases qM;have o4':=(Ae _ _).1 o4;have CY:off+news.length<=us'.size:=by have:=o4'.1;simp at this;omega
   have Uk:=Xy (t':=t') (ty:=ty) (off:=off) (cap:=cap) ht hi o2 o3.1 hS hN.one aI CY;have hk:Cq (hp x) (.box g' (splice cells off src.flatten) false):=by rw[hx];exact⟨_,_,rfl⟩
   obtain⟨iQ,iC⟩:=o6 rfl;have E2:aL I K m hp w I m (Ur hp x (.box g' (splice cells off src.flatten) false)) (w.setRow b (us'.toList.take off++news++us'.toList.drop (off+news.length)).toArray):= .same (.setRow iQ iC) (fun _ h=>h) hk;refine⟨_,_,Uk,G.same (.setRow iQ iC) (fun _ h=>h) hk ?_ (fun y hy hl q hq=>Adj w b q.1 _ (fun e=>hy (G.inj y x q (b,c) hl (by rw[hx];rfl) hq o1 e))) (fun _ _ _ _ _ _ h=>h) (fun b hb=>by have:=G.ilt b hb;simpa[World.setRow] using this) G.ik,E2,by simp only[Ie]⟩;refine⟨b,c,_,T,mk,o1,Adt w b us' _ T mk o2,⟨fun j hj=>o3.1 j ?_,by have hz:=o3.2;simp;omega⟩,?_,fun h=>(by cases h),fun _=>⟨iQ,iC⟩⟩
   ·simp at hj;omega
   ·rw[Ae]
    have hN':Ue (Ie x.d I m hp w) src.flatten news:=hN.imp fun a u h=>Iq.rep h
    have dM:=(o4'.imp fun a u h=>Ie.mono E2 _ a u h).splice ((hN'.imp fun a u h=>Ie.mono E2 _ a u h)) off kY;have q1:=o4'.1;have q2:=hN.1;have q4:=dM.1;have pP:(splice cells off src.flatten).length=cells.length:=by simp at q1 q2 q4 kY;omega
    have hn:cells.length<=us'.toList.length:=by simp at q1⊢;omega
    have e:=Mb (us:=us'.toList) (v:=news) (off:=off) Zo hn;rw[pP];rw[show(us'.toList.take off++news++us'.toList.drop (off+news.length)).toArray.toList=us'.toList.take off++news++us'.toList.drop (off+news.length) from rfl,e];simpa using dM
 ·rename_i x g n
  simp only[Ia.run] at h2
  cases hx:hp x with
  |no g'=>rw[hx] at h2;simp[Ia.run] at h2
  |map _ _ _ _ _=>rw[hx] at h2;simp[Ia.run] at h2
  |box g' c f=>rw[hx] at h2;simp[Ia.run] at h2
  |arr g' sz e' rows f=>
   rw[hx] at h2;simp only at h2
   split at h2
   case isFalse=>simp[Ia.run] at h2
   rename_i hc;obtain⟨rfl,rfl,rfl,aI,hnr⟩:=hc;simp only[Ia.run,Bc,Br] at h2;obtain⟨rfl,rfl⟩:=h2;simp only[Ie] at eB;obtain⟨hd,_,eB⟩:=eB;obtain⟨_,eB⟩:=eB _ e' rows false hx;have ho:=G.obj x;rw[hx] at ho;have hk:Cq (hp x) (.arr g' (P.cellsOf e) e' (src++rows.drop src.length) false):=by rw[hx];exact⟨_,_,rfl,by simp;omega⟩
   rcases eB with⟨m0,rfl,rfl⟩|⟨b,cap,qM,rfl⟩
   ·have oG:src=[]:=Kw Zo
    subst oG;have hsame:Ur hp x (.arr g' (P.cellsOf e) e' ([]++rows.drop ([]:List (List AV)).length) false)=hp:=by
     funext y;by_cases hy:y=x
     ·subst hy;simp[Ur,hx]
     ·simp[Ur,hy]
    rw[hsame];exact⟨_,w,E0a ht hi hS,G,.refl _ _ _ _ _,by simp only[Ie];rfl⟩
   ·rcases ho with⟨o1,_⟩|⟨b',cap',cur,mk,o1,o2,o3,o4,o5,o6,o7,o8,o9⟩
    ·rw[o1] at qM;cases qM
    ·rw[o1] at qM;cases qM
     rw[xL] at*;obtain⟨gE,uW⟩:=(Ai _ _).1 o7;have hnl2:news.length=src.length*i.size:=hS.length;have qN:src.length*i.size<=rows.length*i.size:=xY _ Zo;have Ul:rows.length*i.size<=cur.size:=by rw[o4];exact xY _ o5
     have CY:0+news.length<=cur.size:=Zo;have Uk:=Xy (t':=t') (ty:=ty) (off:=0) (cap:=cap) ht hi o2 o3 hS hN.one aI CY;obtain⟨iQ,iC⟩:=o9 rfl;have E2:aL I K m hp w I m (Ur hp x (.arr g' i.size e' (src++rows.drop src.length) false)) (w.setRow b (cur.toList.take 0++news++cur.toList.drop (0+news.length)).toArray):= .same (.setRow iQ iC) (fun _ h=>h) hk;refine⟨_,_,Uk,G.same (.setRow iQ iC) (fun _ h=>h) hk ?_ (fun y hy hl q hq=>Adj w b q.1 _ (fun e=>hy (G.inj y x q (b,cap) hl (by rw[hx];rfl) hq o1 e))) (fun _ _ _ _ _ _ h=>h) (fun b hb=>by have:=G.ilt b hb;simpa[World.setRow] using this) G.ik,E2,by simp only[Ie]⟩;refine .inr ⟨b,cap,_,mk,o1,Adt w b cur _ e' mk o2,fun j hj=>o3 j ?_,?_,by simp;omega,o6,?_,fun h=>(by cases h),fun _=>⟨iQ,iC⟩⟩
     ·simp at hj;omega
     ·simp;omega
     ·refine U3.mono E2.isub (fun b hb=>E2.keep b (.inl hb)) _ _ _ ((Ai _ _).2 ⟨hE.append (gE.drop _),?_⟩)
      have Ij:(src++rows.drop src.length).length=rows.length:=by simp;omega
      rw[Ij,Adp,gE.flatten_drop];have a2:=uW.drop (src.length*i.size);have a3:=hN.append a2;have e1:List.take (rows.length*i.size) ((cur.toList.take 0++news++cur.toList.drop (0+news.length)).toArray.toList)=news++List.drop (src.length*i.size) (List.take (rows.length*i.size) cur.toList):=by
       simp only[List.take_zero,Acm,mH,List.toList_toArray];rw[List.take_append,Kb Zo,hnl2,List.drop_take]
      rw[e1];exact a3
 ·simp[Ia.run] at h2
end
end
end Go.Ab
