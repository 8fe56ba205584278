/- A part of the proof: Uv, Uw, Ux, Og, Oh. -/
import Derived.Test.YtpedpkegmalgmaaGreatDoorZ12
import Derived.Test.YtpedpkegmalgmaaGreatDoorZ14
import Derived.Lib.Hide
import Derived.Test.YtpedpkegmalgmaaGreatDoorZ16
import Derived.Test.YtpedpkegmalgmaaGreatDoorZ10
import Derived.Test.YtpedpkegmalgmaaGreatDoorZ15
set_option linter.unusedSimpArgs false
set_option linter.unusedVariables false
set_option maxRecDepth 200000
set_option maxHeartbeats 8000000
namespace Go.Proofs.YtpedpkegmalgmaaGreatDoor
section
open Go Go.Ab
def EW :Cfg:={eq:=fun t=>t==24,hp:=fun f=>f==70,yl:=fun _=>false}
@[simp] theorem EW_eq (t:Nat):EW.eq t=(t==24):=rfl
@[simp] theorem EW_hp (f:Nat):EW.hp f=(f==70):=rfl
@[simp] theorem EW_off :EW.off=0:=rfl
@[simp] theorem EW_ws :EW.ws=0:=rfl
@[simp] theorem EW_cl :EW.cl=false:=rfl
@[simp] theorem EW_frz (f:Nat):EW.frz f=false:=rfl
@[simp] theorem EW_inl (f:Nat):EW.inl f=false:=rfl
@[simp] theorem EW_bx (t:Nat):EW.bx t=false:=rfl
theorem EW_law :ELaw Tryz.prog EW:=by
 refine⟨fun t ht w x y us vs b h1 h2 h=>?_,fun _=>rfl⟩
 simp only[EW_eq,beq_iff_eq] at ht
 subst ht
 exact array_law (by kernel_rfl) (by kernel_rfl) (by kernel_rfl) w x y us vs b h1 h2 h
def eqD (a b:Q.D4):Bool:=a.d0==b.d0&&(a.d1==b.d1&&(a.d2==b.d2&&(a.d3==b.d3&&true)))
theorem eqD_iff (a b:Q.D4):eqD a b=true↔a=b:=by cases a;cases b;simp[eqD]
theorem eqD_refl (a:Q.D4):eqD a a=true:=(eqD_iff a a).2 rfl
def keyV (b:Q.D4):Value:= .agg ⟨[.int .u32 b.d0,.int .u32 b.d1,.int .u32 b.d2,.int .u32 b.d3]⟩
theorem keyEq_V (a b:Q.D4):keyEq (keyV a) (keyV b)=some (eqD a b):=by simp[keyEq,keyV,eqL,eqV,eqD]
abbrev Gm :=List (Q.D4×List Nat)
abbrev ixR (l:List Nat):List (List AV):=l.map fun(i:Nat)=>[iv (i:Int)]
def gmR (g:Gm):List (Value×List (List AV)):=g.map fun p=>(keyV p.1,ixR p.2)
def posD (b:Q.D4):Gm→Option Nat
 |[]=>none
 |(c,_)::g=>if eqD b c then some 0 else(posD b g).map (· +1)
def addD (b:Q.D4)(i:Nat):Gm→Gm
 |[]=>[(b,[i])]
 |(c,l)::g=>if eqD b c then(c,l++[i])::g else(c,l)::addD b i g
def lookD (b:Q.D4):Gm→List Nat
 |[]=>[]
 |(c,l)::g=>if eqD b c then l else lookD b g
theorem find_gm (b:Q.D4): ∀(g:Gm) (n:Nat),findK (keyV b) ((gmR g).map (·.1)) n=some ((posD b g).map (· +n))
 |[],n=>rfl
 |(c,l)::g,n=>by
  simp only[gmR,List.map_cons,findK,keyEq_V,posD]
  cases h:eqD b c with
  |true=>simp
  |false=>
   have ih:=find_gm b g (n+1)
   unfold gmR at ih
   simp only[ih]
   cases posD b g<;>simp
   omega
theorem addG_gm (b:Q.D4)(i:Nat)(g:Gm):addG (keyV b) [iv (i:Int)] (gmR g)=gmR (addD b i g):=by
 unfold addG
 rw[find_gm]
 have key: ∀g:Gm,(match posD b g with
  |some j=>(gmR g).modify j fun p=>(p.1,p.2++[[iv (i:Int)]])
  |none=>gmR g++[(keyV b,[[iv (i:Int)]])])=gmR (addD b i g):=by
  intro g
  induction g with
  |nil=>rfl
  |cons x g ih=>
   obtain⟨c,l⟩:=x
   simp only[posD,addD]
   cases h:eqD b c with
   |true=>simp[gmR]
   |false=>
    simp only[Bool.false_eq_true,if_false]
    cases hp:posD b g with
    |none=>
     rw[hp] at ih
     simp only[Option.map_none] at ih⊢
     show _=(keyV c,ixR l)::gmR (addD b i g)
     rw[←ih]
     rfl
    |some j=>
     rw[hp] at ih
     simp only[Option.map_some] at ih⊢
     show _=(keyV c,ixR l)::gmR (addD b i g)
     rw[←ih]
     rfl
 have hk:=key g
 cases hp:posD b g with
 |none=>rw[hp] at hk;simpa using hk
 |some j=>rw[hp] at hk;simpa using hk
theorem look_pos (b:Q.D4): ∀g:Gm,match posD b g with
  |some j=> ∃c,g[j]?=some (c,lookD b g)
  |none=>lookD b g=[]
 |[]=>rfl
 |(c,l)::g=>by
  have ih:=look_pos b g
  simp only[posD,lookD]
  cases h:eqD b c with
  |true=>simp
  |false=>
   simp only[Bool.false_eq_true,if_false]
   cases hp:posD b g with
   |none=>rw[hp] at ih;exact ih
   |some j=>
    rw[hp] at ih
    obtain⟨c',ih⟩:=ih
    exact⟨c',by simpa using ih⟩
theorem look_add (b c:Q.D4)(i:Nat): ∀g:Gm,lookD c (addD b i g)=if eqD c b then lookD c g++[i] else lookD c g
 |[]=>by
  simp only[addD,lookD]
  cases eqD c b<;>rfl
 |(x,l)::g=>by
  have ih:=look_add b c i g
  simp only[addD]
  cases h:eqD b x with
  |true=>
   have e:=(eqD_iff _ _).1 h
   subst e
   simp only[if_true,lookD]
   cases eqD c b<;>rfl
  |false=>
   simp only[Bool.false_eq_true,if_false,lookD]
   cases h2:eqD c x with
   |true=>
    have e:=(eqD_iff _ _).1 h2
    subst e
    have:eqD c b=false:=by
     cases h3:eqD c b with
     |false=>rfl
     |true=>rw[(eqD_iff _ _).1 h3,eqD_refl] at h;cases h
    simp[this]
   |false=>simpa using ih
structure Sg where
 b:Q.D4
 i:Int
 one:List (List AV)
 path:List (List AV)
def Sg.row (s:Sg):List AV:=[uv s.b.d0,uv s.b.d1,uv s.b.d2,uv s.b.d3,iv s.i,.sl false 4 s.one,.sl false 4 s.path]
abbrev rowSg (L:List Sg):List (List AV):=L.map Sg.row
def Sg.av (s:Sg):AV:= .agg [iv s.i,.sl false 4 s.one,.sl false 4 s.path]
def gmT (L:List Sg):Nat→Gm
 |0=>[]
 |k+1=>match L[k]? with
  |some s=>addD s.b k (gmT L k)
  |none=>gmT L k
def idxT (L:List Sg)(b:Q.D4):Nat→List Nat
 |0=>[]
 |k+1=>match L[k]? with
  |some s=>if eqD b s.b then idxT L b k++[k] else idxT L b k
  |none=>idxT L b k
theorem look_gmT (L:List Sg)(b:Q.D4): ∀k,lookD b (gmT L k)=idxT L b k
 |0=>rfl
 |k+1=>by
  simp only[gmT,idxT]
  cases L[k]? with
  |none=>exact look_gmT L b k
  |some s=>simp only[look_add,look_gmT L b k]
theorem idxT_lt (L:List Sg)(b:Q.D4): ∀k,k≤L.length→ ∀i∈idxT L b k,∃s,L[i]?=some s∧s.b=b
 |0,_,i,hi=>by simp[idxT] at hi
 |k+1,hk,i,hi=>by
  have hL:L[k]?=some L[k]:=List.getElem?_eq_getElem (by omega)
  simp only[idxT,hL] at hi
  cases h:eqD b L[k].b with
  |false=>simp only[h,Bool.false_eq_true,if_false] at hi;exact idxT_lt L b k (by omega) i hi
  |true=>
   simp only[h,if_true,List.mem_append,List.mem_singleton] at hi
   rcases hi with hi|rfl
   ·exact idxT_lt L b k (by omega) i hi
   ·exact⟨_,hL,((eqD_iff _ _).1 h).symm⟩
theorem idxT_len (L:List Sg)(b:Q.D4): ∀k,(idxT L b k).length≤k
 |0=>Nat.le_refl 0
 |k+1=>by
  have:=idxT_len L b k
  simp only[idxT]
  cases L[k]? with
  |none=>simp only;omega
  |some s=>simp only;split<;>simp<;>omega
theorem gmT_len (L:List Sg): ∀k,∀p∈gmR (gmT L k),p.2.length≤k:=by
 have add: ∀(b:Q.D4) (i n:Nat) (g:Gm),(∀p∈g,p.2.length≤n)→ ∀p∈addD b i g,p.2.length≤n+1:=by
  intro b i n g
  induction g with
  |nil=>intro _ p hp;simp only[addD,List.mem_singleton] at hp;subst hp;simp
  |cons x g ih=>
   obtain⟨c,l⟩:=x
   intro h p hp
   have h0:=h (c,l) (by simp)
   simp only[addD] at hp
   split at hp
   ·simp only[List.mem_cons] at hp
    rcases hp with rfl|hp
    ·simp only[List.length_append,List.length_cons,List.length_nil];simp only at h0;omega
    ·have:=h p (by simp[hp]);omega
   ·simp only[List.mem_cons] at hp
    rcases hp with rfl|hp
    ·simp only at h0⊢;omega
    ·exact ih (fun q hq=>h q (by simp[hq])) p hp
 have key: ∀k,∀p∈gmT L k,p.2.length≤k:=by
  intro k
  induction k with
  |zero=>intro p hp;simp[gmT] at hp
  |succ k ih=>
   intro p hp
   simp only[gmT] at hp
   cases hL:L[k]? with
   |none=>rw[hL] at hp;have:=ih p hp;omega
   |some s=>rw[hL] at hp;exact add _ _ _ _ ih p hp
 intro k p hp
 obtain⟨q,hq,rfl⟩:=List.mem_map.1 hp
 simpa using key k q hq
def anyS (chk:Sg→Bool)(L:List Sg)(l:List Nat):Bool:=l.any fun i=>match L[i]? with
 |some s=>chk s
 |none=>false
def ansP (chk:Q.D4→Sg→Bool)(L:List Sg)(b:Q.D4):Bool:=anyS (chk b) L (idxT L b L.length)
def knR (chk:Q.D4→Sg→Bool)(L:List Sg)(kl:List Q.D4):List (List AV):=kl.map fun b=>[bv (ansP chk L b)]
def posK (b:Q.D4):List Q.D4→Option Nat
 |[]=>none
 |c::g=>if eqD b c then some 0 else(posK b g).map (· +1)
theorem find_kn (b:Q.D4): ∀(g:List Q.D4) (n:Nat),findK (keyV b) (g.map keyV) n=some ((posK b g).map (· +n))
 |[],n=>rfl
 |c::g,n=>by
  simp only[List.map_cons,findK,keyEq_V,posK]
  cases h:eqD b c with
  |true=>simp
  |false=>
   have ih:=find_kn b g (n+1)
   simp only[ih]
   cases posK b g<;>simp
   omega
theorem posK_get (b:Q.D4): ∀(g:List Q.D4) (j:Nat),posK b g=some j→g[j]?=some b
 |[],j,h=>by simp[posK] at h
 |c::g,j,h=>by
  simp only[posK] at h
  split at h
  ·rename_i hc
   cases h
   rw[(eqD_iff _ _).1 hc];rfl
  ·simp only[Option.map_eq_some_iff] at h
   obtain⟨i,hi,rfl⟩:=h
   simpa using posK_get b g i hi
end
section
open Go Go.Ab
attribute [local simp] resultV lowerRes lowerV lowerAll
attribute [-simp] Prog.bind getCs putCs
attribute [local simp ↓] run_bind
attribute [local simp ↓] runF_bind
attribute [local simp] run_getCsN runF_getCsN runF_putCsN facetsC facetsW facetsH putCs_one run_putCsN
theorem any_take {chk:Sg→Bool}{L:List Sg}{l:List Nat}{i q:Nat}{s:Sg}(h:l[i]?=some q)(hs:L[q]?=some s):anyS chk L (l.take (i+1))=(anyS chk L (l.take i)||chk s):=by
 unfold anyS
 rw[List.take_add_one,h]
 simp[hs]
theorem any_true {chk:Sg→Bool}{L:List Sg}{l:List Nat}{i q:Nat}{s:Sg}(h:l[i]?=some q)(hs:L[q]?=some s)(hc:chk s=true):anyS chk L l=true:=by
 unfold anyS
 rw[List.any_eq_true]
 exact⟨q,List.mem_of_getElem? h,by simp[hs,hc]⟩
theorem agrees_w {X:Orc}(hX: ∀k d a hp,X.hpc k d 70 a hp=none)(L:List Sg)(hL:L.length≤1000000)(chk:Q.D4→Sg→Bool)(b mm:Q.D4)(hchk: ∀s∈L,(lim Tryz.prog EW X).dat 71 [.agg b.row,.agg mm.row,s.av]=some [bv (chk b s)])(kl:List Q.D4){d:Nat}{hp1:Hp}{g10 gk g7 g4 g5:Nat}
  (h10:hp1 ⟨0,10,0⟩= .box g10 [.mp ⟨0,33,0⟩ gk] false) (h33:hp1 ⟨0,33,0⟩= .map gk false (kl.map keyV) (knR chk L kl) false) (h7:hp1 ⟨0,7,0⟩= .box g7 [.dmp false ((gmR (gmT L L.length)).map (·.1)) ((gmR (gmT L L.length)).map fun p=>[.sl false 1 p.2])] true) (h4:hp1 ⟨0,4,0⟩= .box g4 mm.row false) (h5:hp1 ⟨0,5,0⟩= .box g5 [.sl false 7 (rowSg L)] false):
  HB Tryz.prog EW (lim Tryz.prog EW X) 0 d 70 [.agg b.row,.ptr ⟨0,10,0⟩ g10 0,.ptr ⟨0,7,0⟩ g7 0,.ptr ⟨0,4,0⟩ g4 0,.ptr ⟨0,5,0⟩ g5 0] hp1 (fun v hp2=>v=bv (ansP chk L b)∧(∃kl':List Q.D4,hp2 ⟨0,33,0⟩= .map gk false (kl'.map keyV) (knR chk L kl') false)∧ ∀i c,(⟨0,i,c⟩:Nm)≠⟨0,33,0⟩→hp2 ⟨0,i,c⟩=hp1 ⟨0,i,c⟩) (fun _ _=>False):=by
 refine lim_hpcBr (k1:=1) (PR:=fun _ _=>False) rfl Tryz.func70 (hX _ _ _ _) rfl bodyOk_70 rfl rvs_70 ?_
 have hfk:=find_kn b kl 0
 obtain⟨b0,b1,b2,b3⟩:=b
 obtain⟨m0,m1,m2,m3⟩:=mm
 cases hpk:posK ⟨b0,b1,b2,b3⟩ kl with
 |some j=>
  rw[hpk] at hfk
  have hj:=posK_get _ _ _ hpk
  have hr:(knR chk L kl)[j]?=some [bv (ansP chk L ⟨b0,b1,b2,b3⟩)]:=by unfold knR;rw[List.getElem?_map,hj];rfl
  simp only[Option.map_some,Nat.add_zero] at hfk
  have hend: ∀hp2:Hp,hp2 ⟨0,33,0⟩=hp1 ⟨0,33,0⟩→ ∃kl':List Q.D4,hp2 ⟨0,33,0⟩= .map gk false (kl'.map keyV) (knR chk L kl') false:=fun hp2 h=>⟨kl,h.trans h33⟩
  simp only[keyV] at hfk
  replace hend:=Lib.hid hend
  replace hchk:=Lib.hid hchk
  clear hpk hj
  generalize ansP chk L ⟨b0,b1,b2,b3⟩=an at*
  generalize kl.map keyV=KS at*
  generalize knR chk L kl=RS at*
  simp only[Q.D4.row]
  repeat' (first|(refine ZN ?_)|(refine Z2 ?_ ?_)|(intro h h';try simp[*,-h] at h'))
  all_goals exact⟨rfl,hend.out _ (by simp[*]),fun i c h=>by simp[*]⟩
 |none=>
  rw[hpk] at hfk
  simp only[Option.map_none] at hfk
  simp only[keyV] at hfk
  have hgm:=find_gm ⟨b0,b1,b2,b3⟩ (gmT L L.length) 0
  have hlk:=look_pos ⟨b0,b1,b2,b3⟩ (gmT L L.length)
  have hlg:=look_gmT L ⟨b0,b1,b2,b3⟩ L.length
  have hend: ∀(hp2:Hp) (an:Bool),an=ansP chk L ⟨b0,b1,b2,b3⟩→hp2 ⟨0,33,0⟩= .map gk false (kl.map keyV++[.agg ⟨[.int .u32 b0,.int .u32 b1,.int .u32 b2,.int .u32 b3]⟩]) (knR chk L kl++[[bv an]]) false→ ∃kl':List Q.D4,hp2 ⟨0,33,0⟩= .map gk false (kl'.map keyV) (knR chk L kl') false:=fun hp2 an ha h=>⟨kl++[⟨b0,b1,b2,b3⟩],by rw[h,ha];simp[knR,keyV]⟩
  replace hend:=Lib.hid hend
  have hidx:=Lib.hid (idxT_lt L ⟨b0,b1,b2,b3⟩ L.length (Nat.le_refl _))
  have hil:=idxT_len L ⟨b0,b1,b2,b3⟩ L.length
  have han:ansP chk L ⟨b0,b1,b2,b3⟩=anyS (chk ⟨b0,b1,b2,b3⟩) L (idxT L ⟨b0,b1,b2,b3⟩ L.length):=rfl
  replace hchk:=Lib.hid hchk
  rw[han] at hend
  rw[han]
  clear hpk han
  generalize kl.map keyV=KS at*
  generalize knR chk L kl=RS at*
  simp only[Q.D4.row] at h4⊢
  simp only[keyV] at hgm
  cases hpd:posD ⟨b0,b1,b2,b3⟩ (gmT L L.length) with
  |none=>
   rw[hpd] at hgm hlk
   simp only[Option.map_none] at hgm
   simp only at hlk
   rw[hlg] at hlk
   rw[hlk] at hend⊢
   have hany0:anyS (chk ⟨b0,b1,b2,b3⟩) L []=false:=rfl
   rw[hany0] at hend⊢
   clear hidx hil hlg hpd hlk
   generalize (gmR (gmT L L.length)).map (·.1)=KM at*
   generalize (gmR (gmT L L.length)).map (fun p=>[AV.sl false 1 p.2])=RM at*
   repeat' (first|(refine ZN ?_)|(refine Z2 ?_ ?_)|(intro h h';try simp[*,-h] at h'))
   refine W_loopS (n:=1) (fun s0 m s=>0<m∧s=s0) ⟨by omega,rfl⟩ ?_
   rintro m s ⟨hm,rfl⟩
   repeat' (first|(refine ZN ?_)|(refine Z2 ?_ ?_)|(intro h h';try simp[*,-h] at h'))
   all_goals exact⟨rfl,hend.out _ _ rfl (by simp[*]),fun i c h=>by simp[*]⟩
  |some j=>
   rw[hpd] at hgm hlk
   simp only[Option.map_some,Nat.add_zero] at hgm
   simp only at hlk
   obtain⟨c,hlk⟩:=hlk
   rw[hlg] at hlk
   generalize hids:idxT L ⟨b0,b1,b2,b3⟩ L.length=ids at*
   have hrm:((gmR (gmT L L.length)).map (fun p=>[AV.sl false 1 p.2]))[j]?=some [.sl false 1 (ixR ids)]:=by
    simp[gmR,hlk]
   clear hlg hpd hlk hids
   generalize (gmR (gmT L L.length)).map (·.1)=KM at*
   generalize (gmR (gmT L L.length)).map (fun p=>[AV.sl false 1 p.2])=RM at*
   repeat' (first|(refine ZN ?_)|(refine Z2 ?_ ?_)|(intro h h';try simp[*,-h] at h'))
   refine W_loopS (n:=ids.length+1) (fun s0 m s=> ∃i:Nat,ids.length - i<m∧i≤ids.length∧s.fr 1=s0.fr 1∧s.fr 3=s0.fr 3∧s.fr 4=s0.fr 4∧s.fr 5=s0.fr 5∧s.fr 7=bv false∧s.fr 21= .sl false 1 (ixR ids)∧s.fr 22=iv ids.length∧s.fr 23=iv i∧s.hp=s0.hp∧anyS (chk ⟨b0,b1,b2,b3⟩) L (ids.take i)=false) ⟨0,by omega,by omega,rfl,rfl,rfl,rfl,by simp,by simp,by simp,by simp,rfl,by simp[anyS]⟩ ?_
   rintro m ⟨fr,hp⟩ ⟨i,hm,hi,f1,f3,f4,f5,f7,f21,f22,f23,hh,hany⟩
   simp at f1 f3 f4 f5 f7 f21 f22 f23 hh
   subst hh
   by_cases hlt:i<ids.length
   ·have hiI:(i:Int)<ids.length:=by omega
    have hg:ids[i]?=some ids[i]:=List.getElem?_eq_getElem hlt
    have hwi:IntKind.i64.wrap ((i:Int)+1)=(i:Int)+1:=wrapN (by omega)
    obtain⟨s,hs,hsb⟩:=hidx.out _ (List.getElem_mem hlt)
    have hcs:=hchk.out s (List.mem_of_getElem? hs)
    have hat:=any_take (chk:=chk ⟨b0,b1,b2,b3⟩) hg hs
    have htr:=any_true (chk:=chk ⟨b0,b1,b2,b3⟩) hg hs
    generalize ids[i]=q at*
    have hgr:(ixR ids)[i]?=some [iv (q:Int)]:=by simp[hg]
    have hsr:(rowSg L)[q]?=some s.row:=by simp[hs]
    obtain⟨sb,si,so,sp⟩:=s
    simp only[Sg.row] at hsr
    simp only[Sg.av,Q.D4.row] at hcs
    clear hidx hchk hg hs hsb hlt
    generalize ixR ids=IR at*
    generalize rowSg L=RL at*
    cases hc:chk ⟨b0,b1,b2,b3⟩ ⟨sb,si,so,sp⟩ with
    |true=>
     have htr:=htr hc
     rw[hc] at hcs
     rw[htr] at hend
     rw[htr]
     clear hat hany hc htr
     repeat' (first|(refine ZN ?_)|(refine Z2 ?_ ?_)|(intro h h';try simp[*,-h] at h'))
     all_goals exact⟨rfl,hend.out _ _ rfl (by simp[*]),fun i c h=>by simp[*]⟩
    |false=>
     rw[hc] at hcs hat
     clear htr hc
     rw[hany] at hat
     clear hany
     replace hat:=Lib.hid hat
     repeat' (first|(refine ZN ?_)|(refine Z2 ?_ ?_)|(intro h h';try simp[*,-h] at h'))
     all_goals exact⟨ids.length - i,by omega,i+1,by omega,by omega,by simp[*],by simp[*],by simp[*],by simp[*],by simp[*],by simp[*],by simp[*],by simp[*],by simp[*],by simpa using hat.out⟩
   ·have hiI: ¬(i:Int)<ids.length:=by omega
    have hz:ids.take i=ids:=List.take_of_length_le (by omega)
    rw[hz] at hany
    rw[hany] at hend
    rw[hany]
    clear hany hz hidx hchk
    repeat' (first|(refine ZN ?_)|(refine Z2 ?_ ?_)|(intro h h';try simp[*,-h] at h'))
    all_goals exact⟨rfl,hend.out _ _ rfl (by simp[*]),fun i c h=>by simp[*]⟩
end
section
open Go Go.Ab
attribute [local simp] resultV lowerRes lowerV lowerAll
attribute [-simp] Prog.bind getCs putCs
attribute [local simp ↓] run_bind
attribute [local simp ↓] runF_bind
attribute [local simp] run_getCsN runF_getCsN runF_putCsN facetsC facetsW facetsH putCs_one run_putCsN
abbrev rowD (l:List Q.D4):List (List AV):=l.map Q.D4.row
def nmW (j:Nat):Nm:=⟨0,1000,j⟩
theorem nmW_inj : ∀i j,nmW i=nmW j→i=j:=fun i j h=>by simpa[nmW] using h
@[simp] theorem nmW_ne (i c j:Nat)(h:i<1000):((⟨0,i,c⟩:Nm)=nmW j)=False:=by simp[nmW];omega
@[simp] theorem nmW_ne' (i c j:Nat)(h:i<1000):(nmW j=(⟨0,i,c⟩:Nm))=False:=by simp[nmW];omega
structure Kp (need:Int)(Bs:List Q.D4)(mm:Q.D4)(L:List Sg)(s:AS):Prop where
 k3:s.fr 3= .ptr ⟨0,3,0⟩ 1 0
 k4:s.fr 4= .ptr ⟨0,4,0⟩ 1 0
 k5:s.fr 5= .ptr ⟨0,5,0⟩ 1 0
 k7:s.fr 7= .ptr ⟨0,7,0⟩ 1 0
 b3:s.hp ⟨0,3,0⟩= .box 1 [.sl false 4 (rowD Bs),iv need] false
 b4:s.hp ⟨0,4,0⟩= .box 1 mm.row false
 b5:s.hp ⟨0,5,0⟩= .box 1 [.sl false 7 (rowSg L)] false
theorem Kp.on {need:Int}{Bs:List Q.D4}{mm:Q.D4}{L:List Sg}{s s':AS}(h:Kp need Bs mm L s)(h1:s'.fr 3=s.fr 3∧s'.fr 4=s.fr 4∧s'.fr 5=s.fr 5∧s'.fr 7=s.fr 7)(h2:s'.hp ⟨0,3,0⟩=s.hp ⟨0,3,0⟩∧s'.hp ⟨0,4,0⟩=s.hp ⟨0,4,0⟩∧s'.hp ⟨0,5,0⟩=s.hp ⟨0,5,0⟩):Kp need Bs mm L s':=
 ⟨h1.1.trans h.k3,h1.2.1.trans h.k4,h1.2.2.1.trans h.k5,h1.2.2.2.trans h.k7,h2.1.trans h.b3,h2.2.1.trans h.b4,h2.2.2.trans h.b5⟩
def KM (L:List Sg):List Value:=(gmR (gmT L L.length)).map (·.1)
def RM (L:List Sg):List (List AV):=(gmR (gmT L L.length)).map fun p=>[AV.sl false 1 p.2]
def Fw (need:Int)(Bs:List Q.D4)(mm:Q.D4)(L:List Sg)(s:AS):Prop:=Kp need Bs mm L s∧s.hp ⟨0,7,0⟩= .box 1 [.mp ⟨0,15,0⟩ 1] false∧s.hp ⟨0,15,0⟩= .map 1 false [] [] false
def Fx (need:Int)(Bs:List Q.D4)(mm:Q.D4)(L:List Sg)(s:AS):Prop:=Kp need Bs mm L s∧s.hp ⟨0,7,0⟩= .box 1 [.dmp false (KM L) (RM L)] true
structure Lw (b0:Nat)(need:Int)(Bs:List Q.D4)(mm:Q.D4)(L:List Sg)(k:Nat)(s:AS):Prop extends Kp need Bs mm L s where
 k16:s.fr 16= .sl false 7 (rowSg L)
 k17:s.fr 17=iv L.length
 k18:s.fr 18=iv k
 b7:s.hp ⟨0,7,0⟩= .box 1 [.sc (.map (some b0))] true
theorem Wch_cons {P:Program}{E:Cfg}{k:Nat}{call:Orc}{R:Ex→AS→Prop}{F:AS→Prop}{c:Code}{cs:List Code}{s:AS}(h:W P E k call c s (thenW (Wch P E k call R F cs) R)):Wch P E k call R F (c::cs) s:=h
theorem Wch_nil {P:Program}{E:Cfg}{k:Nat}{call:Orc}{R:Ex→AS→Prop}{F:AS→Prop}{s:AS}(h:F s):Wch P E k call R F [] s:=h
theorem who_fill {X:Orc}(hX:OrcOk Tryz.prog X)(need:Int)(Bs:List Q.D4)(mm:Q.D4)(L:List Sg)(hL:L.length≤1000000){c2 c3 c4 c5 c6 z c0 c1:Code}(hbd:Tryz.f60.body=some (.seq c0 (.seq c1 (.seq (.seq c2 (.block 0 (.loop (.seq c3 (.seq (.cond (.tmp 19) .skip (.exit 0)) (.seq (.block 1 (.seq c4 c5)) c6)))))) z))))
  (K:Nat→Prop) (B:Base) (st:AS) (a:Act) (w:World) (Q:Exit→Act→World→Prop) (hF:Fw need Bs mm L st) (S:StR 0 52 K B st a w) (hQ: ∀st' a' w',Fx need Bs mm L st'→StR 0 52 K B st' a' w'→Q .normal a' w'):
  (Code.seq c2 (.block 0 (.loop (.seq c3 (.seq (.cond (.tmp 19) .skip (.exit 0)) (.seq (.block 1 (.seq c4 c5)) c6)))))).wp Tryz.prog Q a w:=by
 have hC:OrcOk Tryz.prog (lim Tryz.prog EW X):=lim_ok mixed6 EW_law hX
 cases hbd
 refine wp_seq ?_
 obtain⟨fr,hp⟩:=st
 obtain⟨hk,hb7,hb15⟩:=hF
 refine W.wp mixed6 EW_law hC (R:=fun e s=>e= .normal∧Kp need Bs mm L s∧s.fr 16= .sl false 7 (rowSg L)∧s.fr 17=iv L.length∧s.fr 18=iv (0:Nat)∧s.hp=hp) ?_ (by kernel_rfl) S (fun e s a1 w1 hr S1=>?_) (fun v hp' a' w' hr _=>nomatch hr.1)
 ·have k5:=hk.k5
  have b5:=hk.b5
  simp only at k5 b5
  repeat' (first|(refine ZN ?_)|(refine Z2 ?_ ?_)|(intro h h';try simp[*,-h] at h'))
  all_goals exact⟨rfl,hk.on (by simp) (by simp),by simp,by simp,by simp,rfl⟩
 obtain⟨rfl,hk1,k16,k17,k18,hh⟩:=hr
 show(Code.block 0 _).wp _ _ _ _
 obtain⟨fr1,hp1⟩:=s
 simp only at hh k16 k17 k18
 subst hh
 obtain⟨b0,SM⟩:=map_begin (nm:=nmW) (sz:=1) (e:=3) (x7:=⟨0,7,0⟩) (x15:=⟨0,15,0⟩) S1 hb15 hb7 (by simp)
 refine wp_block ?_
 refine wp_loopN (fun j a w=> ∃k s,j=L.length - k∧k≤L.length∧StM 52 K B b0 nmW 1 3 (gmR (gmT L k)) s a w∧Lw b0 need Bs mm L k s) (j:=L.length) ⟨0,_,by omega,by omega,SM,⟨hk1.on (by simp) (by simp[upd_other]),k16,k17,k18,by simp[upd_other]⟩⟩ ?_
 clear SM S1 hk1 k16 k17 k18 S hk hb7 hb15
 rintro j a w ⟨k,⟨fr,hp⟩,rfl,hk,SM,hl⟩
 refine wp_seq ?_
 refine SM.run mixed6 EW_law hC (R:=fun e s=>e= .normal∧Lw b0 need Bs mm L k s∧s.fr 19=bv (decide ((k:Int)<L.length))∧s.hp=hp) ?_ (by kernel_rfl) (fun v s hr=>nomatch hr.1) (fun e s hr j=>by rw[hr.2.2.2]) (fun e s a1 w1 hr SM1=>?_)
 ·have k17:=hl.k17
  have k18:=hl.k18
  simp only at k17 k18
  repeat' (first|(refine ZN ?_)|(refine Z2 ?_ ?_)|(intro h h';try simp[*,-h] at h'))
  all_goals exact⟨rfl,⟨hl.toKp.on (by simp) (by simp),by simpa using hl.k16,by simpa using hl.k17,by simpa using hl.k18,hl.b7⟩,by simp,rfl⟩
 obtain⟨rfl,hl1,k19,hh⟩:=hr
 show(Code.seq _ _).wp _ _ _ _
 refine wp_seq ?_
 have hev:=SM1.bool k19
 by_cases hlt:k<L.length
 ·rw[decide_eq_true (show(k:Int)<L.length by omega)] at hev
  refine wp_cond_true hev (wp_skip ?_)
  show(Code.seq _ _).wp _ _ _ _
  refine wp_seq (wp_block (wp_seq ?_))
  obtain⟨fr1,hp1⟩:=s
  simp only at hh
  subst hh
  have hg:L[k]?=some L[k]:=List.getElem?_eq_getElem hlt
  have hgm:gmT L (k+1)=addD L[k].b k (gmT L k):=by simp only[gmT,hg]
  have hgl:=gmT_len L k
  generalize L[k]=s at*
  refine SM1.run mixed6 EW_law hC (R:=fun e q=>e= .normal∧Lw b0 need Bs mm L k q∧q.fr 8=iv k∧(∃g,q.fr 9= .ptr ⟨0,9,0⟩ g 0∧q.hp ⟨0,9,0⟩= .box g s.row false)∧ ∀j,q.hp (nmW j)=hp1 (nmW j)) ?_ (by kernel_rfl) (fun v s hr=>nomatch hr.1) (fun e s hr=>hr.2.2.2.2) (fun e q a2 w2 hr SM2=>?_)
  ·have k16:=hl1.k16
   have k18:=hl1.k18
   have hsr:(rowSg L)[k]?=some s.row:=by simp[hg]
   simp only at k16 k18
   generalize hRL:rowSg L=RL at*
   obtain⟨sb,si,so,sp⟩:=s
   simp only[Sg.row] at hsr⊢
   clear hg hgm
   repeat' (first|(refine ZN ?_)|(refine Z2 ?_ ?_)|(intro h h';try simp[*,-h] at h'))
   all_goals exact⟨rfl,⟨hl1.toKp.on (by simp) (by simp[upd_other]),by simpa[hRL] using hl1.k16,by simpa using hl1.k17,by simpa using hl1.k18,by simpa[upd_other] using hl1.b7⟩,by simp,⟨_,by simp<;>rfl,by simp⟩,fun j=>by simp[upd_other]⟩
  obtain⟨rfl,hl2,k8,⟨g9,k9,b9⟩,hn2⟩:=hr
  show(Code.region 5 _ false).wp _ _ _ _
  obtain⟨fr2,hp2⟩:=q
  simp only at k8 k9 b9 hn2
  refine region_entryW (F:=fun q=>Lw b0 need Bs mm L k q∧q.fr 23= .sc (.map (some b0))∧q.fr 25= .agg [uv s.b.d0,uv s.b.d1,uv s.b.d2,uv s.b.d3]∧(∃g,q.fr 28= .own ⟨0,28,0⟩ g 1∧q.hp ⟨0,28,0⟩= .arr g 1 3 [[iv k]] false)∧ ∀j,q.hp (nmW j)=hp2 (nmW j)) (n:=5) (pre:=[_,_,_,_,_]) (key:=keyV s.b) (row:=[iv k]) EW_law hC SM2 rfl ?_ rfl rfl rfl rfl rfl rfl (kt:=24) (by kernel_rfl) ?_ nmW_inj (fun _=>rfl) ?_ (by decide) (by decide) (by decide) (by decide) ?_ (find_gm _ _ 0) hgl ?_
  ·have k7:=hl2.k7
   have b7:=hl2.b7
   simp only at k7 b7
   obtain⟨sb,si,so,sp⟩:=s
   simp only[Sg.row] at b9
   clear hg hgm
   repeat' (first|(refine ZN ?_)|(refine Z2 ?_ ?_)|(intro h h';try simp[*,-h] at h'))
   all_goals exact⟨⟨hl2.toKp.on (by simp) (by simp[upd_other]),by simpa using hl2.k16,by simpa using hl2.k17,by simpa using hl2.k18,by simpa[upd_other] using hl2.b7⟩,by simp,by simp,⟨_,by simp<;>rfl,by simp⟩,fun j=>by simp[upd_other]⟩
  ·intro u
   have h0:(Tryz.prog.info? 25).bind (·.zero)=some (.slice none 0 0):=by kernel_rfl
   obtain⟨i,h1,h2⟩:=Option.bind_eq_some_iff.1 h0
   simp[zeroValue,typeInfo,h1,h2]
  ·intro o ho z hz
   simp only[List.mem_cons,List.not_mem_nil,or_false] at ho
   rcases ho with rfl|rfl|rfl|rfl|rfl<;>(cases hz;decide)
  ·obtain⟨⟨d0,d1,d2,d3⟩,si,so,sp⟩:=s
   simp[keyV]
  ·rintro⟨fr3,hp3⟩ ⟨hl3,k23,k25,⟨g28,k28,b28⟩,hn3⟩
   simp only at k23 k25 k28 b28 hn3
   refine⟨hn3,k23,by rw[show(AS.mk fr3 hp3).fr 25=fr3 25 from rfl,k25];rfl,fun j g rows hj hr=>?_,fun j=>?_,fun hp4 a4 w4 ho4 SM4=>?_⟩
   ·have x1:rows.length+1≤9223372036854775807:=by omega
    have x2:(rows.length+1)*8≤140737488355328:=by omega
    simp only at hj⊢
    simp[k28,b28,hj,x1,x2]
   ·simp[k28,b28]
   ·show(Code.region 6 _ false).wp _ _ _ _
    rw[addG_gm,←hgm] at SM4
    refine SM4.run mixed6 EW_law hC (R:=fun e q=>e= .normal∧Lw b0 need Bs mm L (k+1) q∧ ∀j,q.hp (nmW j)=hp4 (nmW j)) ?_ (by kernel_rfl) (fun v s hr=>nomatch hr.1) (fun e s hr=>hr.2.2) (fun e q a5 w5 hr SM5=>?_)
    ·have k18:=hl3.k18
     simp only at k18
     have hwi:IntKind.i64.wrap ((k:Int)+1)=(k:Int)+1:=wrapN (by omega)
     have hk4:Kp need Bs mm L ⟨fun z=>if z=29∨z=26∨z=30∨z=31 then .any else fr3 z,hp4⟩:=hl3.toKp.on (by simp) ⟨ho4 _ (fun j=>by simp),ho4 _ (fun j=>by simp),ho4 _ (fun j=>by simp)⟩
     have hb4:=(ho4 ⟨0,7,0⟩ (fun j=>by simp)).trans hl3.b7
     have k16:=hl3.k16
     have k17:=hl3.k17
     simp only at k16 k17
     repeat' (first|(refine ZN ?_)|(refine Z2 ?_ ?_)|(intro h h';try simp[*,-h] at h'))
     all_goals exact⟨rfl,⟨hk4.on (by simp) (by simp),by simpa using k16,by simpa using k17,by simp,hb4⟩,fun j=>rfl⟩
    ·obtain⟨rfl,hl5,_⟩:=hr
     exact⟨L.length - (k+1),by omega,k+1,q,rfl,by omega,SM5,hl5⟩
 ·rw[decide_eq_false (show¬(k:Int)<L.length by omega)] at hev
  refine wp_cond_false hev (wp_exit ?_)
  have hkn:k=L.length:=by omega
  subst hkn
  obtain⟨hp',S3,h7,hoth⟩:=map_end Tryz.prog (x7:=⟨0,7,0⟩) SM1 nmW_inj hl1.b7 (fun j=>by simp)
  exact hQ _ _ _ ⟨hl1.toKp.on (by simp) ⟨hoth _ (by simp) (fun j=>by simp),hoth _ (by simp) (fun j=>by simp),hoth _ (by simp) (fun j=>by simp)⟩,h7⟩ S3
def whoT (chk:Q.D4→Sg→Bool)(L:List Sg)(Bs:List Q.D4):Nat→List Nat
 |0=>[]
 |k+1=>match Bs[k]? with
  |some b=>if ansP chk L b then whoT chk L Bs k++[k] else whoT chk L Bs k
  |none=>whoT chk L Bs k
theorem whoT_len (chk:Q.D4→Sg→Bool)(L:List Sg)(Bs:List Q.D4): ∀k,(whoT chk L Bs k).length≤k
 |0=>Nat.le_refl 0
 |k+1=>by
  have:=whoT_len chk L Bs k
  simp only[whoT]
  cases Bs[k]? with
  |none=>simp only;omega
  |some s=>simp only;split<;>simp<;>omega
theorem who_s {X:Orc}(hX:OrcOk Tryz.prog X)(h70: ∀k d a hp,X.hpc k d 70 a hp=none)(need:Int)(Bs:List Q.D4)(mm:Q.D4)(L:List Sg)(hL:L.length≤1000000)(hBs:Bs.length≤1000000)(chk:Q.D4→Sg→Bool)
  (hchk: ∀b∈Bs,∀s∈L,(lim Tryz.prog EW X).dat 71 [.agg b.row,.agg mm.row,s.av]=some [bv (chk b s)]):SemD Tryz.prog 60 [.agg [.sl false 4 (rowD Bs),iv need],.agg mm.row,.sl false 7 (rowSg L)] [.vec 1 (ixR (whoT chk L Bs Bs.length))]:=by
 have hC:OrcOk Tryz.prog (lim Tryz.prog EW X):=lim_ok mixed6 EW_law hX
 obtain⟨c0,c1,c2,c3,c4,c5,c6,z,hbd⟩: ∃c0 c1 c2 c3 c4 c5 c6 z,Tryz.f60.body=some (.seq c0 (.seq c1 (.seq (.seq c2 (.block 0 (.loop (.seq c3 (.seq (.cond (.tmp 19) .skip (.exit 0)) (.seq (.block 1 (.seq c4 c5)) c6)))))) z))):=⟨_,_,_,_,_,_,_,_,rfl⟩
 refine sem_split mixed6 EW_law hC Tryz.func60 (cs:=[c0,c1]) (F:=Fw need Bs mm L) (F':=Fx need Bs mm L) hbd bodyOk_60 rfl rtys_60 rvs_60 ?_ ⟨?_,?_⟩ (fun K B st a w Q hF S hQ=>who_fill hX need Bs mm L hL hbd K B st a w Q hF S hQ) ?_
 ·cases hbd
  obtain⟨m0,m1,m2,m3⟩:=mm
  simp only[Q.D4.row]
  have hfin: ∀s:AS,s.fr 3= .ptr ⟨0,3,0⟩ 1 0→s.fr 4= .ptr ⟨0,4,0⟩ 1 0→s.fr 5= .ptr ⟨0,5,0⟩ 1 0→s.fr 7= .ptr ⟨0,7,0⟩ 1 0→s.hp ⟨0,3,0⟩= .box 1 [.sl false 4 (rowD Bs),iv need] false→s.hp ⟨0,4,0⟩= .box 1 [uv m0,uv m1,uv m2,uv m3] false→s.hp ⟨0,5,0⟩= .box 1 [.sl false 7 (rowSg L)] false→s.hp ⟨0,7,0⟩= .box 1 [.mp ⟨0,15,0⟩ 1] false→s.hp ⟨0,15,0⟩= .map 1 false [] [] false→Fw need Bs ⟨m0,m1,m2,m3⟩ L s:=fun s h1 h2 h3 h4 h5 h6 h7 h8 h9=>⟨⟨h1,h2,h3,h4,h5,h6,h7⟩,h8,h9⟩
  generalize rowD Bs=RB at*
  generalize rowSg L=RL at*
  generalize Fw need Bs ⟨m0,m1,m2,m3⟩ L=FF at*
  replace hfin:=Lib.hid hfin
  repeat' (first|(refine ZN ?_)|(refine Z2 ?_ ?_)|(intro h h';try simp[*,-h] at h')|(with_reducible apply Wch_cons)|(with_reducible apply Wch_nil)|fail)
  all_goals (show FF _;refine hfin.out _ ?_ ?_ ?_ ?_ ?_ ?_ ?_ ?_ ?_<;>simp)
 ·cases hbd
  intro c hc
  simp only[List.mem_cons,List.not_mem_nil,or_false] at hc
  rcases hc with rfl|rfl<;>kernel_rfl
 ·cases hbd;kernel_rfl
 ·cases hbd
  rintro⟨fr,hp⟩ ⟨⟨k3,k4,k5,k7,b3,b4,b5⟩,b7⟩
  simp only at k3 k4 k5 k7 b3 b4 b5 b7
  have hBl:(rowD Bs).length=Bs.length:=by simp
  repeat' (first|(refine ZN ?_)|(refine Z2 ?_ ?_)|(intro h h';try simp[*,-h] at h'))
  generalize hga:(hp ⟨0,33,0⟩).gen=ga
  generalize hgb:(hp ⟨0,10,0⟩).gen=gb
  generalize hgc:(hp ⟨0,12,0⟩).gen=gc
  clear hga hgb hgc
  replace hchk:=Lib.hid hchk
  refine W_loopS (n:=Bs.length+1) (fun s0 m s=> ∃(i g:Nat) (kl:List Q.D4),Bs.length - i<m∧i≤Bs.length∧s.fr 10=s0.fr 10∧s.fr 11=s0.fr 11∧s.fr 36=s0.fr 36∧s.fr 37=s0.fr 37∧s.fr 38=iv i∧s.fr 12= .own ⟨0,12,0⟩ g (whoT chk L Bs i).length∧s.hp ⟨0,12,0⟩= .arr g 1 3 (ixR (whoT chk L Bs i)) false∧s.hp ⟨0,10,0⟩=s0.hp ⟨0,10,0⟩∧s.hp ⟨0,33,0⟩= .map (ga+1) false (kl.map keyV) (knR chk L kl) false∧s.hp ⟨0,4,0⟩= .box 1 mm.row false∧s.hp ⟨0,5,0⟩= .box 1 [.sl false 7 (rowSg L)] false∧s.hp ⟨0,7,0⟩= .box 1 [.dmp false (KM L) (RM L)] true) ⟨0,gc+1,[],by omega,by omega,rfl,rfl,rfl,rfl,by simp,by simp[whoT],by simp[whoT],rfl,by simp[knR],by simp[b4],by simp[b5],by simp[b7]⟩ ?_
  clear k3 k4 k5 k7 b3 b4 b5 b7
  rintro m ⟨fr1,hp1⟩ ⟨i,g,kl,hm,hi,f10,f11,f36,f37,f38,f12,b12,b10,b33,b4,b5,b7⟩
  simp at f10 f11 f36 f37 f38 f12 b10 b12 b33 b4 b5 b7
  have hwl:=whoT_len chk L Bs i
  by_cases hlt:i<Bs.length
  ·have hiI:(i:Int)<Bs.length:=by omega
   have hg:Bs[i]?=some Bs[i]:=List.getElem?_eq_getElem hlt
   have hwi:IntKind.i64.wrap ((i:Int)+1)=(i:Int)+1:=wrapN (by omega)
   have hws:whoT chk L Bs (i+1)=if ansP chk L Bs[i] then whoT chk L Bs i++[i] else whoT chk L Bs i:=by simp only[whoT,hg]
   have hcb:=hchk.out Bs[i] (List.getElem_mem hlt)
   generalize Bs[i]=b at*
   have hrow:(rowD Bs)[i]?=some b.row:=by simp[hg]
   obtain⟨m0,m1,m2,m3⟩:=mm
   obtain⟨d0,d1,d2,d3⟩:=b
   simp only[Q.D4.row] at hrow b4
   generalize rowD Bs=RB at*
   replace hcb:=Lib.hid hcb
   have e7:=Lib.hid b7
   replace hws:=Lib.hid hws
   have x1:(whoT chk L Bs i).length+1≤9223372036854775807:=by omega
   have x2:((whoT chk L Bs i).length+1)*8≤140737488355328:=by omega
   have x3:(ixR (whoT chk L Bs i)).length=(whoT chk L Bs i).length:=by simp
   generalize whoT chk L Bs i=WT at*
   generalize hIR:ixR WT=IR at*
   clear hg hchk hwl hlt hBl
   repeat' (first|(refine ZN ?_)|(refine Z2 ?_ ?_)|(intro h h';try simp[*,-h] at h')|((with_reducible apply Wo_call (f:=70));(iterate 5 exact Z5);(apply(agrees_w h70 L hL chk ⟨d0,d1,d2,d3⟩ ⟨m0,m1,m2,m3⟩ hcb.out kl (gk:=ga+1)));(focus (simp[*];done));(focus (simp[*];done));(focus (refine Eq.trans ?_ e7.out;simp[*];done));(focus (simp[*,Q.D4.row];done));(focus (simp[*];done));rotate_left;(rintro _ _ h;exact h.elim);(rintro _ hp2 ⟨rfl,⟨kl2,c33⟩,hfr⟩;have c10:hp2 ⟨0,10,0⟩= .box (gb+1) [.mp ⟨0,33,0⟩ (ga+1)] false:=(hfr 10 0 (by decide)).trans (by simp[b10]);have c12:hp2 ⟨0,12,0⟩= .arr g 1 3 IR false:=(hfr 12 0 (by decide)).trans (by simp[b12]);have c4:hp2 ⟨0,4,0⟩= .box 1 [uv m0,uv m1,uv m2,uv m3] false:=(hfr 4 0 (by decide)).trans (by simp[b4]);have c5:hp2 ⟨0,5,0⟩= .box 1 [.sl false 7 (rowSg L)] false:=(hfr 5 0 (by decide)).trans (by simp[b5]);have c7:hp2 ⟨0,7,0⟩= .box 1 [.dmp false (KM L) (RM L)] true:=(hfr 7 0 (by decide)).trans (by simp[b7]);clear hfr;cases hans:ansP chk L ⟨d0,d1,d2,d3⟩))|fail)
   ·have hws2:=hws.out
    rw[hans] at hws2
    simp only[Bool.false_eq_true,if_false] at hws2
    exact⟨Bs.length - i,by omega,i+1,g,kl2,by omega,by omega,by simp[*],by simp[*],by simp[*],by simp[*],by simp[*],by rw[hws2];simp[*],by rw[hws2];simp[*],by simp[*],by simp[*],by simp[*,Q.D4.row],by simp[*],by simp[*]⟩
   ·have hws2:=hws.out
    rw[hans] at hws2
    simp only[if_true] at hws2
    exact⟨Bs.length - i,by omega,i+1,g+1,kl2,by omega,by omega,by simp[*],by simp[*],by simp[*],by simp[*],by simp[*],by rw[hws2];simp[*],by rw[hws2];simp[←hIR],by simp[*],by simp[*],by simp[*,Q.D4.row],by simp[*],by simp[*]⟩
  ·have hiI: ¬(i:Int)<Bs.length:=by omega
   have hin:i=Bs.length:=by omega
   subst hin
   have x3:(ixR (whoT chk L Bs Bs.length)).length=(whoT chk L Bs Bs.length).length:=by simp
   generalize whoT chk L Bs Bs.length=WT at*
   have tk:(ixR WT).take WT.length=ixR WT:=List.take_of_length_le (by simp)
   generalize ixR WT=IR at*
   clear hchk
   repeat' (first|(refine ZN ?_)|(refine Z2 ?_ ?_)|(intro h h';try simp[*,-h] at h'))
   all_goals first|rfl|simp[*]
end
section
open Go Go.Ab
attribute [-simp] Prog.bind getCs putCs
attribute [local simp ↓] run_bind
attribute [local simp ↓] runF_bind
attribute [local simp] run_getCsN runF_getCsN runF_putCsN facetsC facetsW facetsH putCs_one run_putCsN
theorem right_w {X:Orc}(F:F7 X)(l:List ByteArray)(hl:l.length≤12)(hz: ∀x∈l,x.size≤1000000): ∃rs,(lim Tryz.prog E7 X).dat 18 [.agg [.sl false 1 (rowS l)]]=some rs∧ ∃b,rs=[bv b]:=by
 refine fnR (P:=Tryz.prog) (E:=E7) (X:=X) Tryz.func18 (F.hX _ _ rfl) rfl bodyOk_18 rfl rtys_18 rvs_18 ?_
 have h16:=(digR_w F) l (by omega) hz
 have hRl:(rowS l).length=l.length:=by simp
 have hGl:(rowG (l.map Q.ofP)).length=l.length:=by simp
 have hGg: ∀j,j<l.length→ ∃a0 a1 a2 a3,∀h,(rowG (l.map Q.ofP))[j]'h=[uv a0,uv a1,uv a2,uv a3]:=fun j hj=>⟨(Q.ofP l[j]).d0,(Q.ofP l[j]).d1,(Q.ofP l[j]).d2,(Q.ofP l[j]).d3,fun h=>by simp[Q.D4.row]⟩
 have hGK:=Lib.hid hGg
 have n1: ¬(1000:Int)<l.length:=by omega
 clear hz hGg
 generalize rowG (l.map Q.ofP)=RG at*
 generalize rowS l=RS at*
 repeat' (first|(refine ZN ?_)|(refine Z2 ?_ ?_)|(intro h h';try simp[*,-h] at h'))
 refine W_loopS (n:=l.length) (fun s0 m q=> ∃k:Nat,m=l.length - k∧k≤l.length∧q.fr 4=iv k∧q.fr 3=s0.fr 3∧q.hp ⟨0,11,0⟩=s0.hp ⟨0,11,0⟩) ⟨0,by simp,by omega,by simp,by simp,by simp⟩ ?_
 rintro m ⟨fr,hp⟩ ⟨k,rfl,hk,hs4,hs3,hh11⟩
 simp at hs4 hs3 hh11
 by_cases hlt:k<l.length
 ·have hw:=wrapN (k:=k) (by omega)
  have hlI:(k:Int)<l.length:=by omega
  obtain⟨a0,a1,a2,a3,hga⟩:=hGK.out k hlt
  repeat' (first|(refine ZN ?_)|(refine Z2 ?_ ?_)|(intro h h';try simp[*,-h] at h'))
  refine W_loopS (n:=k) (fun s0 m q=> ∃j:Nat,m=k - j∧j≤k∧q.fr 5=iv j∧q.fr 4=s0.fr 4∧q.fr 3=s0.fr 3∧q.hp ⟨0,11,0⟩=s0.hp ⟨0,11,0⟩) ⟨0,by simp,by omega,by simp,by simp,by simp,by simp⟩ ?_
  rintro m ⟨fr',hp'⟩ ⟨j,rfl,hj,gs5,gs4,gs3,gh11⟩
  simp[hs4,hs3,hh11] at gs5 gs4 gs3 gh11
  by_cases hjt:j<k
  ·have hw2:=wrapN (k:=j) (by omega)
   have hjI:(j:Int)<k:=by omega
   have hjl:j<l.length:=by omega
   obtain⟨b0,b1,b2,b3,hgb⟩:=hGK.out j hjl
   repeat' (first|(refine ZN ?_)|(refine Z2 ?_ ?_)|(intro h h';try simp[*,-h] at h'))
   all_goals first
    |exact⟨_,rfl⟩
    |exact⟨_,by omega,j+1,rfl,hjt,by simp[*],by simp[*],by simp[*],by simp[*]⟩
  ·obtain rfl:j=k:=by omega
   repeat' (first|(refine ZN ?_)|(refine Z2 ?_ ?_)|(intro h h';try simp[*,-h] at h'))
   all_goals exact⟨_,by omega,j+1,rfl,hlt,by simp[*],by simp[*],by simp[*]⟩
 ·obtain rfl:k=l.length:=by omega
  repeat' (first|(refine ZN ?_)|(refine Z2 ?_ ?_)|(intro h h';try simp[*,-h] at h'))
  all_goals exact⟨_,rfl⟩
theorem few_w {X:Orc}(F:F7 X)(l:List ByteArray): ∃rs,(lim Tryz.prog E7 X).dat 17 [.agg [.sl false 1 (rowS l)],iv 12,iv 1000]=some rs∧ ∃v,rs=[bv v]∧(v=true→l.length≤12∧ ∀x∈l,x.size≤1000):=by
 refine fnR (P:=Tryz.prog) (E:=E7) (X:=X) (R:=fun rs=> ∃v,rs=[bv v]∧(v=true→l.length≤12∧ ∀x∈l,x.size≤1000)) Tryz.func17 (F.hX _ _ rfl) rfl bodyOk_17 rfl rtys_17 rvs_17 ?_
 have hRl:(rowS l).length=l.length:=by simp
 repeat' (first|(refine ZN ?_)|(refine Z2 ?_ ?_)|(intro h h';try simp[*,-h] at h'))
 refine W_loopS (n:=20) (fun s0 m q=> ∃k:Nat,m=20 - k∧k≤l.length∧k≤13∧(∀x∈l.take k,x.size≤1000)∧q.fr 7=iv k∧q.fr 1=s0.fr 1∧q.fr 2=s0.fr 2∧q.fr 3=s0.fr 3∧q.hp ⟨0,3,0⟩=s0.hp ⟨0,3,0⟩) ⟨0,by simp,by omega,by omega,by simp,by simp,by simp,by simp,by simp,by simp⟩ ?_
 rintro m ⟨fr,hp⟩ ⟨k,rfl,hk,hk13,hf,hs7,hs1,hs2,hs3,hh3⟩
 simp at hs7 hs1 hs2 hs3 hh3
 by_cases hlt:k<l.length
 ·have hlI:(k:Int)<l.length:=by omega
  by_cases h12:k≤12
  ·have hw:=wrapN (k:=k) (by omega)
   have hk12:(k:Int)≤12:=by omega
   have hg:(rowS l)[k]?=some [.sc (.string l[k])]:=by rw[List.getElem?_map,List.getElem?_eq_getElem hlt];rfl
   have hg2: ∀h,(rowS l)[k]'h=[.sc (.string l[k])]:=fun h=>by simp
   by_cases hx:l[k].size≤1000
   ·have hx': ¬(1000:Int)<l[k].size:=by omega
    have hf': ∀x∈l.take (k+1),x.size≤1000:=by
     rw[List.take_add_one,List.getElem?_eq_getElem hlt]
     intro x hxm
     rcases List.mem_append.1 hxm with h|h
     ·exact hf x h
     ·simp at h;subst h;exact hx
    have hfK:=Lib.hid hf'
    clear hf hf' hx
    generalize l[k]=x at*
    generalize rowS l=RS at*
    repeat' (first|(refine ZN ?_)|(refine Z2 ?_ ?_)|(intro h h';try simp[*,-h] at h'))
    all_goals exact⟨_,by omega,k+1,rfl,hlt,by omega,hfK.out,by simp[*],by simp[*],by simp[*],by simp[*],by simp[*]⟩
   ·have hx':(1000:Int)<l[k].size:=by omega
    clear hf hx
    generalize l[k]=x at*
    generalize rowS l=RS at*
    repeat' (first|(refine ZN ?_)|(refine Z2 ?_ ?_)|(intro h h';try simp[*,-h] at h'))
    all_goals exact⟨false,rfl,fun h=>nomatch h⟩
  ·have hk12: ¬(k:Int)≤12:=by omega
   have hl12: ¬(l.length:Int)≤12:=by omega
   clear hf
   generalize rowS l=RS at*
   repeat' (first|(refine ZN ?_)|(refine Z2 ?_ ?_)|(intro h h';try simp[*,-h] at h'))
   all_goals exact⟨false,by simp[*],fun h=>nomatch h⟩
 ·obtain rfl:k=l.length:=by omega
  rw[List.take_of_length_le (Nat.le_refl _)] at hf
  have hfK:=Lib.hid hf
  by_cases h12:l.length≤12
  ·have hl12:(l.length:Int)≤12:=by omega
   clear hf
   generalize rowS l=RS at*
   repeat' (first|(refine ZN ?_)|(refine Z2 ?_ ?_)|(intro h h';try simp[*,-h] at h'))
   all_goals exact⟨true,by simp[*],fun _=>⟨h12,hfK.out⟩⟩
  ·have hl12: ¬(l.length:Int)≤12:=by omega
   clear hf
   generalize rowS l=RS at*
   repeat' (first|(refine ZN ?_)|(refine Z2 ?_ ?_)|(intro h h';try simp[*,-h] at h'))
   all_goals exact⟨false,by simp[*],fun h=>nomatch h⟩
theorem short_w {X:Orc}(F:F7 X)(L:List Sg): ∃rs,(lim Tryz.prog E7 X).dat 16 [.sl false 7 (rowSg L)]=some rs∧ ∃v,rs=[bv v]∧(v=true→L.length≤8):=by
 refine fnR (P:=Tryz.prog) (E:=E7) (X:=X) (R:=fun rs=> ∃v,rs=[bv v]∧(v=true→L.length≤8)) Tryz.func16 (F.hX _ _ rfl) rfl bodyOk_16 rfl rtys_16 rvs_16 ?_
 have hRl:(rowSg L).length=L.length:=by simp
 by_cases h8:L.length≤8
 ·have hl8: ¬(8:Int)<L.length:=by omega
  repeat' (first|(refine ZN ?_)|(refine Z2 ?_ ?_)|(intro h h';try simp[*,-h] at h'))
  refine W_loopS (n:=L.length) (fun s0 m q=> ∃k:Nat,m=L.length - k∧k≤L.length∧q.fr 3=iv k∧q.fr 0=s0.fr 0) ⟨0,by simp,by omega,by simp,by simp⟩ ?_
  rintro m ⟨fr,hp⟩ ⟨k,rfl,hk,hs3,hs0⟩
  simp at hs3 hs0
  by_cases hlt:k<L.length
  ·have hlI:(k:Int)<L.length:=by omega
   have hw:=wrapN (k:=k) (by omega)
   obtain⟨b0,b1,b2,b3,i,one,path,hg2⟩: ∃b0 b1 b2 b3 i one path,∀h,(rowSg L)[k]'h=[uv b0,uv b1,uv b2,uv b3,iv i,.sl false 4 one,.sl false 4 path]:=⟨L[k].b.d0,L[k].b.d1,L[k].b.d2,L[k].b.d3,L[k].i,L[k].one,L[k].path,fun h=>by simp[Sg.row]⟩
   generalize rowSg L=RS at*
   repeat' (first|(refine ZN ?_)|(refine Z2 ?_ ?_)|(intro h h';try simp[*,-h] at h'))
   all_goals first
    |exact⟨_,rfl,fun _=>h8⟩
    |exact⟨_,by omega,k+1,rfl,hlt,by simp[*],by simp[*]⟩
  ·obtain rfl:k=L.length:=by omega
   generalize rowSg L=RS at*
   repeat' (first|(refine ZN ?_)|(refine Z2 ?_ ?_)|(intro h h';try simp[*,-h] at h'))
   all_goals exact⟨_,rfl,fun _=>h8⟩
 ·have hl8:(8:Int)<L.length:=by omega
  generalize rowSg L=RS at*
  repeat' (first|(refine ZN ?_)|(refine Z2 ?_ ?_)|(intro h h';try simp[*,-h] at h'))
  all_goals exact⟨false,rfl,fun h=>nomatch h⟩
end
section
open Go Go.Ab
def inL (L:List Sg)(b:Q.D4):Bool:=L.any fun s=>eqD s.b b
def seatN (L:List Sg)(Bs:List Q.D4):Nat:=(Bs.filter (inL L)).length
theorem seatN_le (L:List Sg)(Bs:List Q.D4):seatN L Bs≤Bs.length:=List.length_filter_le ..
theorem seatN_step {L:List Sg}{Bs:List Q.D4}{k:Nat}(hk:k<Bs.length):seatN L (Bs.take (k+1))=seatN L (Bs.take k)+if inL L Bs[k] then 1 else 0:=by
 unfold seatN
 rw[List.take_add_one,List.getElem?_eq_getElem hk,List.filter_append,List.length_append]
 congr 1
 simp only[Option.toList]
 cases h:inL L Bs[k]<;>simp[h]
theorem inL_take {L:List Sg}{b:Q.D4}{j:Nat}(hj:j<L.length):inL (L.take (j+1)) b=(inL (L.take j) b||eqD L[j].b b):=by
 unfold inL
 rw[List.take_add_one,List.getElem?_eq_getElem hj,List.any_append]
 simp
theorem inL_yes {L:List Sg}{b:Q.D4}{j:Nat}(hj:j<L.length)(h:eqD L[j].b b=true):inL L b=true:=List.any_eq_true.2 ⟨_,List.getElem_mem hj,h⟩
theorem idxT_in {L:List Sg}{b:Q.D4}{k:Nat}(hk:k≤L.length)(h:idxT L b k≠[]):inL L b=true:=by
 cases hl:idxT L b k with
 |nil=>exact absurd hl h
 |cons i r=>
  obtain⟨s,h1,h2⟩:=idxT_lt L b k hk i (by rw[hl];exact List.mem_cons_self ..)
  refine List.any_eq_true.2 ⟨s,List.mem_of_getElem? h1,?_⟩
  rw[h2];exact eqD_refl b
theorem ansP_in {chk:Q.D4→Sg→Bool}{L:List Sg}{b:Q.D4}(h:ansP chk L b=true):inL L b=true:=by
 refine idxT_in (k:=L.length) (Nat.le_refl _) fun he=>?_
 unfold ansP at h
 rw[he] at h
 simp[anyS] at h
attribute [-simp] Prog.bind getCs putCs
attribute [local simp ↓] run_bind
attribute [local simp ↓] runF_bind
attribute [local simp] run_getCsN runF_getCsN runF_putCsN facetsC facetsW facetsH putCs_one run_putCsN
theorem seats_w {X:Orc}(F:F7 X)(L:List Sg)(Bs:List Q.D4)(need:Int)(hL:L.length≤1000000)(hB:Bs.length≤1000000):(lim Tryz.prog E7 X).dat 9 [.agg [.sl false 4 (rowG Bs),iv need],.sl false 7 (rowSg L)]=some [iv (seatN L Bs)]:=by
 refine fnW (P:=Tryz.prog) (E:=E7) (X:=X) Tryz.func9 (F.hX _ _ rfl) rfl bodyOk_9 rfl rtys_9 rvs_9 ?_
 have hBl:(rowG Bs).length=Bs.length:=by simp
 have hSl:(rowSg L).length=L.length:=by simp
 have hBK:=Lib.hid (show∀j (hj:j<Bs.length),∃a0 a1 a2 a3,(∀h,(rowG Bs)[j]'h=[uv a0,uv a1,uv a2,uv a3])∧Bs[j]=⟨a0,a1,a2,a3⟩ from fun j hj=>⟨Bs[j].d0,Bs[j].d1,Bs[j].d2,Bs[j].d3,fun h=>by simp[Q.D4.row],rfl⟩)
 have hSK:=Lib.hid (show∀j (hj:j<L.length),∃b0 b1 b2 b3 i one path,(∀h,(rowSg L)[j]'h=[uv b0,uv b1,uv b2,uv b3,iv i,.sl false 4 one,.sl false 4 path])∧L[j].b=⟨b0,b1,b2,b3⟩ from fun j hj=>⟨L[j].b.d0,L[j].b.d1,L[j].b.d2,L[j].b.d3,L[j].i,L[j].one,L[j].path,fun h=>by simp[Sg.row],rfl⟩)
 have hs0:seatN L []=0:=rfl
 have hsB:seatN L (Bs.take Bs.length)=seatN L Bs:=by rw[List.take_of_length_le (Nat.le_refl _)]
 have hsK:=Lib.hid (show∀k,seatN L (Bs.take k)≤1000000 from fun k=>Nat.le_trans (seatN_le _ _) (by rw[List.length_take];omega))
 generalize rowG Bs=RB at*
 generalize rowSg L=RS at*
 repeat' (first|(refine ZN ?_)|(refine Z2 ?_ ?_)|(intro h h';try simp[*,-h] at h'))
 refine W_loopS (n:=Bs.length) (fun s0 m q=> ∃k:Nat,m=Bs.length - k∧k≤Bs.length∧q.fr 6=iv k∧q.fr 5=iv (seatN L (Bs.take k):Nat)∧q.fr 1=s0.fr 1∧q.fr 2=s0.fr 2∧q.hp ⟨0,2,0⟩=s0.hp ⟨0,2,0⟩) ⟨0,by simp,by omega,by simp,by simp[hs0],by simp,by simp,by simp⟩ ?_
 rintro m ⟨fr,hp⟩ ⟨k,rfl,hk,hs6,hs5,hs1,hs2,hh2⟩
 simp at hs6 hs5 hs1 hs2 hh2
 by_cases hlt:k<Bs.length
 ·have hlI:(k:Int)<Bs.length:=by omega
  have hw:=wrapN (k:=k) (by omega)
  obtain⟨a0,a1,a2,a3,hga,hBk⟩:=hBK.out k hlt
  have hst:=seatN_step (L:=L) hlt
  rw[hBk] at hst
  have hsz:=hsK.out k
  have hw5:=wrapN (k:=seatN L (Bs.take k)) (by omega)
  generalize hsv:seatN L (Bs.take k)=sv at*
  generalize hsv1:seatN L (Bs.take (k+1))=sv1 at*
  repeat' (first|(refine ZN ?_)|(refine Z2 ?_ ?_)|(intro h h';try simp[*,-h] at h'))
  refine W_loopS (n:=L.length) (fun s0 m q=> ∃j:Nat,m=L.length - j∧j≤L.length∧inL (L.take j) ⟨a0,a1,a2,a3⟩=false∧q.fr 7=iv j∧q.fr 6=s0.fr 6∧q.fr 5=s0.fr 5∧q.fr 1=s0.fr 1∧q.fr 2=s0.fr 2∧q.hp ⟨0,2,0⟩=s0.hp ⟨0,2,0⟩) ⟨0,by simp,by omega,by simp[inL],by simp,by simp,by simp,by simp,by simp,by simp⟩ ?_
  rintro m ⟨fr',hp'⟩ ⟨j,rfl,hj,hin,gs7,gs6,gs5,gs1,gs2,gh2⟩
  simp[hs6,hs5,hs1,hs2,hh2] at gs7 gs6 gs5 gs1 gs2 gh2
  by_cases hjt:j<L.length
  ·have hjI:(j:Int)<L.length:=by omega
   have hw2:=wrapN (k:=j) (by omega)
   obtain⟨b0,b1,b2,b3,i,one,path,hgb,hLj⟩:=hSK.out j hjt
   have ht:=inL_take (b:=⟨a0,a1,a2,a3⟩) hjt
   rw[hin,hLj,Bool.false_or] at ht
   have hy:=inL_yes (b:=⟨a0,a1,a2,a3⟩) hjt
   rw[hLj] at hy
   simp only[eqD] at ht hy
   cases hE:(b0==a0&&(b1==a1&&(b2==a2&&(b3==a3&&true)))) with
   |true=>
    rw[hy hE] at hst
    simp only[if_true] at hst
    clear ht hy hin
    obtain⟨rfl,rfl,rfl,rfl⟩:b0=a0∧b1=a1∧b2=a2∧b3=a3:=by simpa using hE
    repeat' (first|(refine ZN ?_)|(refine Z2 ?_ ?_)|(intro h h';try simp[*,-h] at h'))
    all_goals exact⟨_,by omega,k+1,rfl,hlt,by simp[*],by simp[*],by simp[*],by simp[*],by simp[*]⟩
   |false=>
    rw[hE] at ht
    simp only[Bool.and_true] at hE
    have htK:=Lib.hid ht
    clear ht hy hin hst
    repeat' (first|(refine ZN ?_)|(refine Z2 ?_ ?_)|(intro h h';try simp[*,-h] at h'))
    all_goals exact⟨_,by omega,j+1,rfl,hjt,htK.out,by simp[*],by simp[*],by simp[*],by simp[*],by simp[*],by simp[*]⟩
  ·obtain rfl:j=L.length:=by omega
   rw[List.take_of_length_le (Nat.le_refl _)] at hin
   rw[hin] at hst
   simp only[Bool.false_eq_true,if_false,Nat.add_zero] at hst
   clear hin
   repeat' (first|(refine ZN ?_)|(refine Z2 ?_ ?_)|(intro h h';try simp[*,-h] at h'))
   all_goals exact⟨_,by omega,k+1,rfl,hlt,by simp[*],by simp[*],by simp[*],by simp[*],by simp[*]⟩
 ·obtain rfl:k=Bs.length:=by omega
  rw[hsB] at hs5
  repeat' (first|(refine ZN ?_)|(refine Z2 ?_ ?_)|(intro h h';try simp[*,-h] at h'))
  all_goals rfl
end
end Go.Proofs.YtpedpkegmalgmaaGreatDoor
