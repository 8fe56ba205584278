/- A part of the proof: Uv, Uw, Ux, Ua, Ub, Uc, Ya, Pa, Pb, Pc, Pd. -/
import Derived.Test.YtpedpkegmalgmaaGreatDoorV10
import Derived.Test.YtpedpkegmalgmaaGreatDoorV12
import Derived.Lib.Hide
import Derived.Test.YtpedpkegmalgmaaGreatDoorV13
import Derived.Test.YtpedpkegmalgmaaGreatDoorV08
import Derived.Test.YtpedpkegmalgmaaGreatDoorV00
import Derived.Test.YtpedpkegmalgmaaGreatDoorV05
set_option linter.unusedSimpArgs false
set_option linter.unusedVariables false
set_option maxRecDepth 200000
set_option maxHeartbeats 8000000
namespace Go.Proofs.YtpedpkegmalgmaaGreatDoor
section
open Go Go.Ab
def EW :Cfg:={eq:=fun t=>t==24,hp:=fun f=>f==70,yl:=fun _=>false}
@[simp] theorem EW_eq (t:Nat):EW.eq t=(t==24):=rfl
@[simp] theorem EW_hp (f:Nat):EW.hp f=(f==70):=rfl
@[simp] theorem EW_off :EW.off=0:=rfl
@[simp] theorem EW_ws :EW.ws=0:=rfl
@[simp] theorem EW_cl :EW.cl=false:=rfl
@[simp] theorem EW_frz (f:Nat):EW.frz f=false:=rfl
@[simp] theorem EW_inl (f:Nat):EW.inl f=false:=rfl
@[simp] theorem EW_bx (t:Nat):EW.bx t=false:=rfl
theorem EW_law :ELaw Tryz.prog EW:=by
 refine⟨fun t ht w x y us vs b h1 h2 h=>?_,fun _=>rfl⟩
 simp only[EW_eq,beq_iff_eq] at ht
 subst ht
 exact array_law (by kernel_rfl) (by kernel_rfl) (by kernel_rfl) w x y us vs b h1 h2 h
def eqD (a b:Q.D4):Bool:=a.d0==b.d0&&(a.d1==b.d1&&(a.d2==b.d2&&(a.d3==b.d3&&true)))
theorem eqD_iff (a b:Q.D4):eqD a b=true↔a=b:=by cases a;cases b;simp[eqD]
theorem eqD_refl (a:Q.D4):eqD a a=true:=(eqD_iff a a).2 rfl
def keyV (b:Q.D4):Value:= .agg ⟨[.int .u32 b.d0,.int .u32 b.d1,.int .u32 b.d2,.int .u32 b.d3]⟩
theorem keyEq_V (a b:Q.D4):keyEq (keyV a) (keyV b)=some (eqD a b):=by simp[keyEq,keyV,eqL,eqV,eqD]
abbrev Gm :=List (Q.D4×List Nat)
abbrev ixR (l:List Nat):List (List AV):=l.map fun(i:Nat)=>[iv (i:Int)]
def gmR (g:Gm):List (Value×List (List AV)):=g.map fun p=>(keyV p.1,ixR p.2)
def posD (b:Q.D4):Gm→Option Nat
 |[]=>none
 |(c,_)::g=>if eqD b c then some 0 else(posD b g).map (· +1)
def addD (b:Q.D4)(i:Nat):Gm→Gm
 |[]=>[(b,[i])]
 |(c,l)::g=>if eqD b c then(c,l++[i])::g else(c,l)::addD b i g
def lookD (b:Q.D4):Gm→List Nat
 |[]=>[]
 |(c,l)::g=>if eqD b c then l else lookD b g
theorem find_gm (b:Q.D4): ∀(g:Gm) (n:Nat),findK (keyV b) ((gmR g).map (·.1)) n=some ((posD b g).map (· +n))
 |[],n=>rfl
 |(c,l)::g,n=>by
  simp only[gmR,List.map_cons,findK,keyEq_V,posD]
  cases h:eqD b c with
  |true=>simp
  |false=>
   have ih:=find_gm b g (n+1)
   unfold gmR at ih
   simp only[ih]
   cases posD b g<;>simp
   omega
theorem addG_gm (b:Q.D4)(i:Nat)(g:Gm):addG (keyV b) [iv (i:Int)] (gmR g)=gmR (addD b i g):=by
 unfold addG
 rw[find_gm]
 have key: ∀g:Gm,(match posD b g with
  |some j=>(gmR g).modify j fun p=>(p.1,p.2++[[iv (i:Int)]])
  |none=>gmR g++[(keyV b,[[iv (i:Int)]])])=gmR (addD b i g):=by
  intro g
  induction g with
  |nil=>rfl
  |cons x g ih=>
   obtain⟨c,l⟩:=x
   simp only[posD,addD]
   cases h:eqD b c with
   |true=>simp[gmR]
   |false=>
    simp only[Bool.false_eq_true,if_false]
    cases hp:posD b g with
    |none=>
     rw[hp] at ih
     simp only[Option.map_none] at ih⊢
     show _=(keyV c,ixR l)::gmR (addD b i g)
     rw[←ih]
     rfl
    |some j=>
     rw[hp] at ih
     simp only[Option.map_some] at ih⊢
     show _=(keyV c,ixR l)::gmR (addD b i g)
     rw[←ih]
     rfl
 have hk:=key g
 cases hp:posD b g with
 |none=>rw[hp] at hk;simpa using hk
 |some j=>rw[hp] at hk;simpa using hk
theorem look_pos (b:Q.D4): ∀g:Gm,match posD b g with
  |some j=> ∃c,g[j]?=some (c,lookD b g)
  |none=>lookD b g=[]
 |[]=>rfl
 |(c,l)::g=>by
  have ih:=look_pos b g
  simp only[posD,lookD]
  cases h:eqD b c with
  |true=>simp
  |false=>
   simp only[Bool.false_eq_true,if_false]
   cases hp:posD b g with
   |none=>rw[hp] at ih;exact ih
   |some j=>
    rw[hp] at ih
    obtain⟨c',ih⟩:=ih
    exact⟨c',by simpa using ih⟩
theorem look_add (b c:Q.D4)(i:Nat): ∀g:Gm,lookD c (addD b i g)=if eqD c b then lookD c g++[i] else lookD c g
 |[]=>by
  simp only[addD,lookD]
  cases eqD c b<;>rfl
 |(x,l)::g=>by
  have ih:=look_add b c i g
  simp only[addD]
  cases h:eqD b x with
  |true=>
   have e:=(eqD_iff _ _).1 h
   subst e
   simp only[if_true,lookD]
   cases eqD c b<;>rfl
  |false=>
   simp only[Bool.false_eq_true,if_false,lookD]
   cases h2:eqD c x with
   |true=>
    have e:=(eqD_iff _ _).1 h2
    subst e
    have:eqD c b=false:=by
     cases h3:eqD c b with
     |false=>rfl
     |true=>rw[(eqD_iff _ _).1 h3,eqD_refl] at h;cases h
    simp[this]
   |false=>simpa using ih
structure Sg where
 b:Q.D4
 i:Int
 one:List (List AV)
 path:List (List AV)
def Sg.row (s:Sg):List AV:=[uv s.b.d0,uv s.b.d1,uv s.b.d2,uv s.b.d3,iv s.i,.sl false 4 s.one,.sl false 4 s.path]
abbrev rowSg (L:List Sg):List (List AV):=L.map Sg.row
def Sg.av (s:Sg):AV:= .agg [iv s.i,.sl false 4 s.one,.sl false 4 s.path]
def gmT (L:List Sg):Nat→Gm
 |0=>[]
 |k+1=>match L[k]? with
  |some s=>addD s.b k (gmT L k)
  |none=>gmT L k
def idxT (L:List Sg)(b:Q.D4):Nat→List Nat
 |0=>[]
 |k+1=>match L[k]? with
  |some s=>if eqD b s.b then idxT L b k++[k] else idxT L b k
  |none=>idxT L b k
theorem look_gmT (L:List Sg)(b:Q.D4): ∀k,lookD b (gmT L k)=idxT L b k
 |0=>rfl
 |k+1=>by
  simp only[gmT,idxT]
  cases L[k]? with
  |none=>exact look_gmT L b k
  |some s=>simp only[look_add,look_gmT L b k]
theorem idxT_lt (L:List Sg)(b:Q.D4): ∀k,k≤L.length→ ∀i∈idxT L b k,∃s,L[i]?=some s∧s.b=b
 |0,_,i,hi=>by simp[idxT] at hi
 |k+1,hk,i,hi=>by
  have hL:L[k]?=some L[k]:=List.getElem?_eq_getElem (by omega)
  simp only[idxT,hL] at hi
  cases h:eqD b L[k].b with
  |false=>simp only[h,Bool.false_eq_true,if_false] at hi;exact idxT_lt L b k (by omega) i hi
  |true=>
   simp only[h,if_true,List.mem_append,List.mem_singleton] at hi
   rcases hi with hi|rfl
   ·exact idxT_lt L b k (by omega) i hi
   ·exact⟨_,hL,((eqD_iff _ _).1 h).symm⟩
theorem idxT_len (L:List Sg)(b:Q.D4): ∀k,(idxT L b k).length≤k
 |0=>Nat.le_refl 0
 |k+1=>by
  have:=idxT_len L b k
  simp only[idxT]
  cases L[k]? with
  |none=>simp only;omega
  |some s=>simp only;split<;>simp<;>omega
theorem gmT_len (L:List Sg): ∀k,∀p∈gmR (gmT L k),p.2.length≤k:=by
 have add: ∀(b:Q.D4) (i n:Nat) (g:Gm),(∀p∈g,p.2.length≤n)→ ∀p∈addD b i g,p.2.length≤n+1:=by
  intro b i n g
  induction g with
  |nil=>intro _ p hp;simp only[addD,List.mem_singleton] at hp;subst hp;simp
  |cons x g ih=>
   obtain⟨c,l⟩:=x
   intro h p hp
   have h0:=h (c,l) (by simp)
   simp only[addD] at hp
   split at hp
   ·simp only[List.mem_cons] at hp
    rcases hp with rfl|hp
    ·simp only[List.length_append,List.length_cons,List.length_nil];simp only at h0;omega
    ·have:=h p (by simp[hp]);omega
   ·simp only[List.mem_cons] at hp
    rcases hp with rfl|hp
    ·simp only at h0⊢;omega
    ·exact ih (fun q hq=>h q (by simp[hq])) p hp
 have key: ∀k,∀p∈gmT L k,p.2.length≤k:=by
  intro k
  induction k with
  |zero=>intro p hp;simp[gmT] at hp
  |succ k ih=>
   intro p hp
   simp only[gmT] at hp
   cases hL:L[k]? with
   |none=>rw[hL] at hp;have:=ih p hp;omega
   |some s=>rw[hL] at hp;exact add _ _ _ _ ih p hp
 intro k p hp
 obtain⟨q,hq,rfl⟩:=List.mem_map.1 hp
 simpa using key k q hq
def anyS (chk:Sg→Bool)(L:List Sg)(l:List Nat):Bool:=l.any fun i=>match L[i]? with
 |some s=>chk s
 |none=>false
def ansP (chk:Q.D4→Sg→Bool)(L:List Sg)(b:Q.D4):Bool:=anyS (chk b) L (idxT L b L.length)
def knR (chk:Q.D4→Sg→Bool)(L:List Sg)(kl:List Q.D4):List (List AV):=kl.map fun b=>[bv (ansP chk L b)]
def posK (b:Q.D4):List Q.D4→Option Nat
 |[]=>none
 |c::g=>if eqD b c then some 0 else(posK b g).map (· +1)
theorem find_kn (b:Q.D4): ∀(g:List Q.D4) (n:Nat),findK (keyV b) (g.map keyV) n=some ((posK b g).map (· +n))
 |[],n=>rfl
 |c::g,n=>by
  simp only[List.map_cons,findK,keyEq_V,posK]
  cases h:eqD b c with
  |true=>simp
  |false=>
   have ih:=find_kn b g (n+1)
   simp only[ih]
   cases posK b g<;>simp
   omega
theorem posK_get (b:Q.D4): ∀(g:List Q.D4) (j:Nat),posK b g=some j→g[j]?=some b
 |[],j,h=>by simp[posK] at h
 |c::g,j,h=>by
  simp only[posK] at h
  split at h
  ·rename_i hc
   cases h
   rw[(eqD_iff _ _).1 hc];rfl
  ·simp only[Option.map_eq_some_iff] at h
   obtain⟨i,hi,rfl⟩:=h
   simpa using posK_get b g i hi
end
section
open Go Go.Ab
attribute [local simp] resultV lowerRes lowerV lowerAll
attribute [-simp] Prog.bind getCs putCs
attribute [local simp ↓] run_bind
attribute [local simp ↓] runF_bind
attribute [local simp] run_getCsN runF_getCsN runF_putCsN facetsC facetsW facetsH putCs_one run_putCsN
theorem any_take {chk:Sg→Bool}{L:List Sg}{l:List Nat}{i q:Nat}{s:Sg}(h:l[i]?=some q)(hs:L[q]?=some s):anyS chk L (l.take (i+1))=(anyS chk L (l.take i)||chk s):=by
 unfold anyS
 rw[List.take_add_one,h]
 simp[hs]
theorem any_true {chk:Sg→Bool}{L:List Sg}{l:List Nat}{i q:Nat}{s:Sg}(h:l[i]?=some q)(hs:L[q]?=some s)(hc:chk s=true):anyS chk L l=true:=by
 unfold anyS
 rw[List.any_eq_true]
 exact⟨q,List.mem_of_getElem? h,by simp[hs,hc]⟩
theorem agrees_w {X:Orc}(hX: ∀k d a hp,X.hpc k d 70 a hp=none)(L:List Sg)(hL:L.length≤1000000)(chk:Q.D4→Sg→Bool)(b mm:Q.D4)(hchk: ∀s∈L,(lim Tryz.prog EW X).dat 71 [.agg b.row,.agg mm.row,s.av]=some [bv (chk b s)])(kl:List Q.D4){d:Nat}{hp1:Hp}{g10 gk g7 g4 g5:Nat}
  (h10:hp1 ⟨0,10,0⟩= .box g10 [.mp ⟨0,33,0⟩ gk] false) (h33:hp1 ⟨0,33,0⟩= .map gk false (kl.map keyV) (knR chk L kl) false) (h7:hp1 ⟨0,7,0⟩= .box g7 [.dmp false ((gmR (gmT L L.length)).map (·.1)) ((gmR (gmT L L.length)).map fun p=>[.sl false 1 p.2])] true) (h4:hp1 ⟨0,4,0⟩= .box g4 mm.row false) (h5:hp1 ⟨0,5,0⟩= .box g5 [.sl false 7 (rowSg L)] false):
  HB Tryz.prog EW (lim Tryz.prog EW X) 0 d 70 [.agg b.row,.ptr ⟨0,10,0⟩ g10 0,.ptr ⟨0,7,0⟩ g7 0,.ptr ⟨0,4,0⟩ g4 0,.ptr ⟨0,5,0⟩ g5 0] hp1 (fun v hp2=>v=bv (ansP chk L b)∧(∃kl':List Q.D4,hp2 ⟨0,33,0⟩= .map gk false (kl'.map keyV) (knR chk L kl') false)∧ ∀i c,(⟨0,i,c⟩:Nm)≠⟨0,33,0⟩→hp2 ⟨0,i,c⟩=hp1 ⟨0,i,c⟩) (fun _ _=>False):=by
 refine lim_hpcBr (k1:=1) (PR:=fun _ _=>False) rfl Tryz.func70 (hX _ _ _ _) rfl bodyOk_70 rfl rvs_70 ?_
 have hfk:=find_kn b kl 0
 obtain⟨b0,b1,b2,b3⟩:=b
 obtain⟨m0,m1,m2,m3⟩:=mm
 cases hpk:posK ⟨b0,b1,b2,b3⟩ kl with
 |some j=>
  rw[hpk] at hfk
  have hj:=posK_get _ _ _ hpk
  have hr:(knR chk L kl)[j]?=some [bv (ansP chk L ⟨b0,b1,b2,b3⟩)]:=by unfold knR;rw[List.getElem?_map,hj];rfl
  simp only[Option.map_some,Nat.add_zero] at hfk
  have hend: ∀hp2:Hp,hp2 ⟨0,33,0⟩=hp1 ⟨0,33,0⟩→ ∃kl':List Q.D4,hp2 ⟨0,33,0⟩= .map gk false (kl'.map keyV) (knR chk L kl') false:=fun hp2 h=>⟨kl,h.trans h33⟩
  simp only[keyV] at hfk
  replace hend:=Lib.hid hend
  replace hchk:=Lib.hid hchk
  clear hpk hj
  generalize ansP chk L ⟨b0,b1,b2,b3⟩=an at*
  generalize kl.map keyV=KS at*
  generalize knR chk L kl=RS at*
  simp only[Q.D4.row]
  repeat' (first|(refine ZN ?_)|(refine Z2 ?_ ?_)|(intro h h';try simp[*,-h] at h'))
  all_goals exact⟨rfl,hend.out _ (by simp[*]),fun i c h=>by simp[*]⟩
 |none=>
  rw[hpk] at hfk
  simp only[Option.map_none] at hfk
  simp only[keyV] at hfk
  have hgm:=find_gm ⟨b0,b1,b2,b3⟩ (gmT L L.length) 0
  have hlk:=look_pos ⟨b0,b1,b2,b3⟩ (gmT L L.length)
  have hlg:=look_gmT L ⟨b0,b1,b2,b3⟩ L.length
  have hend: ∀(hp2:Hp) (an:Bool),an=ansP chk L ⟨b0,b1,b2,b3⟩→hp2 ⟨0,33,0⟩= .map gk false (kl.map keyV++[.agg ⟨[.int .u32 b0,.int .u32 b1,.int .u32 b2,.int .u32 b3]⟩]) (knR chk L kl++[[bv an]]) false→ ∃kl':List Q.D4,hp2 ⟨0,33,0⟩= .map gk false (kl'.map keyV) (knR chk L kl') false:=fun hp2 an ha h=>⟨kl++[⟨b0,b1,b2,b3⟩],by rw[h,ha];simp[knR,keyV]⟩
  replace hend:=Lib.hid hend
  have hidx:=Lib.hid (idxT_lt L ⟨b0,b1,b2,b3⟩ L.length (Nat.le_refl _))
  have hil:=idxT_len L ⟨b0,b1,b2,b3⟩ L.length
  have han:ansP chk L ⟨b0,b1,b2,b3⟩=anyS (chk ⟨b0,b1,b2,b3⟩) L (idxT L ⟨b0,b1,b2,b3⟩ L.length):=rfl
  replace hchk:=Lib.hid hchk
  rw[han] at hend
  rw[han]
  clear hpk han
  generalize kl.map keyV=KS at*
  generalize knR chk L kl=RS at*
  simp only[Q.D4.row] at h4⊢
  simp only[keyV] at hgm
  cases hpd:posD ⟨b0,b1,b2,b3⟩ (gmT L L.length) with
  |none=>
   rw[hpd] at hgm hlk
   simp only[Option.map_none] at hgm
   simp only at hlk
   rw[hlg] at hlk
   rw[hlk] at hend⊢
   have hany0:anyS (chk ⟨b0,b1,b2,b3⟩) L []=false:=rfl
   rw[hany0] at hend⊢
   clear hidx hil hlg hpd hlk
   generalize (gmR (gmT L L.length)).map (·.1)=KM at*
   generalize (gmR (gmT L L.length)).map (fun p=>[AV.sl false 1 p.2])=RM at*
   repeat' (first|(refine ZN ?_)|(refine Z2 ?_ ?_)|(intro h h';try simp[*,-h] at h'))
   refine W_loopS (n:=1) (fun s0 m s=>0<m∧s=s0) ⟨by omega,rfl⟩ ?_
   rintro m s ⟨hm,rfl⟩
   repeat' (first|(refine ZN ?_)|(refine Z2 ?_ ?_)|(intro h h';try simp[*,-h] at h'))
   all_goals exact⟨rfl,hend.out _ _ rfl (by simp[*]),fun i c h=>by simp[*]⟩
  |some j=>
   rw[hpd] at hgm hlk
   simp only[Option.map_some,Nat.add_zero] at hgm
   simp only at hlk
   obtain⟨c,hlk⟩:=hlk
   rw[hlg] at hlk
   generalize hids:idxT L ⟨b0,b1,b2,b3⟩ L.length=ids at*
   have hrm:((gmR (gmT L L.length)).map (fun p=>[AV.sl false 1 p.2]))[j]?=some [.sl false 1 (ixR ids)]:=by
    simp[gmR,hlk]
   clear hlg hpd hlk hids
   generalize (gmR (gmT L L.length)).map (·.1)=KM at*
   generalize (gmR (gmT L L.length)).map (fun p=>[AV.sl false 1 p.2])=RM at*
   repeat' (first|(refine ZN ?_)|(refine Z2 ?_ ?_)|(intro h h';try simp[*,-h] at h'))
   refine W_loopS (n:=ids.length+1) (fun s0 m s=> ∃i:Nat,ids.length - i<m∧i≤ids.length∧s.fr 1=s0.fr 1∧s.fr 3=s0.fr 3∧s.fr 4=s0.fr 4∧s.fr 5=s0.fr 5∧s.fr 7=bv false∧s.fr 21= .sl false 1 (ixR ids)∧s.fr 22=iv ids.length∧s.fr 23=iv i∧s.hp=s0.hp∧anyS (chk ⟨b0,b1,b2,b3⟩) L (ids.take i)=false) ⟨0,by omega,by omega,rfl,rfl,rfl,rfl,by simp,by simp,by simp,by simp,rfl,by simp[anyS]⟩ ?_
   rintro m ⟨fr,hp⟩ ⟨i,hm,hi,f1,f3,f4,f5,f7,f21,f22,f23,hh,hany⟩
   simp at f1 f3 f4 f5 f7 f21 f22 f23 hh
   subst hh
   by_cases hlt:i<ids.length
   ·have hiI:(i:Int)<ids.length:=by omega
    have hg:ids[i]?=some ids[i]:=List.getElem?_eq_getElem hlt
    have hwi:IntKind.i64.wrap ((i:Int)+1)=(i:Int)+1:=wrapN (by omega)
    obtain⟨s,hs,hsb⟩:=hidx.out _ (List.getElem_mem hlt)
    have hcs:=hchk.out s (List.mem_of_getElem? hs)
    have hat:=any_take (chk:=chk ⟨b0,b1,b2,b3⟩) hg hs
    have htr:=any_true (chk:=chk ⟨b0,b1,b2,b3⟩) hg hs
    generalize ids[i]=q at*
    have hgr:(ixR ids)[i]?=some [iv (q:Int)]:=by simp[hg]
    have hsr:(rowSg L)[q]?=some s.row:=by simp[hs]
    obtain⟨sb,si,so,sp⟩:=s
    simp only[Sg.row] at hsr
    simp only[Sg.av,Q.D4.row] at hcs
    clear hidx hchk hg hs hsb hlt
    generalize ixR ids=IR at*
    generalize rowSg L=RL at*
    cases hc:chk ⟨b0,b1,b2,b3⟩ ⟨sb,si,so,sp⟩ with
    |true=>
     have htr:=htr hc
     rw[hc] at hcs
     rw[htr] at hend
     rw[htr]
     clear hat hany hc htr
     repeat' (first|(refine ZN ?_)|(refine Z2 ?_ ?_)|(intro h h';try simp[*,-h] at h'))
     all_goals exact⟨rfl,hend.out _ _ rfl (by simp[*]),fun i c h=>by simp[*]⟩
    |false=>
     rw[hc] at hcs hat
     clear htr hc
     rw[hany] at hat
     clear hany
     replace hat:=Lib.hid hat
     repeat' (first|(refine ZN ?_)|(refine Z2 ?_ ?_)|(intro h h';try simp[*,-h] at h'))
     all_goals exact⟨ids.length - i,by omega,i+1,by omega,by omega,by simp[*],by simp[*],by simp[*],by simp[*],by simp[*],by simp[*],by simp[*],by simp[*],by simp[*],by simpa using hat.out⟩
   ·have hiI: ¬(i:Int)<ids.length:=by omega
    have hz:ids.take i=ids:=List.take_of_length_le (by omega)
    rw[hz] at hany
    rw[hany] at hend
    rw[hany]
    clear hany hz hidx hchk
    repeat' (first|(refine ZN ?_)|(refine Z2 ?_ ?_)|(intro h h';try simp[*,-h] at h'))
    all_goals exact⟨rfl,hend.out _ _ rfl (by simp[*]),fun i c h=>by simp[*]⟩
end
section
open Go Go.Ab
attribute [local simp] resultV lowerRes lowerV lowerAll
attribute [-simp] Prog.bind getCs putCs
attribute [local simp ↓] run_bind
attribute [local simp ↓] runF_bind
attribute [local simp] run_getCsN runF_getCsN runF_putCsN facetsC facetsW facetsH putCs_one run_putCsN
abbrev rowD (l:List Q.D4):List (List AV):=l.map Q.D4.row
def nmW (j:Nat):Nm:=⟨0,1000,j⟩
theorem nmW_inj : ∀i j,nmW i=nmW j→i=j:=fun i j h=>by simpa[nmW] using h
@[simp] theorem nmW_ne (i c j:Nat)(h:i<1000):((⟨0,i,c⟩:Nm)=nmW j)=False:=by simp[nmW];omega
@[simp] theorem nmW_ne' (i c j:Nat)(h:i<1000):(nmW j=(⟨0,i,c⟩:Nm))=False:=by simp[nmW];omega
structure Kp (need:Int)(Bs:List Q.D4)(mm:Q.D4)(L:List Sg)(s:AS):Prop where
 k3:s.fr 3= .ptr ⟨0,3,0⟩ 1 0
 k4:s.fr 4= .ptr ⟨0,4,0⟩ 1 0
 k5:s.fr 5= .ptr ⟨0,5,0⟩ 1 0
 k7:s.fr 7= .ptr ⟨0,7,0⟩ 1 0
 b3:s.hp ⟨0,3,0⟩= .box 1 [.sl false 4 (rowD Bs),iv need] false
 b4:s.hp ⟨0,4,0⟩= .box 1 mm.row false
 b5:s.hp ⟨0,5,0⟩= .box 1 [.sl false 7 (rowSg L)] false
theorem Kp.on {need:Int}{Bs:List Q.D4}{mm:Q.D4}{L:List Sg}{s s':AS}(h:Kp need Bs mm L s)(h1:s'.fr 3=s.fr 3∧s'.fr 4=s.fr 4∧s'.fr 5=s.fr 5∧s'.fr 7=s.fr 7)(h2:s'.hp ⟨0,3,0⟩=s.hp ⟨0,3,0⟩∧s'.hp ⟨0,4,0⟩=s.hp ⟨0,4,0⟩∧s'.hp ⟨0,5,0⟩=s.hp ⟨0,5,0⟩):Kp need Bs mm L s':=
 ⟨h1.1.trans h.k3,h1.2.1.trans h.k4,h1.2.2.1.trans h.k5,h1.2.2.2.trans h.k7,h2.1.trans h.b3,h2.2.1.trans h.b4,h2.2.2.trans h.b5⟩
def KM (L:List Sg):List Value:=(gmR (gmT L L.length)).map (·.1)
def RM (L:List Sg):List (List AV):=(gmR (gmT L L.length)).map fun p=>[AV.sl false 1 p.2]
def Fw (need:Int)(Bs:List Q.D4)(mm:Q.D4)(L:List Sg)(s:AS):Prop:=Kp need Bs mm L s∧s.hp ⟨0,7,0⟩= .box 1 [.mp ⟨0,15,0⟩ 1] false∧s.hp ⟨0,15,0⟩= .map 1 false [] [] false
def Fx (need:Int)(Bs:List Q.D4)(mm:Q.D4)(L:List Sg)(s:AS):Prop:=Kp need Bs mm L s∧s.hp ⟨0,7,0⟩= .box 1 [.dmp false (KM L) (RM L)] true
structure Lw (b0:Nat)(need:Int)(Bs:List Q.D4)(mm:Q.D4)(L:List Sg)(k:Nat)(s:AS):Prop extends Kp need Bs mm L s where
 k16:s.fr 16= .sl false 7 (rowSg L)
 k17:s.fr 17=iv L.length
 k18:s.fr 18=iv k
 b7:s.hp ⟨0,7,0⟩= .box 1 [.sc (.map (some b0))] true
theorem Wch_cons {P:Program}{E:Cfg}{k:Nat}{call:Orc}{R:Ex→AS→Prop}{F:AS→Prop}{c:Code}{cs:List Code}{s:AS}(h:W P E k call c s (thenW (Wch P E k call R F cs) R)):Wch P E k call R F (c::cs) s:=h
theorem Wch_nil {P:Program}{E:Cfg}{k:Nat}{call:Orc}{R:Ex→AS→Prop}{F:AS→Prop}{s:AS}(h:F s):Wch P E k call R F [] s:=h
theorem who_fill {X:Orc}(hX:OrcOk Tryz.prog X)(need:Int)(Bs:List Q.D4)(mm:Q.D4)(L:List Sg)(hL:L.length≤1000000){c2 c3 c4 c5 c6 z c0 c1:Code}(hbd:Tryz.f60.body=some (.seq c0 (.seq c1 (.seq (.seq c2 (.block 0 (.loop (.seq c3 (.seq (.cond (.tmp 19) .skip (.exit 0)) (.seq (.block 1 (.seq c4 c5)) c6)))))) z))))
  (K:Nat→Prop) (B:Base) (st:AS) (a:Act) (w:World) (Q:Exit→Act→World→Prop) (hF:Fw need Bs mm L st) (S:StR 0 52 K B st a w) (hQ: ∀st' a' w',Fx need Bs mm L st'→StR 0 52 K B st' a' w'→Q .normal a' w'):
  (Code.seq c2 (.block 0 (.loop (.seq c3 (.seq (.cond (.tmp 19) .skip (.exit 0)) (.seq (.block 1 (.seq c4 c5)) c6)))))).wp Tryz.prog Q a w:=by
 have hC:OrcOk Tryz.prog (lim Tryz.prog EW X):=lim_ok mixed6 EW_law hX
 cases hbd
 refine wp_seq ?_
 obtain⟨fr,hp⟩:=st
 obtain⟨hk,hb7,hb15⟩:=hF
 refine W.wp mixed6 EW_law hC (R:=fun e s=>e= .normal∧Kp need Bs mm L s∧s.fr 16= .sl false 7 (rowSg L)∧s.fr 17=iv L.length∧s.fr 18=iv (0:Nat)∧s.hp=hp) ?_ (by kernel_rfl) S (fun e s a1 w1 hr S1=>?_) (fun v hp' a' w' hr _=>nomatch hr.1)
 ·have k5:=hk.k5
  have b5:=hk.b5
  simp only at k5 b5
  repeat' (first|(refine ZN ?_)|(refine Z2 ?_ ?_)|(intro h h';try simp[*,-h] at h'))
  all_goals exact⟨rfl,hk.on (by simp) (by simp),by simp,by simp,by simp,rfl⟩
 obtain⟨rfl,hk1,k16,k17,k18,hh⟩:=hr
 show(Code.block 0 _).wp _ _ _ _
 obtain⟨fr1,hp1⟩:=s
 simp only at hh k16 k17 k18
 subst hh
 obtain⟨b0,SM⟩:=map_begin (nm:=nmW) (sz:=1) (e:=3) (x7:=⟨0,7,0⟩) (x15:=⟨0,15,0⟩) S1 hb15 hb7 (by simp)
 refine wp_block ?_
 refine wp_loopN (fun j a w=> ∃k s,j=L.length - k∧k≤L.length∧StM 52 K B b0 nmW 1 3 (gmR (gmT L k)) s a w∧Lw b0 need Bs mm L k s) (j:=L.length) ⟨0,_,by omega,by omega,SM,⟨hk1.on (by simp) (by simp[upd_other]),k16,k17,k18,by simp[upd_other]⟩⟩ ?_
 clear SM S1 hk1 k16 k17 k18 S hk hb7 hb15
 rintro j a w ⟨k,⟨fr,hp⟩,rfl,hk,SM,hl⟩
 refine wp_seq ?_
 refine SM.run mixed6 EW_law hC (R:=fun e s=>e= .normal∧Lw b0 need Bs mm L k s∧s.fr 19=bv (decide ((k:Int)<L.length))∧s.hp=hp) ?_ (by kernel_rfl) (fun v s hr=>nomatch hr.1) (fun e s hr j=>by rw[hr.2.2.2]) (fun e s a1 w1 hr SM1=>?_)
 ·have k17:=hl.k17
  have k18:=hl.k18
  simp only at k17 k18
  repeat' (first|(refine ZN ?_)|(refine Z2 ?_ ?_)|(intro h h';try simp[*,-h] at h'))
  all_goals exact⟨rfl,⟨hl.toKp.on (by simp) (by simp),by simpa using hl.k16,by simpa using hl.k17,by simpa using hl.k18,hl.b7⟩,by simp,rfl⟩
 obtain⟨rfl,hl1,k19,hh⟩:=hr
 show(Code.seq _ _).wp _ _ _ _
 refine wp_seq ?_
 have hev:=SM1.bool k19
 by_cases hlt:k<L.length
 ·rw[decide_eq_true (show(k:Int)<L.length by omega)] at hev
  refine wp_cond_true hev (wp_skip ?_)
  show(Code.seq _ _).wp _ _ _ _
  refine wp_seq (wp_block (wp_seq ?_))
  obtain⟨fr1,hp1⟩:=s
  simp only at hh
  subst hh
  have hg:L[k]?=some L[k]:=List.getElem?_eq_getElem hlt
  have hgm:gmT L (k+1)=addD L[k].b k (gmT L k):=by simp only[gmT,hg]
  have hgl:=gmT_len L k
  generalize L[k]=s at*
  refine SM1.run mixed6 EW_law hC (R:=fun e q=>e= .normal∧Lw b0 need Bs mm L k q∧q.fr 8=iv k∧(∃g,q.fr 9= .ptr ⟨0,9,0⟩ g 0∧q.hp ⟨0,9,0⟩= .box g s.row false)∧ ∀j,q.hp (nmW j)=hp1 (nmW j)) ?_ (by kernel_rfl) (fun v s hr=>nomatch hr.1) (fun e s hr=>hr.2.2.2.2) (fun e q a2 w2 hr SM2=>?_)
  ·have k16:=hl1.k16
   have k18:=hl1.k18
   have hsr:(rowSg L)[k]?=some s.row:=by simp[hg]
   simp only at k16 k18
   generalize hRL:rowSg L=RL at*
   obtain⟨sb,si,so,sp⟩:=s
   simp only[Sg.row] at hsr⊢
   clear hg hgm
   repeat' (first|(refine ZN ?_)|(refine Z2 ?_ ?_)|(intro h h';try simp[*,-h] at h'))
   all_goals exact⟨rfl,⟨hl1.toKp.on (by simp) (by simp[upd_other]),by simpa[hRL] using hl1.k16,by simpa using hl1.k17,by simpa using hl1.k18,by simpa[upd_other] using hl1.b7⟩,by simp,⟨_,by simp<;>rfl,by simp⟩,fun j=>by simp[upd_other]⟩
  obtain⟨rfl,hl2,k8,⟨g9,k9,b9⟩,hn2⟩:=hr
  show(Code.region 5 _ false).wp _ _ _ _
  obtain⟨fr2,hp2⟩:=q
  simp only at k8 k9 b9 hn2
  refine region_entryW (F:=fun q=>Lw b0 need Bs mm L k q∧q.fr 23= .sc (.map (some b0))∧q.fr 25= .agg [uv s.b.d0,uv s.b.d1,uv s.b.d2,uv s.b.d3]∧(∃g,q.fr 28= .own ⟨0,28,0⟩ g 1∧q.hp ⟨0,28,0⟩= .arr g 1 3 [[iv k]] false)∧ ∀j,q.hp (nmW j)=hp2 (nmW j)) (n:=5) (pre:=[_,_,_,_,_]) (key:=keyV s.b) (row:=[iv k]) EW_law hC SM2 rfl ?_ rfl rfl rfl rfl rfl rfl (kt:=24) (by kernel_rfl) ?_ nmW_inj (fun _=>rfl) ?_ (by decide) (by decide) (by decide) (by decide) ?_ (find_gm _ _ 0) hgl ?_
  ·have k7:=hl2.k7
   have b7:=hl2.b7
   simp only at k7 b7
   obtain⟨sb,si,so,sp⟩:=s
   simp only[Sg.row] at b9
   clear hg hgm
   repeat' (first|(refine ZN ?_)|(refine Z2 ?_ ?_)|(intro h h';try simp[*,-h] at h'))
   all_goals exact⟨⟨hl2.toKp.on (by simp) (by simp[upd_other]),by simpa using hl2.k16,by simpa using hl2.k17,by simpa using hl2.k18,by simpa[upd_other] using hl2.b7⟩,by simp,by simp,⟨_,by simp<;>rfl,by simp⟩,fun j=>by simp[upd_other]⟩
  ·intro u
   have h0:(Tryz.prog.info? 25).bind (·.zero)=some (.slice none 0 0):=by kernel_rfl
   obtain⟨i,h1,h2⟩:=Option.bind_eq_some_iff.1 h0
   simp[zeroValue,typeInfo,h1,h2]
  ·intro o ho z hz
   simp only[List.mem_cons,List.not_mem_nil,or_false] at ho
   rcases ho with rfl|rfl|rfl|rfl|rfl<;>(cases hz;decide)
  ·obtain⟨⟨d0,d1,d2,d3⟩,si,so,sp⟩:=s
   simp[keyV]
  ·rintro⟨fr3,hp3⟩ ⟨hl3,k23,k25,⟨g28,k28,b28⟩,hn3⟩
   simp only at k23 k25 k28 b28 hn3
   refine⟨hn3,k23,by rw[show(AS.mk fr3 hp3).fr 25=fr3 25 from rfl,k25];rfl,fun j g rows hj hr=>?_,fun j=>?_,fun hp4 a4 w4 ho4 SM4=>?_⟩
   ·have x1:rows.length+1≤9223372036854775807:=by omega
    have x2:(rows.length+1)*8≤140737488355328:=by omega
    simp only at hj⊢
    simp[k28,b28,hj,x1,x2]
   ·simp[k28,b28]
   ·show(Code.region 6 _ false).wp _ _ _ _
    rw[addG_gm,←hgm] at SM4
    refine SM4.run mixed6 EW_law hC (R:=fun e q=>e= .normal∧Lw b0 need Bs mm L (k+1) q∧ ∀j,q.hp (nmW j)=hp4 (nmW j)) ?_ (by kernel_rfl) (fun v s hr=>nomatch hr.1) (fun e s hr=>hr.2.2) (fun e q a5 w5 hr SM5=>?_)
    ·have k18:=hl3.k18
     simp only at k18
     have hwi:IntKind.i64.wrap ((k:Int)+1)=(k:Int)+1:=wrapN (by omega)
     have hk4:Kp need Bs mm L ⟨fun z=>if z=29∨z=26∨z=30∨z=31 then .any else fr3 z,hp4⟩:=hl3.toKp.on (by simp) ⟨ho4 _ (fun j=>by simp),ho4 _ (fun j=>by simp),ho4 _ (fun j=>by simp)⟩
     have hb4:=(ho4 ⟨0,7,0⟩ (fun j=>by simp)).trans hl3.b7
     have k16:=hl3.k16
     have k17:=hl3.k17
     simp only at k16 k17
     repeat' (first|(refine ZN ?_)|(refine Z2 ?_ ?_)|(intro h h';try simp[*,-h] at h'))
     all_goals exact⟨rfl,⟨hk4.on (by simp) (by simp),by simpa using k16,by simpa using k17,by simp,hb4⟩,fun j=>rfl⟩
    ·obtain⟨rfl,hl5,_⟩:=hr
     exact⟨L.length - (k+1),by omega,k+1,q,rfl,by omega,SM5,hl5⟩
 ·rw[decide_eq_false (show¬(k:Int)<L.length by omega)] at hev
  refine wp_cond_false hev (wp_exit ?_)
  have hkn:k=L.length:=by omega
  subst hkn
  obtain⟨hp',S3,h7,hoth⟩:=map_end Tryz.prog (x7:=⟨0,7,0⟩) SM1 nmW_inj hl1.b7 (fun j=>by simp)
  exact hQ _ _ _ ⟨hl1.toKp.on (by simp) ⟨hoth _ (by simp) (fun j=>by simp),hoth _ (by simp) (fun j=>by simp),hoth _ (by simp) (fun j=>by simp)⟩,h7⟩ S3
def whoT (chk:Q.D4→Sg→Bool)(L:List Sg)(Bs:List Q.D4):Nat→List Nat
 |0=>[]
 |k+1=>match Bs[k]? with
  |some b=>if ansP chk L b then whoT chk L Bs k++[k] else whoT chk L Bs k
  |none=>whoT chk L Bs k
theorem whoT_len (chk:Q.D4→Sg→Bool)(L:List Sg)(Bs:List Q.D4): ∀k,(whoT chk L Bs k).length≤k
 |0=>Nat.le_refl 0
 |k+1=>by
  have:=whoT_len chk L Bs k
  simp only[whoT]
  cases Bs[k]? with
  |none=>simp only;omega
  |some s=>simp only;split<;>simp<;>omega
theorem who_s {X:Orc}(hX:OrcOk Tryz.prog X)(h70: ∀k d a hp,X.hpc k d 70 a hp=none)(need:Int)(Bs:List Q.D4)(mm:Q.D4)(L:List Sg)(hL:L.length≤1000000)(hBs:Bs.length≤1000000)(chk:Q.D4→Sg→Bool)
  (hchk: ∀b∈Bs,∀s∈L,(lim Tryz.prog EW X).dat 71 [.agg b.row,.agg mm.row,s.av]=some [bv (chk b s)]):SemD Tryz.prog 60 [.agg [.sl false 4 (rowD Bs),iv need],.agg mm.row,.sl false 7 (rowSg L)] [.vec 1 (ixR (whoT chk L Bs Bs.length))]:=by
 have hC:OrcOk Tryz.prog (lim Tryz.prog EW X):=lim_ok mixed6 EW_law hX
 obtain⟨c0,c1,c2,c3,c4,c5,c6,z,hbd⟩: ∃c0 c1 c2 c3 c4 c5 c6 z,Tryz.f60.body=some (.seq c0 (.seq c1 (.seq (.seq c2 (.block 0 (.loop (.seq c3 (.seq (.cond (.tmp 19) .skip (.exit 0)) (.seq (.block 1 (.seq c4 c5)) c6)))))) z))):=⟨_,_,_,_,_,_,_,_,rfl⟩
 refine sem_split mixed6 EW_law hC Tryz.func60 (cs:=[c0,c1]) (F:=Fw need Bs mm L) (F':=Fx need Bs mm L) hbd bodyOk_60 rfl rtys_60 rvs_60 ?_ ⟨?_,?_⟩ (fun K B st a w Q hF S hQ=>who_fill hX need Bs mm L hL hbd K B st a w Q hF S hQ) ?_
 ·cases hbd
  obtain⟨m0,m1,m2,m3⟩:=mm
  simp only[Q.D4.row]
  have hfin: ∀s:AS,s.fr 3= .ptr ⟨0,3,0⟩ 1 0→s.fr 4= .ptr ⟨0,4,0⟩ 1 0→s.fr 5= .ptr ⟨0,5,0⟩ 1 0→s.fr 7= .ptr ⟨0,7,0⟩ 1 0→s.hp ⟨0,3,0⟩= .box 1 [.sl false 4 (rowD Bs),iv need] false→s.hp ⟨0,4,0⟩= .box 1 [uv m0,uv m1,uv m2,uv m3] false→s.hp ⟨0,5,0⟩= .box 1 [.sl false 7 (rowSg L)] false→s.hp ⟨0,7,0⟩= .box 1 [.mp ⟨0,15,0⟩ 1] false→s.hp ⟨0,15,0⟩= .map 1 false [] [] false→Fw need Bs ⟨m0,m1,m2,m3⟩ L s:=fun s h1 h2 h3 h4 h5 h6 h7 h8 h9=>⟨⟨h1,h2,h3,h4,h5,h6,h7⟩,h8,h9⟩
  generalize rowD Bs=RB at*
  generalize rowSg L=RL at*
  generalize Fw need Bs ⟨m0,m1,m2,m3⟩ L=FF at*
  replace hfin:=Lib.hid hfin
  repeat' (first|(refine ZN ?_)|(refine Z2 ?_ ?_)|(intro h h';try simp[*,-h] at h')|(with_reducible apply Wch_cons)|(with_reducible apply Wch_nil)|fail)
  all_goals (show FF _;refine hfin.out _ ?_ ?_ ?_ ?_ ?_ ?_ ?_ ?_ ?_<;>simp)
 ·cases hbd
  intro c hc
  simp only[List.mem_cons,List.not_mem_nil,or_false] at hc
  rcases hc with rfl|rfl<;>kernel_rfl
 ·cases hbd;kernel_rfl
 ·cases hbd
  rintro⟨fr,hp⟩ ⟨⟨k3,k4,k5,k7,b3,b4,b5⟩,b7⟩
  simp only at k3 k4 k5 k7 b3 b4 b5 b7
  have hBl:(rowD Bs).length=Bs.length:=by simp
  repeat' (first|(refine ZN ?_)|(refine Z2 ?_ ?_)|(intro h h';try simp[*,-h] at h'))
  generalize hga:(hp ⟨0,33,0⟩).gen=ga
  generalize hgb:(hp ⟨0,10,0⟩).gen=gb
  generalize hgc:(hp ⟨0,12,0⟩).gen=gc
  clear hga hgb hgc
  replace hchk:=Lib.hid hchk
  refine W_loopS (n:=Bs.length+1) (fun s0 m s=> ∃(i g:Nat) (kl:List Q.D4),Bs.length - i<m∧i≤Bs.length∧s.fr 10=s0.fr 10∧s.fr 11=s0.fr 11∧s.fr 36=s0.fr 36∧s.fr 37=s0.fr 37∧s.fr 38=iv i∧s.fr 12= .own ⟨0,12,0⟩ g (whoT chk L Bs i).length∧s.hp ⟨0,12,0⟩= .arr g 1 3 (ixR (whoT chk L Bs i)) false∧s.hp ⟨0,10,0⟩=s0.hp ⟨0,10,0⟩∧s.hp ⟨0,33,0⟩= .map (ga+1) false (kl.map keyV) (knR chk L kl) false∧s.hp ⟨0,4,0⟩= .box 1 mm.row false∧s.hp ⟨0,5,0⟩= .box 1 [.sl false 7 (rowSg L)] false∧s.hp ⟨0,7,0⟩= .box 1 [.dmp false (KM L) (RM L)] true) ⟨0,gc+1,[],by omega,by omega,rfl,rfl,rfl,rfl,by simp,by simp[whoT],by simp[whoT],rfl,by simp[knR],by simp[b4],by simp[b5],by simp[b7]⟩ ?_
  clear k3 k4 k5 k7 b3 b4 b5 b7
  rintro m ⟨fr1,hp1⟩ ⟨i,g,kl,hm,hi,f10,f11,f36,f37,f38,f12,b12,b10,b33,b4,b5,b7⟩
  simp at f10 f11 f36 f37 f38 f12 b10 b12 b33 b4 b5 b7
  have hwl:=whoT_len chk L Bs i
  by_cases hlt:i<Bs.length
  ·have hiI:(i:Int)<Bs.length:=by omega
   have hg:Bs[i]?=some Bs[i]:=List.getElem?_eq_getElem hlt
   have hwi:IntKind.i64.wrap ((i:Int)+1)=(i:Int)+1:=wrapN (by omega)
   have hws:whoT chk L Bs (i+1)=if ansP chk L Bs[i] then whoT chk L Bs i++[i] else whoT chk L Bs i:=by simp only[whoT,hg]
   have hcb:=hchk.out Bs[i] (List.getElem_mem hlt)
   generalize Bs[i]=b at*
   have hrow:(rowD Bs)[i]?=some b.row:=by simp[hg]
   obtain⟨m0,m1,m2,m3⟩:=mm
   obtain⟨d0,d1,d2,d3⟩:=b
   simp only[Q.D4.row] at hrow b4
   generalize rowD Bs=RB at*
   replace hcb:=Lib.hid hcb
   have e7:=Lib.hid b7
   replace hws:=Lib.hid hws
   have x1:(whoT chk L Bs i).length+1≤9223372036854775807:=by omega
   have x2:((whoT chk L Bs i).length+1)*8≤140737488355328:=by omega
   have x3:(ixR (whoT chk L Bs i)).length=(whoT chk L Bs i).length:=by simp
   generalize whoT chk L Bs i=WT at*
   generalize hIR:ixR WT=IR at*
   clear hg hchk hwl hlt hBl
   repeat' (first|(refine ZN ?_)|(refine Z2 ?_ ?_)|(intro h h';try simp[*,-h] at h')|((with_reducible apply Wo_call (f:=70));(iterate 5 exact Z5);(apply(agrees_w h70 L hL chk ⟨d0,d1,d2,d3⟩ ⟨m0,m1,m2,m3⟩ hcb.out kl (gk:=ga+1)));(focus (simp[*];done));(focus (simp[*];done));(focus (refine Eq.trans ?_ e7.out;simp[*];done));(focus (simp[*,Q.D4.row];done));(focus (simp[*];done));rotate_left;(rintro _ _ h;exact h.elim);(rintro _ hp2 ⟨rfl,⟨kl2,c33⟩,hfr⟩;have c10:hp2 ⟨0,10,0⟩= .box (gb+1) [.mp ⟨0,33,0⟩ (ga+1)] false:=(hfr 10 0 (by decide)).trans (by simp[b10]);have c12:hp2 ⟨0,12,0⟩= .arr g 1 3 IR false:=(hfr 12 0 (by decide)).trans (by simp[b12]);have c4:hp2 ⟨0,4,0⟩= .box 1 [uv m0,uv m1,uv m2,uv m3] false:=(hfr 4 0 (by decide)).trans (by simp[b4]);have c5:hp2 ⟨0,5,0⟩= .box 1 [.sl false 7 (rowSg L)] false:=(hfr 5 0 (by decide)).trans (by simp[b5]);have c7:hp2 ⟨0,7,0⟩= .box 1 [.dmp false (KM L) (RM L)] true:=(hfr 7 0 (by decide)).trans (by simp[b7]);clear hfr;cases hans:ansP chk L ⟨d0,d1,d2,d3⟩))|fail)
   ·have hws2:=hws.out
    rw[hans] at hws2
    simp only[Bool.false_eq_true,if_false] at hws2
    exact⟨Bs.length - i,by omega,i+1,g,kl2,by omega,by omega,by simp[*],by simp[*],by simp[*],by simp[*],by simp[*],by rw[hws2];simp[*],by rw[hws2];simp[*],by simp[*],by simp[*],by simp[*,Q.D4.row],by simp[*],by simp[*]⟩
   ·have hws2:=hws.out
    rw[hans] at hws2
    simp only[if_true] at hws2
    exact⟨Bs.length - i,by omega,i+1,g+1,kl2,by omega,by omega,by simp[*],by simp[*],by simp[*],by simp[*],by simp[*],by rw[hws2];simp[*],by rw[hws2];simp[←hIR],by simp[*],by simp[*],by simp[*,Q.D4.row],by simp[*],by simp[*]⟩
  ·have hiI: ¬(i:Int)<Bs.length:=by omega
   have hin:i=Bs.length:=by omega
   subst hin
   have x3:(ixR (whoT chk L Bs Bs.length)).length=(whoT chk L Bs Bs.length).length:=by simp
   generalize whoT chk L Bs Bs.length=WT at*
   have tk:(ixR WT).take WT.length=ixR WT:=List.take_of_length_le (by simp)
   generalize ixR WT=IR at*
   clear hchk
   repeat' (first|(refine ZN ?_)|(refine Z2 ?_ ?_)|(intro h h';try simp[*,-h] at h'))
   all_goals first|rfl|simp[*]
end
section
open Go Go.Ab
def EK :Cfg:={eq:=fun t=>t==24,hp:=fun f=>f==97||f==98||f==105,yl:=fun _=>false}
@[simp] theorem EK_eq (t:Nat):EK.eq t=(t==24):=rfl
@[simp] theorem EK_hp (f:Nat):EK.hp f=(f==97||f==98||f==105):=rfl
@[simp] theorem EK_off :EK.off=0:=rfl
@[simp] theorem EK_ws :EK.ws=0:=rfl
@[simp] theorem EK_cl :EK.cl=false:=rfl
@[simp] theorem EK_frz (f:Nat):EK.frz f=false:=rfl
@[simp] theorem EK_inl (f:Nat):EK.inl f=false:=rfl
@[simp] theorem EK_bx (t:Nat):EK.bx t=false:=rfl
theorem EK_law :ELaw Tryz.prog EK:=by
 refine⟨fun t ht w x y us vs b h1 h2 h=>?_,fun _=>rfl⟩
 simp only[EK_eq,beq_iff_eq] at ht
 subst ht
 exact array_law (by kernel_rfl) (by kernel_rfl) (by kernel_rfl) w x y us vs b h1 h2 h
def walkP (d:Q.D4):Nat→Q.D4
 |0=>d
 |n+1=>Q.pairP (walkP d n) ⟨0,0,0,1⟩
theorem walkP_one (d:Q.D4): ∀n,walkP d (n+1)=walkP (Q.pairP d ⟨0,0,0,1⟩) n
 |0=>rfl
 |n+1=>by rw[walkP,walkP_one d n];rfl
attribute [-simp] Prog.bind getCs putCs
attribute [local simp ↓] run_bind
attribute [local simp ↓] runF_bind
attribute [local simp] run_getCsN runF_getCsN runF_putCsN facetsC facetsW facetsH putCs_one run_putCsN
theorem walk_r {X:Orc}(hX: ∀a,X.dat 80 a=none)(hP: ∀a b:Q.D4,(lim Tryz.prog EK X).dat 37 [.agg a.row,.agg b.row]=some [.agg (Q.pairP a b).row])(x:Q.D4)(n:Nat)(hn:n≤1048576):(lim Tryz.prog EK X).dat 80 [.agg [uv x.d0,uv x.d1,uv x.d2,uv x.d3],iv n]=some [.agg [uv (walkP x n).d0,uv (walkP x n).d1,uv (walkP x n).d2,uv (walkP x n).d3]]:=by
 refine fnW (P:=Tryz.prog) (E:=EK) (X:=X) Tryz.func80 (hX _) rfl bodyOk_80 rfl rtys_80 rvs_80 ?_
 have hs: ∀k,(lim Tryz.prog EK X).dat 37 [.agg [uv (walkP x k).d0,uv (walkP x k).d1,uv (walkP x k).d2,uv (walkP x k).d3],.agg [uv 0,uv 0,uv 0,uv 1]]=some [.agg [uv (walkP x (k+1)).d0,uv (walkP x (k+1)).d1,uv (walkP x (k+1)).d2,uv (walkP x (k+1)).d3]]:=fun k=>hP (walkP x k) ⟨0,0,0,1⟩
 replace hs:=Lib.hid hs
 clear hP
 repeat' (first|(refine ZN ?_)|(refine Z2 ?_ ?_)|(intro h h';try simp[*,-h] at h'))
 refine W_loopS (n:=n) (fun s0 m q=> ∃k:Nat,m=n - k∧k≤n∧q.fr 5=iv k∧q.hp ⟨0,2,0⟩= .box 1 [uv (walkP x k).d0,uv (walkP x k).d1,uv (walkP x k).d2,uv (walkP x k).d3] false∧q.fr 1=s0.fr 1∧q.fr 2=s0.fr 2∧q.fr 4=s0.fr 4∧q.hp ⟨0,4,0⟩=s0.hp ⟨0,4,0⟩) ⟨0,by omega,by omega,by simp,by simp[walkP],by simp,by simp,by simp,by simp⟩ ?_
 rintro m ⟨fr,hp⟩ ⟨k,rfl,hk,hsl,hbx,k0,k1,k2,k3⟩
 simp at hsl hbx k0 k1 k2 k3
 by_cases hlt:k<n
 ·have hlI:(k:Int)<n:=by omega
  have hw:=wrapN (k:=k) (by omega)
  have h:=hs.out k
  repeat' (first|(refine ZN ?_)|(refine Z2 ?_ ?_)|(intro h h';try simp[*,-h] at h'))
  all_goals exact⟨n - (k+1),by omega,k+1,rfl,by omega,by simp[*],by simp[*],by simp[*],by simp[*],by simp[*],by simp[*]⟩
 ·obtain rfl:k=n:=by omega
  repeat' (first|(refine ZN ?_)|(refine Z2 ?_ ?_)|(intro h h';try simp[*,-h] at h'))
  all_goals rfl
theorem walk_p {X:Orc}(hX: ∀a,X.dat 104 a=none)(hP: ∀a b:Q.D4,(lim Tryz.prog EK X).dat 33 [.agg a.row,.agg b.row]=some [.agg (Q.pairP a b).row])(x:Q.D4)(n:Nat)(hn:n≤1048576):(lim Tryz.prog EK X).dat 104 [.agg [uv x.d0,uv x.d1,uv x.d2,uv x.d3],iv n,.dp [uv 0,uv 0,uv 0,uv 1] 0]=some [.agg [uv (walkP x n).d0,uv (walkP x n).d1,uv (walkP x n).d2,uv (walkP x n).d3]]:=by
 refine fnW (P:=Tryz.prog) (E:=EK) (X:=X) Tryz.func104 (hX _) rfl bodyOk_104 rfl rtys_104 rvs_104 ?_
 have hs: ∀k,(lim Tryz.prog EK X).dat 33 [.agg [uv (walkP x k).d0,uv (walkP x k).d1,uv (walkP x k).d2,uv (walkP x k).d3],.agg [uv 0,uv 0,uv 0,uv 1]]=some [.agg [uv (walkP x (k+1)).d0,uv (walkP x (k+1)).d1,uv (walkP x (k+1)).d2,uv (walkP x (k+1)).d3]]:=fun k=>hP (walkP x k) ⟨0,0,0,1⟩
 replace hs:=Lib.hid hs
 clear hP
 repeat' (first|(refine ZN ?_)|(refine Z2 ?_ ?_)|(intro h h';try simp[*,-h] at h'))
 refine W_loopS (n:=n) (fun s0 m q=> ∃k:Nat,m=n - k∧k≤n∧q.fr 7=iv k∧q.hp ⟨0,3,0⟩= .box 1 [uv (walkP x k).d0,uv (walkP x k).d1,uv (walkP x k).d2,uv (walkP x k).d3] false∧q.fr 6=s0.fr 6∧q.fr 3=s0.fr 3∧q.fr 2=s0.fr 2∧q.fr 5=s0.fr 5∧q.hp ⟨0,5,0⟩=s0.hp ⟨0,5,0⟩) ⟨0,by omega,by omega,by simp,by simp[walkP],by simp,by simp,by simp,by simp,by simp⟩ ?_
 rintro m ⟨fr,hp⟩ ⟨k,rfl,hk,hsl,hbx,k0,k1,k2,k3,k4⟩
 simp at hsl hbx k0 k1 k2 k3 k4
 by_cases hlt:k<n
 ·have hlI:(k:Int)<n:=by omega
  have hw:=wrapN (k:=k) (by omega)
  have h:=hs.out k
  repeat' (first|(refine ZN ?_)|(refine Z2 ?_ ?_)|(intro h h';try simp[*,-h] at h'))
  all_goals exact⟨n - (k+1),by omega,k+1,rfl,by omega,by simp[*],by simp[*],by simp[*],by simp[*],by simp[*],by simp[*],by simp[*]⟩
 ·obtain rfl:k=n:=by omega
  repeat' (first|(refine ZN ?_)|(refine Z2 ?_ ?_)|(intro h h';try simp[*,-h] at h'))
  all_goals rfl
theorem XD_no {f:Nat}(h1:f≠28)(h2:f≠34)(h3:f≠33)(h4:f≠37)(a:List AV):XD.dat f a=none:=by
 simp only[XD]
 split
 ·rw[if_neg];simp[h1,h2]
 ·rw[if_neg];simp[h3,h4]
 ·rfl
theorem rd4_row (a:Q.D4):rd4 (.agg a.row)=some a:=by cases a;rfl
theorem XD_two {f:Nat}(hf:(f==33||f==37)=true)(a b:Q.D4):XD.dat f [.agg a.row,.agg b.row]=some [.agg (Q.pairP a b).row]:=by
 have e:XD.dat f [.agg a.row,.agg b.row]=lit4 (Q.pairP a b):=by
  simp only[XD]
  rw[if_pos hf,rd4_row,rd4_row]
 rw[e,lit4_eq]
theorem XD_pairR (a b:Q.D4):(lim Tryz.prog EK XD).dat 37 [.agg a.row,.agg b.row]=some [.agg (Q.pairP a b).row]:=lim_base_dat (XD_two (by decide) a b)
theorem XD_pair (a b:Q.D4):(lim Tryz.prog EK XD).dat 33 [.agg a.row,.agg b.row]=some [.agg (Q.pairP a b).row]:=lim_base_dat (XD_two (by decide) a b)
theorem LKD_ok :OrcOk Tryz.prog (lim Tryz.prog EK XD):=lim_ok mixed6 EK_law XD_ok
theorem walk_rs (x:Q.D4)(n:Nat)(hn:n≤1048576):SemD Tryz.prog 80 [.agg x.row,iv n] [.agg (walkP x n).row]:=LKD_ok.1 _ _ _ (walk_r (XD_no (by decide) (by decide) (by decide) (by decide)) XD_pairR x n hn)
theorem walk_ps (x:Q.D4)(n:Nat)(hn:n≤1048576):SemD Tryz.prog 104 [.agg x.row,iv n,.dp [uv 0,uv 0,uv 0,uv 1] 0] [.agg (walkP x n).row]:=LKD_ok.1 _ _ _ (walk_p (XD_no (by decide) (by decide) (by decide) (by decide)) XD_pair x n hn)
def tel (n:Int)(f:Int→Option (List AV)):Option (List AV):=match n with
 | .ofNat m=>match m+1 with
  |0=>none
  |k+1=>f (.ofNat k)
 | .negSucc m=>f (.negSucc m)
theorem tel_eq (n:Int)(f:Int→Option (List AV)):tel n f=f n:=by cases n<;>rfl
def walkT :Nat→Q.D4→Option (List AV)
 |0,d=>some [.agg [uv d.d0,uv d.d1,uv d.d2,uv d.d3]]
 |n+1,d=>(fun e:Q.D4=>tel e.d0 fun a=>tel e.d1 fun b=>tel e.d2 fun c=>tel e.d3 fun g=>walkT n ⟨a,b,c,g⟩) (Q.pairP d ⟨0,0,0,1⟩)
theorem walkT_eq : ∀n d,walkT n d=some [.agg (walkP d n).row]
 |0,d=>rfl
 |n+1,d=>by
  simp only[walkT,tel_eq]
  rw[walkP_one]
  exact walkT_eq n _
def XW :Orc:=⟨fun f a=>match a with
 |[x,.sc (.int .i64 n)]=>if f==80&&decide (0≤n)&&decide (n≤15) then(match rd4 x with|some p=>walkT n.toNat p|none=>none) else XD.dat f a
 |[x,.sc (.int .i64 n),.dp [.sc (.int .u32 0),.sc (.int .u32 0),.sc (.int .u32 0),.sc (.int .u32 1)] 0]=>if f==104&&decide (0≤n)&&decide (n≤15) then(match rd4 x with|some p=>walkT n.toNat p|none=>none) else XD.dat f a
 |_=>XD.dat f a,fun _ _ _ _ _=>none⟩
theorem XW_ok :OrcOk Tryz.prog XW:=by
 refine⟨fun f a r h=>?_,fun _ _ _ _ _ _ _ h=>nomatch h⟩
 simp only[XW] at h
 split at h
 ·rename_i x n
  split at h
  ·rename_i hc
   simp only[Bool.and_eq_true,beq_iff_eq,decide_eq_true_eq] at hc
   obtain⟨⟨rfl,h0⟩,h15⟩:=hc
   split at h
   ·rename_i q hq
    rw[walkT_eq] at h
    cases h
    rw[rd4_eq hq]
    obtain⟨m,rfl⟩:=Int.eq_ofNat_of_zero_le h0
    exact walk_rs q m (by omega)
   ·cases h
  ·exact XD_ok.1 _ _ _ h
 ·rename_i x n
  split at h
  ·rename_i hc
   simp only[Bool.and_eq_true,beq_iff_eq,decide_eq_true_eq] at hc
   obtain⟨⟨rfl,h0⟩,h15⟩:=hc
   split at h
   ·rename_i q hq
    rw[walkT_eq] at h
    cases h
    rw[rd4_eq hq]
    obtain⟨m,rfl⟩:=Int.eq_ofNat_of_zero_le h0
    exact walk_ps q m (by omega)
   ·cases h
  ·exact XD_ok.1 _ _ _ h
 ·exact XD_ok.1 _ _ _ h
end
section
open Go Go.Ab
def sd0 :AV:= .agg [uv 2932823035,uv 3379581963,uv 260609817,uv 3905672543]
def sd1 :AV:= .agg [uv 235576429,uv 3379581963,uv 260609817,uv 3905672543]
def key0 :List AV:=[uv 720850131,uv 1907289946,uv 2271014956,uv 1393973132]
def key1 :List AV:=[uv 1801958269,uv 1907289946,uv 2271014956,uv 1393973132]
def sigA :List (List AV):=[[uv 3720311765,uv 3355430862,uv 106809698,uv 3646503560],[uv 1242540699,uv 68341604,uv 2794308440,uv 1340293046],[uv 3396309139,uv 68341604,uv 2794308440,uv 1340293046],[uv 628716992,uv 3951660276,uv 3930972986,uv 3908968203],[uv 2104469472,uv 3009800320,uv 1942577991,uv 332914921],[uv 13746531,uv 3355430862,uv 106809698,uv 3646503560],[uv 3619883078,uv 845841939,uv 239381800,uv 3640732516],[uv 1787188574,uv 947287506,uv 3950757117,uv 3350304957],[uv 422536421,uv 1579329498,uv 840828413,uv 3714164508],[uv 3372904979,uv 3009800320,uv 1942577991,uv 332914921],[uv 3409616163,uv 68341604,uv 2794308440,uv 1340293046],[uv 3220657983,uv 1969232946,uv 3493842354,uv 453650536],[uv 630895607,uv 68341604,uv 2794308440,uv 1340293046],[uv 2159652269,uv 1464014828,uv 645815143,uv 1615191184],[uv 2367757399,uv 2169802557,uv 2002924848,uv 616227216],[uv 463227923,uv 4157669793,uv 3933790160,uv 2244688493],[uv 1981703245,uv 1969232946,uv 3493842354,uv 453650536],[uv 575555318,uv 3009800320,uv 1942577991,uv 332914921],[uv 1360988812,uv 3951660276,uv 3930972986,uv 3908968203],[uv 931977259,uv 1464014828,uv 645815143,uv 1615191184],[uv 2493713073,uv 947287506,uv 3950757117,uv 3350304957],[uv 765614253,uv 947287506,uv 3950757117,uv 3350304957],[uv 3283780422,uv 947287506,uv 3950757117,uv 3350304957],[uv 1702642518,uv 3037547900,uv 4091958367,uv 1904584872],[uv 3121301728,uv 3816230895,uv 1872614766,uv 1556485170],[uv 2759823044,uv 1579329498,uv 840828413,uv 3714164508],[uv 3902007696,uv 3009800320,uv 1942577991,uv 332914921],[uv 3954020341,uv 2169802557,uv 2002924848,uv 616227216],[uv 2329307822,uv 68341604,uv 2794308440,uv 1340293046],[uv 1433179484,uv 1464014828,uv 645815143,uv 1615191184],[uv 3265044935,uv 3009800320,uv 1942577991,uv 332914921],[uv 2416785624,uv 845841939,uv 239381800,uv 3640732516],[uv 2445399947,uv 1464014828,uv 645815143,uv 1615191184],[uv 1858307957,uv 1464014828,uv 645815143,uv 1615191184],[uv 3189900792,uv 3951660276,uv 3930972986,uv 3908968203]]
def sigB :List (List AV):=[[uv 3410643344,uv 2169802557,uv 2002924848,uv 616227216],[uv 2128080582,uv 3037547900,uv 4091958367,uv 1904584872],[uv 2666170835,uv 3037547900,uv 4091958367,uv 1904584872],[uv 699948871,uv 1969232946,uv 3493842354,uv 453650536],[uv 2533027269,uv 4157669793,uv 3933790160,uv 2244688493],[uv 1881971536,uv 2169802557,uv 2002924848,uv 616227216],[uv 473338993,uv 1464014828,uv 645815143,uv 1615191184],[uv 3124658446,uv 3355430862,uv 106809698,uv 3646503560],[uv 1857479322,uv 613828584,uv 1734600712,uv 2558120244],[uv 3086184218,uv 1579329498,uv 840828413,uv 3714164508],[uv 943287343,uv 613828584,uv 1734600712,uv 2558120244],[uv 1520054320,uv 1579329498,uv 840828413,uv 3714164508],[uv 766662046,uv 526657288,uv 1096075028,uv 2854606790],[uv 1082495393,uv 3009800320,uv 1942577991,uv 332914921],[uv 3822968489,uv 68341604,uv 2794308440,uv 1340293046],[uv 3889595162,uv 1969232946,uv 3493842354,uv 453650536],[uv 2122195113,uv 845841939,uv 239381800,uv 3640732516],[uv 2875104462,uv 4157669793,uv 3933790160,uv 2244688493],[uv 1279810308,uv 947287506,uv 3950757117,uv 3350304957],[uv 2420192601,uv 2169802557,uv 2002924848,uv 616227216],[uv 3280946830,uv 3355430862,uv 106809698,uv 3646503560],[uv 2342597700,uv 947287506,uv 3950757117,uv 3350304957],[uv 691800418,uv 1464014828,uv 645815143,uv 1615191184],[uv 277453432,uv 1579329498,uv 840828413,uv 3714164508],[uv 2172724915,uv 526657288,uv 1096075028,uv 2854606790],[uv 4210385789,uv 3355430862,uv 106809698,uv 3646503560],[uv 2789410469,uv 1579329498,uv 840828413,uv 3714164508],[uv 723450018,uv 3037547900,uv 4091958367,uv 1904584872],[uv 3686239343,uv 947287506,uv 3950757117,uv 3350304957],[uv 1144651079,uv 947287506,uv 3950757117,uv 3350304957],[uv 3627995591,uv 4157669793,uv 3933790160,uv 2244688493],[uv 2929092185,uv 68341604,uv 2794308440,uv 1340293046],[uv 2184982965,uv 1969232946,uv 3493842354,uv 453650536],[uv 1785972253,uv 4157669793,uv 3933790160,uv 2244688493],[uv 2908070717,uv 3009800320,uv 1942577991,uv 332914921]]
def pubA :List AV:=[uv 3589047133,uv 3549922436,uv 2911926221,uv 98228837]
theorem pub0_x :(lim Tryz.prog EK XW).dat 77 [sd0]=some [.agg key0]:=lim_dat.2 ⟨80,by kernel_rfl⟩
theorem pub0_s :SemD Tryz.prog 77 [sd0] [.agg key0]:=(lim_ok mixed6 EK_law XW_ok).1 _ _ _ pub0_x
theorem pub1_x :(lim Tryz.prog EK XW).dat 77 [sd1]=some [.agg key1]:=lim_dat.2 ⟨80,by kernel_rfl⟩
theorem pub1_s :SemD Tryz.prog 77 [sd1] [.agg key1]:=(lim_ok mixed6 EK_law XW_ok).1 _ _ _ pub1_x
theorem sig0_x :(lim Tryz.prog EK XW).dat 66 [sd0,.agg lkA]=some [.vec 4 sigA]:=lim_dat.2 ⟨80,by kernel_rfl⟩
theorem sig0_s :SemD Tryz.prog 66 [sd0,.agg lkA] [.vec 4 sigA]:=(lim_ok mixed6 EK_law XW_ok).1 _ _ _ sig0_x
theorem sig1_x :(lim Tryz.prog EK XW).dat 66 [sd1,.agg hdA]=some [.vec 4 sigB]:=lim_dat.2 ⟨80,by kernel_rfl⟩
theorem sig1_s :SemD Tryz.prog 66 [sd1,.agg hdA] [.vec 4 sigB]:=(lim_ok mixed6 EK_law XW_ok).1 _ _ _ sig1_x
def XU :Orc:=orX (oneX 77 [sd0] [.agg key0]) (orX (oneX 77 [sd1] [.agg key1]) (orX (oneX 66 [sd0,.agg lkA] [.vec 4 sigA]) (orX (oneX 66 [sd1,.agg hdA] [.vec 4 sigB]) XD)))
theorem XU_ok :OrcOk Tryz.prog XU:=orX_ok (oneX_ok pub0_s) (orX_ok (oneX_ok pub1_s) (orX_ok (oneX_ok sig0_s) (orX_ok (oneX_ok sig1_s) XD_ok)))
theorem say0_x :(lim Tryz.prog EK XU).dat 30 a30=some [.agg saR]:=lim_dat.2 ⟨80,by kernel_rfl⟩
theorem say0_s :SemD Tryz.prog 30 a30 [.agg saR]:=(lim_ok mixed6 EK_law XU_ok).1 _ _ _ say0_x
theorem say1_x :(lim Tryz.prog EK XU).dat 31 a31=some [.agg sbR]:=lim_dat.2 ⟨80,by kernel_rfl⟩
theorem say1_s :SemD Tryz.prog 31 a31 [.agg sbR]:=(lim_ok mixed6 EK_law XU_ok).1 _ _ _ say1_x
def sgA :AV:= .agg [iv 0,.sl false 4 sigA,.sl false 4 [key1]]
def sgB :AV:= .agg [iv 1,.sl false 4 sigB,.sl false 4 [key0]]
theorem chk0_x :(lim Tryz.prog EK XW).dat 71 [.agg pubA,.agg lkA,sgA]=some [bv true]:=lim_dat.2 ⟨80,by kernel_rfl⟩
theorem chk0_s :SemD Tryz.prog 71 [.agg pubA,.agg lkA,sgA] [bv true]:=(lim_ok mixed6 EK_law XW_ok).1 _ _ _ chk0_x
theorem chk1_x :(lim Tryz.prog EK XW).dat 71 [.agg pubA,.agg hdA,sgB]=some [bv true]:=lim_dat.2 ⟨80,by kernel_rfl⟩
theorem chk1_s :SemD Tryz.prog 71 [.agg pubA,.agg hdA,sgB] [bv true]:=(lim_ok mixed6 EK_law XW_ok).1 _ _ _ chk1_x
end
end Go.Proofs.YtpedpkegmalgmaaGreatDoor
namespace Go.Ab.Sy
open Go Go.Ab
abbrev iz (n:Int):AV:= .sc (.int .i64 n)
abbrev uz (n:Int):AV:= .sc (.int .u32 n)
abbrev tz (s:ByteArray):AV:= .sc (.string s)
abbrev bz (b:Bool):AV:= .sc (.bool b)
@[ext] structure Tx where
 val:ByteArray
 le:val.size≤20000
deriving DecidableEq
instance:Coe Tx ByteArray:=⟨Tx.val⟩
abbrev tx0 :Tx:=⟨⟨#[]⟩,by decide⟩
structure Tok where
 kind:Int
 text:Tx
 num:Int
 at_:Int
def Tok.row (t:Tok):List AV:=[iz t.kind,tz t.text.1,uz t.num,iz t.at_]
inductive Ex where
 |mk (kind op num:Int) (name:Tx) (kids:List Ex)
namespace Ex
def kind :Ex→Int| .mk k _ _ _ _=>k
def op :Ex→Int| .mk _ o _ _ _=>o
def num :Ex→Int| .mk _ _ n _ _=>n
def name :Ex→Tx| .mk _ _ _ s _=>s
def kids :Ex→List Ex| .mk _ _ _ _ l=>l
end Ex
mutual
def Ex.row :Ex→List AV
 | .mk k o n s l=>[iz k,iz o,uz n,tz s.1,.sl false 5 (exRows l)]
def exRows :List Ex→List (List AV)
 |[]=>[]
 |e::l=>e.row::exRows l
end
mutual
def Ex.size :Ex→Nat
 | .mk _ _ _ _ l=>exSize l+1
def exSize :List Ex→Nat
 |[]=>0
 |e::l=>e.size+exSize l
end
@[simp] theorem exRows_nil :exRows []=[]:=by rw[exRows]
@[simp] theorem exRows_cons (e:Ex)(l:List Ex):exRows (e::l)=e.row::exRows l:=by rw[exRows]
theorem exRows_eq : ∀l,exRows l=l.map Ex.row
 |[]=>rfl
 |e::l=>by simp[exRows_eq l]
@[simp] theorem exRows_length (l:List Ex):(exRows l).length=l.length:=by simp[exRows_eq]
@[simp] theorem exRows_app (l m:List Ex):exRows (l++m)=exRows l++exRows m:=by simp[exRows_eq]
theorem Ex.row_eq (e:Ex):e.row=[iz e.kind,iz e.op,uz e.num,tz e.name.1,.sl false 5 (exRows e.kids)]:=by
 cases e;rw[Ex.row];rfl
@[simp] theorem exSize_nil :exSize []=0:=by rw[exSize]
@[simp] theorem exSize_cons (e:Ex)(l:List Ex):exSize (e::l)=e.size+exSize l:=by rw[exSize]
@[simp] theorem exSize_app : ∀l m:List Ex,exSize (l++m)=exSize l+exSize m
 |[],m=>by simp
 |e::l,m=>by simp[exSize_app l m,Nat.add_assoc]
theorem Ex.size_eq (e:Ex):e.size=exSize e.kids+1:=by cases e;rw[Ex.size];rfl
theorem Ex.size_pos (e:Ex):1≤e.size:=by rw[Ex.size_eq];omega
theorem exSize_len : ∀l:List Ex,l.length≤exSize l
 |[]=>by simp
 |e::l=>by have:=exSize_len l;have:=e.size_pos;simp;omega
inductive St where
 |mk (kind:Int) (name:Tx) (e:List Ex) (th el:List St)
namespace St
def kind :St→Int| .mk k _ _ _ _=>k
def name :St→Tx| .mk _ s _ _ _=>s
def e :St→List Ex| .mk _ _ e _ _=>e
def th :St→List St| .mk _ _ _ t _=>t
def el :St→List St| .mk _ _ _ _ t=>t
end St
mutual
def St.row :St→List AV
 | .mk k s e t f=>[iz k,tz s.1,.sl false 5 (exRows e),.sl false 5 (stRows t),.sl false 5 (stRows f)]
def stRows :List St→List (List AV)
 |[]=>[]
 |e::l=>e.row::stRows l
end
mutual
def St.size :St→Nat
 | .mk _ _ e t f=>exSize e+stSize t+stSize f+1
def stSize :List St→Nat
 |[]=>0
 |e::l=>e.size+stSize l
end
@[simp] theorem stRows_nil :stRows []=[]:=by rw[stRows]
@[simp] theorem stRows_cons (e:St)(l:List St):stRows (e::l)=e.row::stRows l:=by rw[stRows]
theorem stRows_eq : ∀l,stRows l=l.map St.row
 |[]=>rfl
 |e::l=>by simp[stRows_eq l]
@[simp] theorem stRows_length (l:List St):(stRows l).length=l.length:=by simp[stRows_eq]
@[simp] theorem stRows_app (l m:List St):stRows (l++m)=stRows l++stRows m:=by simp[stRows_eq]
theorem St.row_eq (s:St):s.row=[iz s.kind,tz s.name.1,.sl false 5 (exRows s.e),.sl false 5 (stRows s.th),.sl false 5 (stRows s.el)]:=by
 cases s;rw[St.row];rfl
@[simp] theorem stSize_nil :stSize []=0:=by rw[stSize]
@[simp] theorem stSize_cons (e:St)(l:List St):stSize (e::l)=e.size+stSize l:=by rw[stSize]
@[simp] theorem stSize_app : ∀l m:List St,stSize (l++m)=stSize l+stSize m
 |[],m=>by simp
 |e::l,m=>by simp[stSize_app l m,Nat.add_assoc]
theorem St.size_eq (s:St):s.size=exSize s.e+stSize s.th+stSize s.el+1:=by cases s;rw[St.size];rfl
theorem St.size_pos (e:St):1≤e.size:=by rw[St.size_eq];omega
theorem stSize_len : ∀l:List St,l.length≤stSize l
 |[]=>by simp
 |e::l=>by have:=stSize_len l;have:=e.size_pos;simp;omega
abbrev txRows (l:List Tx):List (List AV):=l.map fun s=>[tz s.1]
abbrev tbRows (l:List ByteArray):List (List AV):=l.map fun s=>[tz s]
structure Fu where
 name:Tx
 params:List Tx
 locals:List Tx
 word:Bool
 body:List St
def Fu.row (f:Fu):List AV:=[tz f.name.1,.sl false 1 (txRows f.params),.sl false 1 (txRows f.locals),bz f.word,.sl false 5 (stRows f.body)]
def Fu.size (f:Fu):Nat:=f.params.length+f.locals.length+stSize f.body+1
structure Pr where
 vars:List Tx
 arrays:List (Tx×Int)
 funcs:List Fu
def arRows (l:List (Tx×Int)):List (List AV):=l.map fun a=>[tz a.1.1,iz a.2]
def Pr.row (p:Pr):List AV:=[.sl false 1 (txRows p.vars),.sl false 2 (arRows p.arrays),.sl false 5 (p.funcs.map Fu.row)]
def fuSize :List Fu→Nat
 |[]=>0
 |f::l=>f.size+fuSize l
def Pr.size (p:Pr):Nat:=p.vars.length+p.arrays.length+fuSize p.funcs
@[simp] theorem fuSize_nil :fuSize []=0:=rfl
@[simp] theorem fuSize_cons (f:Fu)(l:List Fu):fuSize (f::l)=f.size+fuSize l:=rfl
@[simp] theorem fuSize_app : ∀l m:List Fu,fuSize (l++m)=fuSize l+fuSize m
 |[],m=>by simp
 |e::l,m=>by simp[fuSize_app l m,Nat.add_assoc]
theorem fuSize_len : ∀l:List Fu,l.length≤fuSize l
 |[]=>by simp
 |e::l=>by have:=fuSize_len l;simp[Fu.size];omega
namespace Cx
end Cx
namespace Cs
end Cs
end Go.Ab.Sy
namespace Go.Proofs.YtpedpkegmalgmaaGreatDoor
section
open Go Go.Ab Go.Ab.Sy
def wrongV (a:Int):Value:= .iface 217 (.agg ⟨[.int .i64 a]⟩)
structure Rd (T:List Tok)(e:Int)(q gx gy n:Nat)(hp:Hp):Prop where
 box:hp ⟨1,q,0⟩= .box gx [.own ⟨1,q,1⟩ gy T.length,iv n,iv e] false
 arr:hp ⟨1,q,1⟩= .arr gy 4 223 (T.map Tok.row) false
 len:T.length≤1048576
 le:n≤T.length
def Far (k q:Nat)(hp1 hp2:Hp):Prop:= ∀d i c,d≤k→(⟨d,i,c⟩:Nm)≠⟨1,q,0⟩→hp2 ⟨d,i,c⟩=hp1 ⟨d,i,c⟩
abbrev Wr (k q:Nat)(hp1:Hp)(v:Value)(hp2:Hp):Prop:=(∃a,v=wrongV a)∧Far k q hp1 hp2
def peekT (T:List Tok)(n:Nat):ByteArray:=match T[n]? with|some t=>if t.kind=3∨t.kind=4 then t.text.1 else⟨#[]⟩|none=>⟨#[]⟩
def kindT (T:List Tok)(n:Nat):Int:=match T[n]? with|some t=>t.kind|none=>0
attribute [simp] resultV lowerRes lowerV lowerAll
theorem lim_hpcBk {P:Program}{E:Cfg}{X:Orc}{f k k1 d:Nat}{fn:Func}{c:Code}{args:List AV}{hp:Hp}{rvs:List ResultVar}{R:AV→Hp→Prop}{PR:Value→Hp→Prop}(hk:k+1=k1)(hf:P.funcs[f]?=some fn)(hx:X.hpc k d f args hp=none)(hb:fn.body=some c)(hok:bodyOk fn=true)(hl:args.length=fn.params.size+fn.nfree)
  (hrv:fn.results.toList=rvs) (h:W P E k1 (lim P E X) c ⟨frame0 args,hp⟩ (EndB P k d rvs R PR)) (hi:E.inl f=false:=by first|rfl|simp) (hz:E.frz f=false:=by first|rfl|simp):
  (∃v hp',(lim P E X).hpc k d f args hp=some (v,hp')∧R v hp')∨ ∃n v hp',Pan P E (lim P E X) (.fn k f args hp) n v hp'∧PR v hp':=by
 subst hk
 exact lim_hpcB hf hx hb hok hl hrv h hi hz
theorem lim_hpcBZk {P:Program}{E:Cfg}{X:Orc}{f k k1 d:Nat}{fn:Func}{c:Code}{args:List AV}{hp:Hp}{rvs:List ResultVar}{ts:List TypeId}{R:AV→Hp→Prop}{PR:Value→Hp→Prop}(hk:k+1=k1)(hf:P.funcs[f]?=some fn)(hx:X.hpc k d f args hp=none)(hb:fn.body=some c)(hok:bodyOk fn=true)(hl:args.length=fn.params.size+fn.nfree)
  (hrv:fn.results.toList=rvs) (ht:rtys P f=ts) (h:W P E k1 (lim P E X) c ⟨frame0 args,hp⟩ (EndBZ P ts rvs R PR)) (hi:E.inl f=false:=by first|rfl|simp) (hz:E.frz f=true:=by first|rfl|simp):
  (∃v hp',(lim P E X).hpc k d f args hp=some (v,hp')∧R v hp')∨ ∃n v hp',Pan P E (lim P E X) (.fn k f args hp) n v hp'∧PR v hp':=by
 subst hk
 exact lim_hpcBZ hf hx hb hok hl hrv ht h hi hz
attribute [simp] resultV lowerRes lowerV lowerAll
@[simp] theorem Tok.row_mk (k:Int)(t:Tx)(n a:Int):Tok.row ⟨k,t,n,a⟩=[iz k,tz t.1,uz n,iz a]:=rfl
theorem T_none {T:List Tok}{n:Nat}(h: ¬n<T.length):T[n]?=none:=List.getElem?_eq_none (by omega)
@[simp] theorem lk_ne {d k i j c c':Nat}(h:d≠k):((⟨d,i,c⟩:Nm)=⟨k,j,c'⟩)=False:=by simp[h]
theorem peek {T:List Tok}{e:Int}{q n gx gy:Nat}(D:Nat)(hD:1≤D)(d:Nat)(hp1:Hp)(hr:Rd T e q gx gy n hp1):HB Tryz.prog E47 (Lm X46) D d 167 [.ptr ⟨1,q,0⟩ gx 0] hp1 (fun v hp2=>v=tv (peekT T n)∧Rd T e q gx gy n hp2∧Far D q hp1 hp2) (Wr D q hp1):=by
 obtain⟨k,rfl⟩: ∃k,D=k+1:=⟨D - 1,by omega⟩
 clear hD
 refine lim_hpcBk (k1:=k+2) (PR:=Wr (k+1) q hp1) rfl Tryz.func167 rfl rfl bodyOk_167 rfl rvs_167 ?_
 obtain⟨h1,h2,hlen,hle⟩:=hr
 by_cases hn:n<T.length
 ·have e1:(n:Int)<T.length:=by omega
  have e3:T[n]?=some T[n]:=List.getElem?_eq_getElem hn
  generalize hq:T[n]=t at*
  obtain⟨tk,tt,tn,ta⟩:=t
  by_cases k3:tk=3
  ·subst k3
   repeat' (first|(refine ZN ?_)|(refine Z2 ?_ ?_)|(intro h h';try simp[*,-h] at h'))
   all_goals refine⟨by simp[peekT,kindT,e3, *];done,⟨by simp[*],by simp[*],hlen,hle⟩,fun d i c hd hne=>by have hd2:d≠k+2:=(by omega);simp[hd2,hne]⟩
  ·by_cases k4:tk=4
   ·subst k4
    repeat' (first|(refine ZN ?_)|(refine Z2 ?_ ?_)|(intro h h';try simp[*,-h] at h'))
    all_goals refine⟨by simp[peekT,kindT,e3, *];done,⟨by simp[*],by simp[*],hlen,hle⟩,fun d i c hd hne=>by have hd2:d≠k+2:=(by omega);simp[hd2,hne]⟩
   ·have q3:(tk==3)=false:=by simpa using k3
    have q4:(tk==4)=false:=by simpa using k4
    repeat' (first|(refine ZN ?_)|(refine Z2 ?_ ?_)|(intro h h';try simp[*,-h] at h'))
    all_goals refine⟨by simp[peekT,kindT,e3, *];done,⟨by simp[*],by simp[*],hlen,hle⟩,fun d i c hd hne=>by have hd2:d≠k+2:=(by omega);simp[hd2,hne]⟩
 ·have e1: ¬(n:Int)<T.length:=by omega
  have e3:T[n]?=none:=T_none hn
  repeat' (first|(refine ZN ?_)|(refine Z2 ?_ ?_)|(intro h h';try simp[*,-h] at h'))
  all_goals refine⟨by simp[peekT,kindT,e3, *];done,⟨by simp[*],by simp[*],hlen,hle⟩,fun d i c hd hne=>by have hd2:d≠k+2:=(by omega);simp[hd2,hne]⟩
theorem kind {T:List Tok}{e:Int}{q n gx gy:Nat}(D:Nat)(hD:1≤D)(d:Nat)(hp1:Hp)(hr:Rd T e q gx gy n hp1):HB Tryz.prog E47 (Lm X46) D d 168 [.ptr ⟨1,q,0⟩ gx 0] hp1 (fun v hp2=>v=iv (kindT T n)∧Rd T e q gx gy n hp2∧Far D q hp1 hp2) (Wr D q hp1):=by
 obtain⟨k,rfl⟩: ∃k,D=k+1:=⟨D - 1,by omega⟩
 clear hD
 refine lim_hpcBk (k1:=k+2) (PR:=Wr (k+1) q hp1) rfl Tryz.func168 rfl rfl bodyOk_168 rfl rvs_168 ?_
 obtain⟨h1,h2,hlen,hle⟩:=hr
 by_cases hn:n<T.length
 ·have e1:(n:Int)<T.length:=by omega
  have e3:T[n]?=some T[n]:=List.getElem?_eq_getElem hn
  generalize hq:T[n]=t at*
  obtain⟨tk,tt,tn,ta⟩:=t
  repeat' (first|(refine ZN ?_)|(refine Z2 ?_ ?_)|(intro h h';try simp[*,-h] at h'))
  all_goals refine⟨by simp[peekT,kindT,e3, *];done,⟨by simp[*],by simp[*],hlen,hle⟩,fun d i c hd hne=>by have hd2:d≠k+2:=(by omega);simp[hd2,hne]⟩
 ·have e1: ¬(n:Int)<T.length:=by omega
  have e3:T[n]?=none:=T_none hn
  repeat' (first|(refine ZN ?_)|(refine Z2 ?_ ?_)|(intro h h';try simp[*,-h] at h'))
  all_goals refine⟨by simp[peekT,kindT,e3, *];done,⟨by simp[*],by simp[*],hlen,hle⟩,fun d i c hd hne=>by have hd2:d≠k+2:=(by omega);simp[hd2,hne]⟩
theorem fail {T:List Tok}{e:Int}{q n gx gy:Nat}(D:Nat)(hD:1≤D)(d:Nat)(hp1:Hp)(hr:Rd T e q gx gy n hp1):HB Tryz.prog E47 (Lm X46) D d 137 [.ptr ⟨1,q,0⟩ gx 0] hp1 (fun v hp2=>False) (Wr D q hp1):=by
 obtain⟨k,rfl⟩: ∃k,D=k+1:=⟨D - 1,by omega⟩
 clear hD
 refine lim_hpcBk (k1:=k+2) (PR:=Wr (k+1) q hp1) rfl Tryz.func137 rfl rfl bodyOk_137 rfl rvs_137 ?_
 obtain⟨h1,h2,hlen,hle⟩:=hr
 by_cases hn:n<T.length
 ·have e1:(n:Int)<T.length:=by omega
  have e3:T[n]?=some T[n]:=List.getElem?_eq_getElem hn
  generalize hq:T[n]=t at*
  obtain⟨tk,tt,tn,ta⟩:=t
  repeat' (first|(apply W_srdt (c:=13) (idx:=[0,1,2,3,4,5,6,7,8,9,10,11,12]);(kernel_rfl);(kernel_rfl);(simp only[List.map_cons,List.map_nil,Array.getD_eq_getD_getElem?,List.getElem?_toArray,List.getElem?_cons_zero,List.getElem?_cons_succ,Option.getD_some]);(repeat' (first|exact Free.nil|((with_reducible apply Free_cons);(exact Zc))));(exact rfl);exact Zc)|(refine Z1 ?_)|(refine Z2 ?_ ?_)|(intro h h';try simp[*,-h] at h'))
  all_goals exact⟨⟨_,rfl⟩,fun _ _ _ _ _=>rfl⟩
 ·have e1: ¬(n:Int)<T.length:=by omega
  have e3:T[n]?=none:=T_none hn
  repeat' (first|(refine ZN ?_)|(refine Z2 ?_ ?_)|(intro h h';try simp[*,-h] at h'))
  all_goals exact⟨⟨_,rfl⟩,fun _ _ _ _ _=>rfl⟩
theorem Far.trans {k k' q:Nat}{a b c:Hp}(h1:Far k q a b)(h2:Far k' q b c)(h:k≤k'):Far k q a c:=fun d i x hd hne=>(h2 d i x (by omega) hne).trans (h1 d i x hd hne)
theorem Far.own {D q:Nat}{a b:Hp}(h:Far D q a b)(hD:D≠1): ∀i c,b ⟨D,i,c⟩=a ⟨D,i,c⟩:=fun i c=>h _ i c (Nat.le_refl _) (by simp[hD])
theorem Far.all {k k1 q:Nat}{a b:Hp}(h:Far k1 q a b)(hk:k≤k1): ∀d i c,d≤k→(⟨d,i,c⟩:Nm)≠⟨1,q,0⟩→b ⟨d,i,c⟩=a ⟨d,i,c⟩:=fun d i c hd hne=>h d i c (by omega) hne
theorem peek_pos {T:List Tok}{n:Nat}{s:ByteArray}(h:peekT T n=s)(hs:s≠⟨#[]⟩):n<T.length:=by
 by_cases hn:n<T.length
 ·exact hn
 ·unfold peekT at h
  rw[T_none hn] at h
  exact(hs h.symm).elim
theorem kind_pos {T:List Tok}{n:Nat}{k:Int}(h:kindT T n=k)(hs:k≠0):n<T.length:=by
 by_cases hn:n<T.length
 ·exact hn
 ·unfold kindT at h
  rw[T_none hn] at h
  exact(hs h.symm).elim
end
section
open Go Go.Ab Go.Ab.Sy
theorem may {T:List Tok}{e:Int}{q n gx gy:Nat}{s:ByteArray}(D:Nat)(hD:2≤D)(d:Nat)(hp1:Hp)(hs:s≠⟨#[]⟩)(hr:Rd T e q gx gy n hp1):HB Tryz.prog E47 (Lm X46) D d 138 [.ptr ⟨1,q,0⟩ gx 0,tv s] hp1 (fun v hp2=>(v=bv false∧Rd T e q gx gy n hp2∧Far D q hp1 hp2)∨(v=bv true∧n<T.length∧Rd T e q gx gy (n+1) hp2∧Far D q hp1 hp2)) (Wr D q hp1):=by
 obtain⟨k,rfl⟩: ∃k,D=k+2:=⟨D - 2,by omega⟩
 clear hD
 refine lim_hpcBk (k1:=k+3) (PR:=Wr (k+2) q hp1) rfl Tryz.func138 rfl rfl bodyOk_138 rfl rvs_138 ?_
 obtain⟨h1,h2,hlen,hle⟩:=hr
 have w1:IntKind.i64.wrap ((n:Int)+1)=(n:Int)+1:=wrapN (by omega)
 repeat' (first|(refine ZN ?_)|(refine Z2 ?_ ?_)|(intro h h';try simp[*,-h] at h')|(exact⟨⟨_,rfl⟩,fun d i c hd hne=>(hpf d i c (by omega) hne).trans (by have hd2:d≠k+3:=(by omega);first|exact HF.out d i c hd hne|(simp[*];done)|(simp[*];exact HF.out d i c hd hne))⟩)|((with_reducible apply Wo_call (f:=167));(iterate 5 exact Z5);(apply peek (k+3) (by omega));(constructor);((conv=>lhs;simp -implicitDefEqProofs [*,-Int.natCast_add])<;>exact rfl);(exact Zc);(assumption);(omega);rotate_left;(rintro _ hpp ⟨⟨a,rfl⟩,hpf⟩);rotate_right;(rintro _ hp2 ⟨rfl,⟨hb2,ha2,_,_⟩,hf2⟩;have hO2:=hf2.own (by omega);have hL2:=hf2.all (k:=k+2) (by omega);clear hf2))|fail)
 ·left
  exact⟨rfl,⟨by simp[*],by simp[*],hlen,hle⟩,fun d i c hd hne=>by have hd2:d≠k+3:=(by omega);simp[*]⟩
 ·right
  have hn:n<T.length:=peek_pos (by assumption) hs
  exact⟨rfl,hn,⟨by simp[*],by simp[*],hlen,hn⟩,fun d i c hd hne=>by have hd2:d≠k+3:=(by omega);simp[*]⟩
theorem take {T:List Tok}{e:Int}{q n gx gy:Nat}{kd:Int}(D:Nat)(hD:2≤D)(d:Nat)(hp1:Hp)(hs:kd≠0)(hr:Rd T e q gx gy n hp1):HB Tryz.prog E47 (Lm X46) D d 140 [.ptr ⟨1,q,0⟩ gx 0,iv kd] hp1 (fun v hp2=> ∃t:Tok,v= .agg t.row∧n<T.length∧Rd T e q gx gy (n+1) hp2∧Far D q hp1 hp2) (Wr D q hp1):=by
 obtain⟨k,rfl⟩: ∃k,D=k+2:=⟨D - 2,by omega⟩
 clear hD
 refine lim_hpcBZk (k1:=k+3) (PR:=Wr (k+2) q hp1) rfl Tryz.func140 rfl rfl bodyOk_140 rfl rvs_140 rtys_140 ?_
 obtain⟨h1,h2,hlen,hle⟩:=hr
 have w1:IntKind.i64.wrap ((n:Int)+1)=(n:Int)+1:=wrapN (by omega)
 by_cases hkd:kindT T n=kd
 ·have hn:n<T.length:=kind_pos hkd hs
  have e1:(n:Int)<T.length:=by omega
  have e3:T[n]?=some T[n]:=List.getElem?_eq_getElem hn
  generalize hq:T[n]=t at*
  obtain⟨tk,tt,tn,ta⟩:=t
  repeat' (first|(refine ZN ?_)|(refine Z2 ?_ ?_)|(intro h h';try simp[*,-h] at h')|(exact⟨⟨_,rfl⟩,fun d i c hd hne=>(hpf d i c (by omega) hne).trans (by have hd2:d≠k+3:=(by omega);first|exact HF.out d i c hd hne|(simp[*];done)|(simp[*];exact HF.out d i c hd hne))⟩)|((with_reducible apply Wo_call (f:=168));(iterate 5 exact Z5);(apply kind (k+3) (by omega));(constructor);((conv=>lhs;simp -implicitDefEqProofs [*,-Int.natCast_add])<;>exact rfl);(exact Zc);(assumption);(omega);rotate_left;(rintro _ hpp ⟨⟨a,rfl⟩,hpf⟩);rotate_right;(rintro _ hp2 ⟨rfl,⟨hb2,ha2,_,_⟩,hf2⟩;have hO2:=hf2.own (by omega);have hL2:=hf2.all (k:=k+2) (by omega);clear hf2))|((with_reducible apply Wo_call (f:=137));(iterate 5 exact Z5);(apply fail (k+3) (by omega));(constructor);((conv=>lhs;simp -implicitDefEqProofs [*,-Int.natCast_add])<;>exact rfl);(exact Zc);(assumption);(omega);rotate_left;(rintro _ hpp ⟨⟨a,rfl⟩,hpf⟩);rotate_right;(rintro _ _ hf2;exact hf2.elim))|fail)
  all_goals exact⟨⟨tk,tt,tn,ta⟩,rfl,hn,⟨by simp[*],by simp[*],hlen,hn⟩,fun d i c hd hne=>by have hd2:d≠k+3:=(by omega);simp[*]⟩
 ·
  repeat' (first|(refine ZN ?_)|(refine Z2 ?_ ?_)|(intro h h';try simp[*,-h] at h')|(exact⟨⟨_,rfl⟩,fun d i c hd hne=>(hpf d i c (by omega) hne).trans (by have hd2:d≠k+3:=(by omega);first|exact HF.out d i c hd hne|(simp[*];done)|(simp[*];exact HF.out d i c hd hne))⟩)|((with_reducible apply Wo_call (f:=168));(iterate 5 exact Z5);(apply kind (k+3) (by omega));(constructor);((conv=>lhs;simp -implicitDefEqProofs [*,-Int.natCast_add])<;>exact rfl);(exact Zc);(assumption);(omega);rotate_left;(rintro _ hpp ⟨⟨a,rfl⟩,hpf⟩);rotate_right;(rintro _ hp2 ⟨rfl,⟨hb2,ha2,_,_⟩,hf2⟩;have hO2:=hf2.own (by omega);have hL2:=hf2.all (k:=k+2) (by omega);clear hf2))|((with_reducible apply Wo_call (f:=137));(iterate 5 exact Z5);(apply fail (k+3) (by omega));(constructor);((conv=>lhs;simp -implicitDefEqProofs [*,-Int.natCast_add])<;>exact rfl);(exact Zc);(assumption);(omega);rotate_left;(rintro _ hpp ⟨⟨a,rfl⟩,hpf⟩);rotate_right;(rintro _ _ hf2;exact hf2.elim))|fail)
theorem must {T:List Tok}{e:Int}{q n gx gy:Nat}{l:List ByteArray}{s0 gl:Nat}(D:Nat)(hD:2≤D)(d:Nat)(hp1:Hp)(hs: ∀s∈l,s≠⟨#[]⟩)(hl:l.length≤8)(hls:hp1 ⟨D,s0,0⟩= .arr gl 1 9 (tbRows l) false)(hr:Rd T e q gx gy n hp1):HB Tryz.prog E47 (Lm X46) D d 141 [.ptr ⟨1,q,0⟩ gx 0,.own ⟨D,s0,0⟩ gl l.length] hp1 (fun v hp2=>v= .tup []∧n+l.length≤T.length∧Rd T e q gx gy (n+l.length) hp2∧Far D q hp1 hp2) (Wr D q hp1):=by
 obtain⟨k,rfl⟩: ∃k,D=k+2:=⟨D - 2,by omega⟩
 clear hD
 refine lim_hpcBk (k1:=k+3) (PR:=Wr (k+2) q hp1) rfl Tryz.func141 rfl rfl bodyOk_141 rfl rvs_141 ?_
 obtain⟨h1,h2,hlen,hle⟩:=hr
 have w1: ∀i:Nat,i≤1048576→IntKind.i64.wrap ((i:Int)+1)=(i:Int)+1:=fun i hi=>wrapN (by omega)
 repeat' (first|(refine ZN ?_)|(refine Z2 ?_ ?_)|(intro h h';try simp[*,-h] at h')|(exact⟨⟨_,rfl⟩,fun d i c hd hne=>(hpf d i c (by omega) hne).trans (by have hd2:d≠k+3:=(by omega);first|exact HF.out d i c hd hne|(simp[*];done)|(simp[*];exact HF.out d i c hd hne))⟩)|((with_reducible apply Wo_call (f:=167));(iterate 5 exact Z5);(apply peek (k+3) (by omega));(constructor);((conv=>lhs;simp -implicitDefEqProofs [*,-Int.natCast_add])<;>exact rfl);(exact Zc);(assumption);(omega);rotate_left;(rintro _ hpp ⟨⟨a,rfl⟩,hpf⟩);rotate_right;(rintro _ hp2 ⟨rfl,⟨hb2,ha2,_,_⟩,hf2⟩;have hO2:=hf2.own (by omega);have hL2:=hf2.all (k:=k+2) (by omega);clear hf2))|((with_reducible apply Wo_call (f:=137));(iterate 5 exact Z5);(apply fail (k+3) (by omega));(constructor);((conv=>lhs;simp -implicitDefEqProofs [*,-Int.natCast_add])<;>exact rfl);(exact Zc);(assumption);(omega);rotate_left;(rintro _ hpp ⟨⟨a,rfl⟩,hpf⟩);rotate_right;(rintro _ _ hf2;exact hf2.elim))|fail)
 refine W_loopS (n:=l.length) (fun s0 m s=> ∃i:Nat,m=l.length - i∧i≤l.length∧n+i≤T.length∧s.fr 8=iv i∧s.fr 6=s0.fr 6∧s.fr 7=s0.fr 7∧s.fr 0=s0.fr 0∧Rd T e q gx gy (n+i) s.hp∧Far (k+2) q hp1 s.hp) ⟨0,by simp,by omega,by omega,by simp,by simp,by simp,by simp,⟨by simp[*],by simp[*],hlen,hle⟩,fun d i c hd hne=>by have hd2:d≠k+3:=(by omega);simp[*]⟩ ?_
 rintro m ⟨fr,hp⟩ ⟨i,rfl,hi,hni,f8,f6,f7,f0,⟨hb,ha,_,_⟩,hfar⟩
 simp at f8 f6 f7 f0 hb ha hfar
 have hlo:hp ⟨k+2,s0,0⟩= .arr gl 1 9 (tbRows l) false:=(hfar _ _ _ (Nat.le_refl _) (by simp)).trans hls
 clear h1 h2 hls
 by_cases hlt:i<l.length
 ·have hg:l[i]?=some l[i]:=List.getElem?_eq_getElem hlt
  have hz:=hs _ (List.getElem_mem hlt)
  generalize hq:l[i]=t at*
  have e1:(i:Int)<l.length:=by omega
  have w2:=w1 i (by omega)
  have w3:IntKind.i64.wrap ((n:Int)+i+1)=(n:Int)+i+1:=by have:=w1 (n+i) (by omega);rw[Int.natCast_add] at this;exact this
  have HF:=Lib.hid hfar
  clear hfar
  repeat' (first|(refine ZN ?_)|(refine Z2 ?_ ?_)|(intro h h';try simp[*,-h] at h')|(exact⟨⟨_,rfl⟩,fun d i c hd hne=>(hpf d i c (by omega) hne).trans (by have hd2:d≠k+3:=(by omega);first|exact HF.out d i c hd hne|(simp[*];done)|(simp[*];exact HF.out d i c hd hne))⟩)|((with_reducible apply Wo_call (f:=167));(iterate 5 exact Z5);(apply peek (k+3) (by omega));(constructor);((conv=>lhs;simp -implicitDefEqProofs [*,-Int.natCast_add])<;>exact rfl);(exact Zc);(assumption);(omega);rotate_left;(rintro _ hpp ⟨⟨a,rfl⟩,hpf⟩);rotate_right;(rintro _ hp2 ⟨rfl,⟨hb2,ha2,_,_⟩,hf2⟩;have hO2:=hf2.own (by omega);have hL2:=hf2.all (k:=k+2) (by omega);clear hf2))|((with_reducible apply Wo_call (f:=137));(iterate 5 exact Z5);(apply fail (k+3) (by omega));(constructor);((conv=>lhs;simp -implicitDefEqProofs [*,-Int.natCast_add])<;>exact rfl);(exact Zc);(assumption);(omega);rotate_left;(rintro _ hpp ⟨⟨a,rfl⟩,hpf⟩);rotate_right;(rintro _ _ hf2;exact hf2.elim))|fail)
  have hn:n+i<T.length:=peek_pos (by assumption) hz
  have hfar:=HF.out
  exact⟨l.length - (i+1),by omega,i+1,rfl,by omega,by omega,by simp,by simp[*],by simp[*],by simp[*],⟨by simp[*];try omega,by simp[*],hlen,by omega⟩,fun d i c hd hne=>by have hd2:d≠k+3:=(by omega);simp[*];exact hfar d i c hd hne⟩
 ·obtain rfl:i=l.length:=by omega
  have e1: ¬(l.length:Int)<l.length:=by omega
  have HF:=Lib.hid hfar
  clear hfar
  repeat' (first|(refine ZN ?_)|(refine Z2 ?_ ?_)|(intro h h';try simp[*,-h] at h')|(exact⟨⟨_,rfl⟩,fun d i c hd hne=>(hpf d i c (by omega) hne).trans (by have hd2:d≠k+3:=(by omega);first|exact HF.out d i c hd hne|(simp[*];done)|(simp[*];exact HF.out d i c hd hne))⟩)|((with_reducible apply Wo_call (f:=167));(iterate 5 exact Z5);(apply peek (k+3) (by omega));(constructor);((conv=>lhs;simp -implicitDefEqProofs [*,-Int.natCast_add])<;>exact rfl);(exact Zc);(assumption);(omega);rotate_left;(rintro _ hpp ⟨⟨a,rfl⟩,hpf⟩);rotate_right;(rintro _ hp2 ⟨rfl,⟨hb2,ha2,_,_⟩,hf2⟩;have hO2:=hf2.own (by omega);have hL2:=hf2.all (k:=k+2) (by omega);clear hf2))|((with_reducible apply Wo_call (f:=137));(iterate 5 exact Z5);(apply fail (k+3) (by omega));(constructor);((conv=>lhs;simp -implicitDefEqProofs [*,-Int.natCast_add])<;>exact rfl);(exact Zc);(assumption);(omega);rotate_left;(rintro _ hpp ⟨⟨a,rfl⟩,hpf⟩);rotate_right;(rintro _ _ hf2;exact hf2.elim))|fail)
  exact⟨rfl,hni,⟨by simp[*],by simp[*],hlen,hni⟩,HF.out⟩
theorem tx_take (l:List Tx):(txRows l).take l.length=txRows l:=by rw[List.take_of_length_le (by simp)]
theorem names {T:List Tok}{e:Int}{q n gx gy:Nat}(D:Nat)(hD:2≤D)(d:Nat)(hp1:Hp)(hr:Rd T e q gx gy n hp1):HB Tryz.prog E47 (Lm X46) D d 139 [.ptr ⟨1,q,0⟩ gx 0] hp1 (fun v hp2=> ∃(l:List Tx) (n2:Nat),v= .sl false 1 (txRows l)∧n+l.length≤n2∧n<n2∧Rd T e q gx gy n2 hp2∧Far D q hp1 hp2) (Wr D q hp1):=by
 obtain⟨k,rfl⟩: ∃k,D=k+2:=⟨D - 2,by omega⟩
 clear hD
 refine lim_hpcBZk (k1:=k+3) (PR:=Wr (k+2) q hp1) rfl Tryz.func139 rfl rfl bodyOk_139 rfl rvs_139 rtys_139 ?_
 obtain⟨h1,h2,hlen,hle⟩:=hr
 repeat' (first|(refine ZN ?_)|(refine Z2 ?_ ?_)|(intro h h';try simp[*,-h] at h')|(exact⟨⟨_,rfl⟩,fun d i c hd hne=>(hpf d i c (by omega) hne).trans (by have hd2:d≠k+3:=(by omega);first|exact HF.out d i c hd hne|(simp[*];done)|(simp[*];exact HF.out d i c hd hne))⟩)|((with_reducible apply Wo_call (f:=140));(iterate 5 exact Z5);(apply take (k+3) (by omega));(decide);(constructor);((conv=>lhs;simp -implicitDefEqProofs [*,-Int.natCast_add])<;>exact rfl);(exact Zc);(assumption);(omega);rotate_left;(rintro _ hpp ⟨⟨a,rfl⟩,hpf⟩);rotate_right;(rintro _ hp2 ⟨⟨tk2,tt2,tn2,ta2⟩,rfl,hn2,⟨hb2,ha2,_,hle2⟩,hf2⟩;have hO2:=hf2.own (by omega);have hL2:=hf2.all (k:=k+2) (by omega);clear hf2;simp only[Tok.row_mk]))|fail)
 refine W_loopS (n:=T.length - (n+1)) (fun s0 m s=> ∃(n2 g:Nat) (l:List Tx),m=T.length - n2∧n+l.length≤n2∧n<n2∧s.fr 0=s0.fr 0∧s.fr 3= .own ⟨k+3,7,0⟩ g l.length∧s.hp ⟨k+3,7,0⟩= .arr g 1 9 (txRows l) false∧Rd T e q gx gy n2 s.hp∧Far (k+2) q hp1 s.hp) ⟨n+1,_,[tt2],by omega,by simp,by omega,by simp,by simp;rfl,by simp[*],⟨by simp[*],by simp[*],hlen,hle2⟩,fun d i c hd hne=>by have hd2:d≠k+3:=(by omega);simp[*]⟩ ?_
 rintro m ⟨fr,hp⟩ ⟨n2,g,l,rfl,hnl,hnn,f0,f3,hl,⟨hb,ha,_,hle3⟩,hfar⟩
 simp at f0 f3 hl hb ha hfar
 have HF:=Lib.hid hfar
 clear hfar h1 h2 hb2 ha2 hO2 hL2
 have a1:(l.length+1)*16≤140737488355328:=by omega
 have a2:l.length≤9223372036854775806:=by omega
 have a3:=tx_take l
 repeat' (first|(refine ZN ?_)|(refine Z2 ?_ ?_)|(intro h h';try simp[*,-h] at h')|(exact⟨⟨_,rfl⟩,fun d i c hd hne=>(hpf d i c (by omega) hne).trans (by have hd2:d≠k+3:=(by omega);first|exact HF.out d i c hd hne|(simp[*];done)|(simp[*];exact HF.out d i c hd hne))⟩)|((with_reducible apply Wo_call (f:=138));(iterate 5 exact Z5);(apply may (k+3) (by omega));(decide);(constructor);((conv=>lhs;simp -implicitDefEqProofs [*,-Int.natCast_add])<;>exact rfl);(exact Zc);(assumption);(omega);rotate_left;(rintro _ hpp ⟨⟨a,rfl⟩,hpf⟩);rotate_right;(rintro _ hp2 (⟨rfl,⟨hb2,ha2,_,_⟩,hf2⟩|⟨rfl,hn2,⟨hb2,ha2,_,hle2⟩,hf2⟩)<;>(have hO2:=hf2.own (by omega);have hL2:=hf2.all (k:=k+2) (by omega);clear hf2)))|((with_reducible apply Wo_call (f:=140));(iterate 5 exact Z5);(apply take (k+3) (by omega));(decide);(constructor);((conv=>lhs;simp -implicitDefEqProofs [*,-Int.natCast_add])<;>exact rfl);(exact Zc);(assumption);(omega);rotate_left;(rintro _ hpp ⟨⟨a,rfl⟩,hpf⟩);rotate_right;(rintro _ hp2 ⟨⟨tk2,tt2,tn2,ta2⟩,rfl,hn2,⟨hb2,ha2,_,hle2⟩,hf2⟩;have hO2:=hf2.own (by omega);have hL2:=hf2.all (k:=k+2) (by omega);clear hf2;simp only[Tok.row_mk]))|fail)
 ·have hfar:=HF.out
  exact⟨l,n2,by simp[*],hnl,hnn,⟨by simp[*],by simp[*],hlen,hle3⟩,fun d i c hd hne=>by have hd2:d≠k+3:=(by omega);simp[*];exact hfar d i c hd hne⟩
 ·have hfar:=HF.out
  exact⟨T.length - (n2+1+1),by omega,n2+1+1,g+1,l++[tt2],rfl,by simp;omega,by omega,by simp[*],by simp[*],by simp[*],⟨by simp[*],by simp[*],hlen,hle2⟩,fun d i c hd hne=>by have hd2:d≠k+3:=(by omega);simp[*];exact hfar d i c hd hne⟩
theorem must1 {T:List Tok}{e:Int}{q n gx gy:Nat}{s:ByteArray}{s0 gl:Nat}(D:Nat)(hD:2≤D)(d:Nat)(hp1:Hp)(hls:hp1 ⟨D,s0,0⟩= .arr gl 1 9 [[tz s]] false)(hs:s≠⟨#[]⟩)(hr:Rd T e q gx gy n hp1):
  HB Tryz.prog E47 (Lm X46) D d 141 [.ptr ⟨1,q,0⟩ gx 0,.own ⟨D,s0,0⟩ gl 1] hp1 (fun v hp2=>v= .tup []∧n+1≤T.length∧Rd T e q gx gy (n+1) hp2∧Far D q hp1 hp2) (Wr D q hp1):=
 must (l:=[s]) D hD d hp1 (fun x hx=>by simp at hx;rw[hx];exact hs) (by simp) hls hr
theorem must2 {T:List Tok}{e:Int}{q n gx gy:Nat}{s t:ByteArray}{s0 gl:Nat}(D:Nat)(hD:2≤D)(d:Nat)(hp1:Hp)(hls:hp1 ⟨D,s0,0⟩= .arr gl 1 9 [[tz s],[tz t]] false)(hs:s≠⟨#[]⟩)(ht:t≠⟨#[]⟩)(hr:Rd T e q gx gy n hp1):
  HB Tryz.prog E47 (Lm X46) D d 141 [.ptr ⟨1,q,0⟩ gx 0,.own ⟨D,s0,0⟩ gl 2] hp1 (fun v hp2=>v= .tup []∧n+2≤T.length∧Rd T e q gx gy (n+2) hp2∧Far D q hp1 hp2) (Wr D q hp1):=
 must (l:=[s,t]) D hD d hp1 (fun x hx=>by simp at hx;rcases hx with rfl|rfl;exact hs;exact ht) (by simp) hls hr
@[simp] theorem Ex_row_mk (k o n:Int)(s:Tx)(l:List Sy.Ex):(Sy.Ex.mk k o n s l).row=[iz k,iz o,uz n,tz s.1,.sl false 5 (exRows l)]:=Sy.Ex.row_eq _
@[simp] theorem Ex_size_mk (k o n:Int)(s:Tx)(l:List Sy.Ex):(Sy.Ex.mk k o n s l).size=exSize l+1:=Sy.Ex.size_eq _
def RE (T:List Tok)(e:Int)(q gx gy n D:Nat)(hp1:Hp)(v:AV)(hp2:Hp):Prop:= ∃(x:Sy.Ex) (n2:Nat),v= .agg x.row∧n+x.size≤n2∧n<n2∧Rd T e q gx gy n2 hp2∧Far D q hp1 hp2
def RL (T:List Tok)(e:Int)(q gx gy n D:Nat)(hp1:Hp)(v:AV)(hp2:Hp):Prop:= ∃(x:List Sy.Ex) (n2:Nat),v= .sl false 5 (exRows x)∧n+exSize x≤n2∧n<n2∧Rd T e q gx gy n2 hp2∧Far D q hp1 hp2
theorem atom_w {T:List Tok}{e:Int}{q n gx gy:Nat}(D:Nat)(hD:2≤D)(d:Nat)(hp1:Hp)(ihE: ∀(D:Nat) (hD:2≤D) (d:Nat) (hp1:Hp) {n2:Nat} {ls:Int} (hls:1≤ls) (hr:Rd T e q gx gy n2 hp1) (hn:n<n2),HB Tryz.prog E47 (Lm X46) D d 280 [.ptr ⟨1,q,0⟩ gx 0,iv ls] hp1 (RE T e q gx gy n2 D hp1) (Wr D q hp1))(ihA: ∀(D:Nat) (hD:2≤D) (d:Nat) (hp1:Hp) {n2:Nat} (hr:Rd T e q gx gy n2 hp1) (hn:n<n2),HB Tryz.prog E47 (Lm X46) D d 323 [.ptr ⟨1,q,0⟩ gx 0] hp1 (RE T e q gx gy n2 D hp1) (Wr D q hp1))(ihG: ∀(D:Nat) (hD:2≤D) (d:Nat) (hp1:Hp) {n2:Nat} (hr:Rd T e q gx gy n2 hp1) (hn:n<n2),HB Tryz.prog E47 (Lm X46) D d 325 [.ptr ⟨1,q,0⟩ gx 0] hp1 (RL T e q gx gy n2 D hp1) (Wr D q hp1))(hr:Rd T e q gx gy n hp1):HB Tryz.prog E47 (Lm X46) D d 323 [.ptr ⟨1,q,0⟩ gx 0] hp1 (RE T e q gx gy n D hp1) (Wr D q hp1):=by
 obtain⟨k,rfl⟩: ∃k,D=k+2:=⟨D - 2,by omega⟩
 clear hD
 refine lim_hpcBZk (k1:=k+3) (PR:=Wr (k+2) q hp1) rfl Tryz.func323 rfl rfl bodyOk_323 rfl rvs_323 rtys_323 ?_
 obtain⟨h1,h2,hlen,hle⟩:=hr
 repeat' (first|(refine ZN ?_)|(refine Z2 ?_ ?_)|(intro h h';try simp[*,-h] at h')|(exact⟨⟨_,rfl⟩,fun d i c hd hne=>(hpf d i c (by omega) hne).trans (by have hd2:d≠k+3:=(by omega);first|exact HF.out d i c hd hne|(simp[*];done)|(simp[*];exact HF.out d i c hd hne))⟩)|((with_reducible apply Wo_call (f:=168));(iterate 5 exact Z5);(apply kind (k+3) (by omega));(constructor);((conv=>lhs;simp -implicitDefEqProofs [*,-Int.natCast_add])<;>exact rfl);(exact Zc);(assumption);(omega);rotate_left;(rintro _ hpp ⟨⟨a,rfl⟩,hpf⟩);rotate_right;(rintro _ hp2 ⟨rfl,⟨hb2,ha2,_,_⟩,hf2⟩;have hO2:=hf2.own (by omega);have hL2:=hf2.all (k:=k+2) (by omega);clear hf2))|((with_reducible apply Wo_call (f:=138));(iterate 5 exact Z5);(apply may (k+3) (by omega));(decide);(constructor);((conv=>lhs;simp -implicitDefEqProofs [*,-Int.natCast_add])<;>exact rfl);(exact Zc);(assumption);(omega);rotate_left;(rintro _ hpp ⟨⟨a,rfl⟩,hpf⟩);rotate_right;(rintro _ hp2 (⟨rfl,⟨hb2,ha2,_,_⟩,hf2⟩|⟨rfl,hn2,⟨hb2,ha2,_,hle2⟩,hf2⟩)<;>(have hO2:=hf2.own (by omega);have hL2:=hf2.all (k:=k+2) (by omega);clear hf2)))|((with_reducible apply Wo_call (f:=140));(iterate 5 exact Z5);(apply take (k+3) (by omega));(decide);(constructor);((conv=>lhs;simp -implicitDefEqProofs [*,-Int.natCast_add])<;>exact rfl);(exact Zc);(assumption);(omega);rotate_left;(rintro _ hpp ⟨⟨a,rfl⟩,hpf⟩);rotate_right;(rintro _ hp2 ⟨⟨tk2,tt2,tn2,ta2⟩,rfl,hn2,⟨hb2,ha2,_,hle2⟩,hf2⟩;have hO2:=hf2.own (by omega);have hL2:=hf2.all (k:=k+2) (by omega);clear hf2;simp only[Tok.row_mk]))|((with_reducible apply Wo_call (f:=141));(iterate 5 exact Z5);(apply must1 (k+3) (by omega));(exact Zc);(decide);(constructor);((conv=>lhs;simp -implicitDefEqProofs [*,-Int.natCast_add])<;>exact rfl);(exact Zc);(assumption);(omega);rotate_left;(rintro _ hpp ⟨⟨a,rfl⟩,hpf⟩);rotate_right;(rintro _ hp2 ⟨rfl,hn2,⟨hb2,ha2,_,hle2⟩,hf2⟩;have hO2:=hf2.own (by omega);have hL2:=hf2.all (k:=k+2) (by omega);clear hf2))|((with_reducible apply Wo_call (f:=141));(iterate 5 exact Z5);(apply must2 (k+3) (by omega));(exact Zc);(decide);(decide);(constructor);((conv=>lhs;simp -implicitDefEqProofs [*,-Int.natCast_add])<;>exact rfl);(exact Zc);(assumption);(omega);rotate_left;(rintro _ hpp ⟨⟨a,rfl⟩,hpf⟩);rotate_right;(rintro _ hp2 ⟨rfl,hn2,⟨hb2,ha2,_,hle2⟩,hf2⟩;have hO2:=hf2.own (by omega);have hL2:=hf2.all (k:=k+2) (by omega);clear hf2))|((with_reducible apply Wo_call (f:=280));(iterate 5 exact Z5);(apply ihE (k+3) (by omega));(omega);(constructor);((conv=>lhs;simp -implicitDefEqProofs [*,-Int.natCast_add])<;>exact rfl);(exact Zc);(assumption);(omega);(omega);rotate_left;(rintro _ hpp ⟨⟨a,rfl⟩,hpf⟩);rotate_right;(rintro _ hp2 ⟨⟨xk,xo,xn,xs,xl⟩,m2,rfl,hs2,hn2,⟨hb2,ha2,_,hle2⟩,hf2⟩;have hO2:=hf2.own (by omega);have hL2:=hf2.all (k:=k+2) (by omega);clear hf2;simp only[Ex_row_mk,Ex_size_mk] at*))|((with_reducible apply Wo_call (f:=323));(iterate 5 exact Z5);(apply ihA (k+3) (by omega));(constructor);((conv=>lhs;simp -implicitDefEqProofs [*,-Int.natCast_add])<;>exact rfl);(exact Zc);(assumption);(omega);(omega);rotate_left;(rintro _ hpp ⟨⟨a,rfl⟩,hpf⟩);rotate_right;(rintro _ hp2 ⟨⟨xk,xo,xn,xs,xl⟩,m2,rfl,hs2,hn2,⟨hb2,ha2,_,hle2⟩,hf2⟩;have hO2:=hf2.own (by omega);have hL2:=hf2.all (k:=k+2) (by omega);clear hf2;simp only[Ex_row_mk,Ex_size_mk] at*))|((with_reducible apply Wo_call (f:=325));(iterate 5 exact Z5);(apply ihG (k+3) (by omega));(constructor);((conv=>lhs;simp -implicitDefEqProofs [*,-Int.natCast_add])<;>exact rfl);(exact Zc);(assumption);(omega);(omega);rotate_left;(rintro _ hpp ⟨⟨a,rfl⟩,hpf⟩);rotate_right;(rintro _ hp2 ⟨xl,m2,rfl,hs2,hn2,⟨hb2,ha2,_,hle2⟩,hf2⟩;have hO2:=hf2.own (by omega);have hL2:=hf2.all (k:=k+2) (by omega);clear hf2))|fail)
 ·exact⟨.mk 1 0 tn2 tx0 [],n+1,by simp[*],by(try simp);try omega,by omega,⟨by simp[*],by simp[*],hlen,by omega⟩,fun d i c hd hne=>by have hd2:d≠k+3:=(by omega);simp[*]⟩
 ·exact⟨.mk 2 0 0 tt2 [],n+1,by simp[*],by(try simp);try omega,by omega,⟨by simp[*],by simp[*],hlen,by omega⟩,fun d i c hd hne=>by have hd2:d≠k+3:=(by omega);simp[*]⟩
 ·exact⟨.mk 4 0 0 tt2 xl,m2,by simp[*],by(try simp);try omega,by omega,⟨by simp[*],by simp[*],hlen,by omega⟩,fun d i c hd hne=>by have hd2:d≠k+3:=(by omega);simp[*]⟩
 ·exact⟨.mk 3 0 0 tt2 [.mk xk xo xn xs xl],m2+1,by simp[*],by(try simp);try omega,by omega,⟨by simp[*],by simp[*],hlen,by omega⟩,fun d i c hd hne=>by have hd2:d≠k+3:=(by omega);simp[*]⟩
 ·exact⟨.mk 7 0 0 tx0 [.mk xk xo xn xs xl],m2,by simp[*],by(try simp);try omega,by omega,⟨by simp[*],by simp[*],hlen,by omega⟩,fun d i c hd hne=>by have hd2:d≠k+3:=(by omega);simp[*]⟩
 ·exact⟨.mk xk xo xn xs xl,m2+1,by simp[*],by(try simp);try omega,by omega,⟨by simp[*],by simp[*],hlen,by omega⟩,fun d i c hd hne=>by have hd2:d≠k+3:=(by omega);simp[*]⟩
 ·exact⟨.mk 5 0 0 tx0 [],n+1+2,by simp[*],by(try simp);try omega,by omega,⟨by simp[*],by simp[*],hlen,by omega⟩,fun d i c hd hne=>by have hd2:d≠k+3:=(by omega);simp[*]⟩
theorem ex_take (l:List Sy.Ex):(exRows l).take l.length=exRows l:=by rw[List.take_of_length_le (by simp)]
theorem sign (s:ByteArray): ∃ke oe st:Int,(Lm X46).dat 324 [tv s]=some [.agg [iz ke,iz oe,uz 0,tz ⟨#[]⟩,.vec 5 []],iz st]∧0≤st∧st≤9∧(1≤st→s≠⟨#[]⟩):=by
 obtain⟨rs,h1,ke,oe,st,rfl,h2⟩:=fnR (P:=Tryz.prog) (E:=E47) (X:=X46) (args:=[tv s]) (R:=fun rs=> ∃ke oe st:Int,rs=[.agg [iz ke,iz oe,uz 0,tz ⟨#[]⟩,.vec 5 []],iz st]∧0≤st∧st≤9∧(1≤st→s≠⟨#[]⟩)) Tryz.func324 rfl rfl bodyOk_324 rfl rtys_324 rvs_324 (by
  have hop: ∀o:Int,(Lm X46).dat 350 [iz o]=some [.agg [iz 6,iz o,uz 0,tz ⟨#[]⟩,.vec 5 []]]:=fun o=>by
   refine fnW Tryz.func350 rfl rfl bodyOk_350 rfl rtys_350 rvs_350 ?_
   repeat' (first|(refine ZN ?_)|(refine Z2 ?_ ?_)|(intro h h';try simp[*,-h] at h'))
   all_goals rfl
  repeat' (first|(refine ZN ?_)|(refine Z2 ?_ ?_)|(intro h h';try simp[*,-h] at h'))
  all_goals (refine⟨_,_,_,rfl,by decide,by decide,?_⟩)
  all_goals (first|(intro hh;exact absurd hh (by decide))|(rintro _ rfl;simp_all)))
 exact⟨ke,oe,st,h1,h2⟩
theorem args_w {T:List Tok}{e:Int}{q n gx gy:Nat}(D:Nat)(hD:2≤D)(d:Nat)(hp1:Hp)(ihE: ∀(D:Nat) (hD:2≤D) (d:Nat) (hp1:Hp) {n2:Nat} {ls:Int} (hls:1≤ls) (hr:Rd T e q gx gy n2 hp1) (hn:n≤n2),HB Tryz.prog E47 (Lm X46) D d 280 [.ptr ⟨1,q,0⟩ gx 0,iv ls] hp1 (RE T e q gx gy n2 D hp1) (Wr D q hp1))(hr:Rd T e q gx gy n hp1):HB Tryz.prog E47 (Lm X46) D d 325 [.ptr ⟨1,q,0⟩ gx 0] hp1 (RL T e q gx gy n D hp1) (Wr D q hp1):=by
 obtain⟨k,rfl⟩: ∃k,D=k+2:=⟨D - 2,by omega⟩
 clear hD
 refine lim_hpcBZk (k1:=k+3) (PR:=Wr (k+2) q hp1) rfl Tryz.func325 rfl rfl bodyOk_325 rfl rvs_325 rtys_325 ?_
 obtain⟨h1,h2,hlen,hle⟩:=hr
 repeat' (first|(refine ZN ?_)|(refine Z2 ?_ ?_)|(intro h h';try simp[*,-h] at h')|(exact⟨⟨_,rfl⟩,fun d i c hd hne=>(hpf d i c (by omega) hne).trans (by have hd2:d≠k+3:=(by omega);first|exact HF.out d i c hd hne|(simp[*];done)|(simp[*];exact HF.out d i c hd hne))⟩)|((with_reducible apply Wo_call (f:=138));(iterate 5 exact Z5);(apply may (k+3) (by omega));(decide);(constructor);((conv=>lhs;simp -implicitDefEqProofs [*,-Int.natCast_add])<;>exact rfl);(exact Zc);(assumption);(omega);rotate_left;(rintro _ hpp ⟨⟨a,rfl⟩,hpf⟩);rotate_right;(rintro _ hp2 (⟨rfl,⟨hb2,ha2,_,_⟩,hf2⟩|⟨rfl,hn2,⟨hb2,ha2,_,hle2⟩,hf2⟩)<;>(have hO2:=hf2.own (by omega);have hL2:=hf2.all (k:=k+2) (by omega);clear hf2)))|((with_reducible apply Wo_call (f:=141));(iterate 5 exact Z5);(apply must1 (k+3) (by omega));(exact Zc);(decide);(constructor);((conv=>lhs;simp -implicitDefEqProofs [*,-Int.natCast_add])<;>exact rfl);(exact Zc);(assumption);(omega);rotate_left;(rintro _ hpp ⟨⟨a,rfl⟩,hpf⟩);rotate_right;(rintro _ hp2 ⟨rfl,hn2,⟨hb2,ha2,_,hle2⟩,hf2⟩;have hO2:=hf2.own (by omega);have hL2:=hf2.all (k:=k+2) (by omega);clear hf2))|((with_reducible apply Wo_call (f:=280));(iterate 5 exact Z5);(apply ihE (k+3) (by omega));(omega);(constructor);((conv=>lhs;simp -implicitDefEqProofs [*,-Int.natCast_add])<;>exact rfl);(exact Zc);(assumption);(omega);(omega);rotate_left;(rintro _ hpp ⟨⟨a,rfl⟩,hpf⟩);rotate_right;(rintro _ hp2 ⟨⟨xk,xo,xn,xs,xl⟩,m2,rfl,hs2,hn2,⟨hb2,ha2,_,hle2⟩,hf2⟩;have hO2:=hf2.own (by omega);have hL2:=hf2.all (k:=k+2) (by omega);clear hf2;simp only[Ex_row_mk,Ex_size_mk] at*))|fail)
 all_goals try exact⟨[],n+1,by simp[*],by(try simp);try omega,by omega,⟨by simp[*],by simp[*],hlen,by omega⟩,fun d i c hd hne=>by have hd2:d≠k+3:=(by omega);simp[*]⟩
 refine W_loopS (n:=T.length - m2) (fun s0 m s=> ∃(n2 g:Nat) (l:List Sy.Ex),m=T.length - n2∧n+exSize l≤n2∧n<n2∧s.fr 0=s0.fr 0∧s.fr 3= .own ⟨k+3,8,0⟩ g l.length∧s.hp ⟨k+3,8,0⟩= .arr g 5 361 (exRows l) false∧Rd T e q gx gy n2 s.hp∧Far (k+2) q hp1 s.hp) ⟨m2,_,[.mk xk xo xn xs xl],by omega,by simp;omega,by omega,by simp,by simp;rfl,by simp[*],⟨by simp[*],by simp[*],hlen,hle2⟩,fun d i c hd hne=>by have hd2:d≠k+3:=(by omega);simp[*]⟩ ?_
 clear h1 h2 hb2 ha2 hO2 hL2
 rintro m ⟨fr,hp⟩ ⟨n2,g,l,rfl,hnl,hnn,f0,f3,hl,⟨hb,ha,_,hle3⟩,hfar⟩
 simp at f0 f3 hl ha hfar
 simp only at hb
 have HF:=Lib.hid hfar
 clear hfar
 have hll:=exSize_len l
 have a1:(l.length+1)*64≤140737488355328:=by omega
 have a2:l.length≤9223372036854775806:=by omega
 have a3:=ex_take l
 repeat' (first|(refine ZN ?_)|(refine Z2 ?_ ?_)|(intro h h';try simp[*,-h] at h')|(exact⟨⟨_,rfl⟩,fun d i c hd hne=>(hpf d i c (by omega) hne).trans (by have hd2:d≠k+3:=(by omega);first|exact HF.out d i c hd hne|(simp[*];done)|(simp[*];exact HF.out d i c hd hne))⟩)|((with_reducible apply Wo_call (f:=138));(iterate 5 exact Z5);(apply may (k+3) (by omega));(decide);(constructor);((conv=>lhs;simp -implicitDefEqProofs [*,-Int.natCast_add])<;>exact rfl);(exact Zc);(assumption);(omega);rotate_left;(rintro _ hpp ⟨⟨a,rfl⟩,hpf⟩);rotate_right;(rintro _ hp2 (⟨rfl,⟨hb2,ha2,_,_⟩,hf2⟩|⟨rfl,hn2,⟨hb2,ha2,_,hle2⟩,hf2⟩)<;>(have hO2:=hf2.own (by omega);have hL2:=hf2.all (k:=k+2) (by omega);clear hf2)))|((with_reducible apply Wo_call (f:=141));(iterate 5 exact Z5);(apply must1 (k+3) (by omega));(exact Zc);(decide);(constructor);((conv=>lhs;simp -implicitDefEqProofs [*,-Int.natCast_add])<;>exact rfl);(exact Zc);(assumption);(omega);rotate_left;(rintro _ hpp ⟨⟨a,rfl⟩,hpf⟩);rotate_right;(rintro _ hp2 ⟨rfl,hn2,⟨hb2,ha2,_,hle2⟩,hf2⟩;have hO2:=hf2.own (by omega);have hL2:=hf2.all (k:=k+2) (by omega);clear hf2))|((with_reducible apply Wo_call (f:=280));(iterate 5 exact Z5);(apply ihE (k+3) (by omega));(omega);(constructor);((conv=>lhs;simp -implicitDefEqProofs [*,-Int.natCast_add])<;>exact rfl);(exact Zc);(assumption);(omega);(omega);rotate_left;(rintro _ hpp ⟨⟨a,rfl⟩,hpf⟩);rotate_right;(rintro _ hp2 ⟨⟨xk,xo,xn,xs,xl⟩,m2,rfl,hs2,hn2,⟨hb2,ha2,_,hle2⟩,hf2⟩;have hO2:=hf2.own (by omega);have hL2:=hf2.all (k:=k+2) (by omega);clear hf2;simp only[Ex_row_mk,Ex_size_mk] at*))|fail)
 ·have hfar:=HF.out
  exact⟨l,n2+1,by simp[*],by omega,by omega,⟨by simp[*],by simp[*],hlen,by omega⟩,fun d i c hd hne=>by have hd2:d≠k+3:=(by omega);simp[*];exact hfar d i c hd hne⟩
 ·have hfar:=HF.out
  exact⟨T.length - m2,by omega,m2,g+1,l++[.mk xk xo xn xs xl],rfl,by simp;omega,by omega,by simp[*],by simp[*],by simp[*],⟨by simp[*],by simp[*],hlen,hle2⟩,fun d i c hd hne=>by have hd2:d≠k+3:=(by omega);simp[*];exact hfar d i c hd hne⟩
theorem expr_w {T:List Tok}{e:Int}{q n gx gy:Nat}{ls:Int}(D:Nat)(hD:2≤D)(d:Nat)(hp1:Hp)(ihE: ∀(D:Nat) (hD:2≤D) (d:Nat) (hp1:Hp) {n2:Nat} {ls:Int} (hls:1≤ls) (hr:Rd T e q gx gy n2 hp1) (hn:n<n2),HB Tryz.prog E47 (Lm X46) D d 280 [.ptr ⟨1,q,0⟩ gx 0,iv ls] hp1 (RE T e q gx gy n2 D hp1) (Wr D q hp1))(ihA: ∀(D:Nat) (hD:2≤D) (d:Nat) (hp1:Hp) {n2:Nat} (hr:Rd T e q gx gy n2 hp1) (hn:n≤n2),HB Tryz.prog E47 (Lm X46) D d 323 [.ptr ⟨1,q,0⟩ gx 0] hp1 (RE T e q gx gy n2 D hp1) (Wr D q hp1))(hls:1≤ls)(hr:Rd T e q gx gy n hp1):HB Tryz.prog E47 (Lm X46) D d 280 [.ptr ⟨1,q,0⟩ gx 0,iv ls] hp1 (RE T e q gx gy n D hp1) (Wr D q hp1):=by
 obtain⟨k,rfl⟩: ∃k,D=k+2:=⟨D - 2,by omega⟩
 clear hD
 refine lim_hpcBZk (k1:=k+3) (PR:=Wr (k+2) q hp1) rfl Tryz.func280 rfl rfl bodyOk_280 rfl rvs_280 rtys_280 ?_
 obtain⟨h1,h2,hlen,hle⟩:=hr
 repeat' (first|(refine ZN ?_)|(refine Z2 ?_ ?_)|(intro h h';try simp[*,-h] at h')|(exact⟨⟨_,rfl⟩,fun d i c hd hne=>(hpf d i c (by omega) hne).trans (by have hd2:d≠k+3:=(by omega);first|exact HF.out d i c hd hne|(simp[*];done)|(simp[*];exact HF.out d i c hd hne))⟩)|((with_reducible apply Wo_call (f:=323));(iterate 5 exact Z5);(apply ihA (k+3) (by omega));(constructor);((conv=>lhs;simp -implicitDefEqProofs [*,-Int.natCast_add])<;>exact rfl);(exact Zc);(assumption);(omega);(omega);rotate_left;(rintro _ hpp ⟨⟨a,rfl⟩,hpf⟩);rotate_right;(rintro _ hp2 ⟨⟨xk,xo,xn,xs,xl⟩,m2,rfl,hs2,hn2,⟨hb2,ha2,_,hle2⟩,hf2⟩;have hO2:=hf2.own (by omega);have hL2:=hf2.all (k:=k+2) (by omega);clear hf2;simp only[Ex_row_mk,Ex_size_mk] at*))|fail)
 refine W_loopS (n:=T.length - m2) (fun s0 m s=> ∃(n2 g:Nat) (x:Sy.Ex) (kc:AV),m=T.length - n2∧n+x.size≤n2∧n<n2∧s.fr 0=s0.fr 0∧s.fr 1=s0.fr 1∧s.fr 4=s0.fr 4∧s.fr 5= .ptr ⟨k+3,5,0⟩ g 0∧s.hp ⟨k+3,5,0⟩= .box g [iz x.kind,iz x.op,uz x.num,tz x.name,kc] false∧
  (kc= .sl false 5 (exRows x.kids)∨ ∃g',kc= .own ⟨k+3,5,5⟩ g' x.kids.length∧s.hp ⟨k+3,5,5⟩= .arr g' 5 361 (exRows x.kids) false)∧s.hp ⟨k+3,4,0⟩= .box ((hp1 ⟨k+3,4,0⟩).gen+1) [iv 0,iv 0,uv 0,tv ⟨⟨[]⟩⟩,.own ⟨k+3,4,5⟩ ((hp1 ⟨k+3,4,5⟩).gen+1) 0] false∧Rd T e q gx gy n2 s.hp∧Far (k+2) q hp1 s.hp)
  ⟨m2,_,.mk xk xo xn xs xl,_,rfl,by simp;omega,by omega,by simp,by simp,by simp,by simp;rfl,by simp[Sy.Ex.kind,Sy.Ex.op,Sy.Ex.num,Sy.Ex.name];rfl,.inl (by simp[Sy.Ex.kids]),by simp[*],⟨by simp[*],by simp[*],hlen,hle2⟩,fun d i c hd hne=>by have hd2:d≠k+3:=(by omega);simp[*]⟩ ?_
 rintro m ⟨fr,hp⟩ ⟨n2,g,⟨lk,lo,ln,ls_,ll⟩,kc,rfl,hnl,hnn,f0,f1,f4,f5,h5,hkc,h4,⟨hb,ha,_,hle3⟩,hfar⟩
 simp[Sy.Ex.kind,Sy.Ex.op,Sy.Ex.num,Sy.Ex.name,Sy.Ex.kids] at f0 f1 f4 f5 h5 hkc ha hfar hnl
 simp at h4
 simp only at hb
 clear h1 h2 hb2 ha2 hO2 hL2
 have HF:=Lib.hid hfar
 clear hfar
 obtain⟨ke,oe,st,hsg,hs0,hs9,hsn⟩:=sign (peekT T n2)
 have w1:IntKind.i64.wrap ((n2:Int)+1)=(n2:Int)+1:=wrapN (by omega)
 have w2:IntKind.i64.wrap (st+1)=st+1:=wrap64 (by omega) (by omega)
 have a3:=ex_take ll
 have hn3:1≤st→n2<T.length:=fun h=>peek_pos rfl (hsn h)
 have HN:=Lib.hid hn3
 clear hsn hn3
 rcases hkc with rfl|⟨g',rfl,h55⟩
 all_goals by_cases hlt:st<ls
 all_goals (try have hn2':n2<T.length:=HN.out (by omega))
 repeat' (first|((apply W_srdB (c:=4) (idx:=[0,1,2,3]) (d:=31));(kernel_rfl);(kernel_rfl);(simp only[List.map_cons,List.map_nil,Array.getD_eq_getD_getElem?,List.getElem?_toArray,List.getElem?_cons_zero,List.getElem?_cons_succ,Option.getD_some]);(repeat' (first|exact Free.nil|((with_reducible apply Free_cons);(exact Zc))));(exact rfl);(exact Zc);(exact okFn_280);(decide);(exact Zc);(apply ihE (k+3) (by omega));(omega);(constructor);(conv=>lhs;simp -implicitDefEqProofs [*,-Int.natCast_add]);(rw[show((n2:Int)+1)=((n2+1:Nat):Int) from by omega]);(exact Zc);(assumption);(omega);(omega);rotate_left;(rintro _ hpp ⟨⟨a,rfl⟩,hpf⟩);rotate_right;(rintro _ hp2 h1c ⟨⟨xk,xo,xn,xs,xl⟩,m2,rfl,hs2,hn2,⟨hb2,ha2,_,hle2⟩,hf2⟩;have hO2:=hf2.own (by omega);have hL2:=hf2.all (k:=k+2) (by omega);clear hf2;simp only[Ex_row_mk,Ex_size_mk] at*);(refine W_srdl (by kernel_rfl) ?_);(repeat (first|((with_reducible apply Wd_u);(exact Zc))|((with_reducible apply Wd_n);(exact Zc))));(with_reducible apply Wd_nil);(apply drawF_of (ps:=[(0,1),(0,2),(1,2),(0,3),(1,3),(0,4)]));(kernel_rfl);(iterate 5 refine Zk ?_);(refine List.forall_mem_cons.2 ⟨?_,?_⟩);((focus (refine apart_r (by simp) (by simp) rfl ?_;(repeat' (refine List.forall_mem_cons.2 ⟨⟨trivial,rfl,by simp[Facet.nm],by simp[Facet.nm],by simp[Facet.nm],by simp[Facet.nm, *]⟩,?_⟩));exact fun y hy=>by cases hy)));(exact Zz))|(refine Z1 ?_)|(refine Z2 ?_ ?_)|(intro h h';try simp[*,-h] at h')|(exact⟨⟨_,rfl⟩,fun d i c hd hne=>(hpf d i c (by omega) hne).trans (by have hd2:d≠k+3:=(by omega);first|exact HF.out d i c hd hne|(simp[*];done)|(simp[*];exact HF.out d i c hd hne))⟩)|((with_reducible apply Wo_call (f:=167));(iterate 5 exact Z5);(apply peek (k+3) (by omega));(constructor);((conv=>lhs;simp -implicitDefEqProofs [*,-Int.natCast_add])<;>exact rfl);(exact Zc);(assumption);(omega);rotate_left;(rintro _ hpp ⟨⟨a,rfl⟩,hpf⟩);rotate_right;(rintro _ hp2 ⟨rfl,⟨hb2,ha2,_,_⟩,hf2⟩;have hO2:=hf2.own (by omega);have hL2:=hf2.all (k:=k+2) (by omega);clear hf2))|fail)
 all_goals have hfar:=HF.out
 all_goals first
  |exact⟨.mk lk lo ln ls_ ll,n2,by simp[*],by simp;omega,hnn,⟨by simp[*],by simp[*],hlen,hle3⟩,fun d i c hd hne=>by have hd2:d≠k+3:=(by omega);simp[*];exact hfar d i c hd hne⟩
  |exact⟨T.length - m2,by omega,m2,g,.mk ke oe 0 tx0 [.mk lk lo ln ls_ ll,.mk xk xo xn xs xl],.own ⟨k+3,5,5⟩ ((hp ⟨k+3,5,5⟩).gen+1) 2,rfl,by simp;omega,by omega,by simp[*],by simp[*],by simp[*],by simp[*],by simp[Sy.Ex.kind,Sy.Ex.op,Sy.Ex.num,Sy.Ex.name, *];done,.inr ⟨_,rfl,by simp[Sy.Ex.kids, *];done⟩,by simp[*],⟨by simp[*],by simp[*],hlen,hle2⟩,fun d i c hd hne=>by have hd2:d≠k+3:=(by omega);simp[*];exact hfar d i c hd hne⟩
  |exact⟨T.length - m2,by omega,m2,g,.mk ke oe 0 tx0 [.mk lk lo ln ls_ ll,.mk xk xo xn xs xl],.own ⟨k+3,5,5⟩ (g'+1) 2,rfl,by simp;omega,by omega,by simp[*],by simp[*],by simp[*],by simp[*],by simp[Sy.Ex.kind,Sy.Ex.op,Sy.Ex.num,Sy.Ex.name, *];done,.inr ⟨_,rfl,by simp[Sy.Ex.kids, *];done⟩,by simp[*],⟨by simp[*],by simp[*],hlen,hle2⟩,fun d i c hd hne=>by have hd2:d≠k+3:=(by omega);simp[*];exact hfar d i c hd hne⟩
end
end Go.Proofs.YtpedpkegmalgmaaGreatDoor
