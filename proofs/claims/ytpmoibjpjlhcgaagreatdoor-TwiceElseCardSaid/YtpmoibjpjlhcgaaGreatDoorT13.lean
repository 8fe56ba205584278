/- A part of the proof: I25, Gk, F14, Gt, Sa, Sb, Sc, Sd, Sm, Se, Sf, Sg, Sh, Si, Sj, Sk, Sl. -/
import Derived.Test.YtpmoibjpjlhcgaaGreatDoorT12
import Derived.Test.YtpmoibjpjlhcgaaGreatDoorT09
import Derived.Test.YtpmoibjpjlhcgaaGreatDoorT11
import Derived.Test.YtpmoibjpjlhcgaaGreatDoorT05
import Derived.Test.YtpmoibjpjlhcgaaGreatDoorT06
set_option linter.unusedSimpArgs false
set_option linter.unusedVariables false
set_option maxRecDepth 200000
set_option maxHeartbeats 8000000
namespace Go.Proofs.YtpmoibjpjlhcgaaGreatDoor.M
section
open Go Go.Ab
attribute [-simp] Prog.bind getCs putCs
attribute [local simp ↓] run_bind
attribute [local simp ↓] Au
attribute [local simp] Ar Am facetsC Ax At Bf facetsW facetsH
def Qr :List UInt8->List UInt8->Nat->Int
 |[],[],_=> -1
 |x::a,y::b,k=>if x=y then Qr a b (k+1) else k
 |_,_,k=>k
def diffB (a b:ByteArray):Int:=Qr a.data.toList b.data.toList 0
theorem Xy {a b:List UInt8}{k:Nat}(ha:k<a.length)(hb:k<b.length):Qr (a.drop k) (b.drop k) k=if a[k]=b[k] then Qr (a.drop (k+1)) (b.drop (k+1)) (k+1) else(k:Int):=by
 rw[List.drop_eq_getElem_cons ha,List.drop_eq_getElem_cons hb]
 rfl
theorem E4a {a b:List UInt8}{k:Nat}(h:k=min a.length b.length):Qr (a.drop k) (b.drop k) k=if a.length=b.length then(-1:Int) else(k:Int):=by
 rcases Nat.lt_trichotomy a.length b.length with h1|h1|h1
 ·rw[if_neg Zo,(show a.drop k=[] from List.drop_eq_nil_of_le Zo),List.drop_eq_getElem_cons (l:=b) Zo]
  rfl
 ·rw[if_pos h1,(show a.drop k=[] from List.drop_eq_nil_of_le Zo),(show b.drop k=[] from List.drop_eq_nil_of_le Zo)]
  rfl
 ·rw[if_neg Zo,(show b.drop k=[] from List.drop_eq_nil_of_le Zo),List.drop_eq_getElem_cons (l:=a) Zo]
  rfl
theorem g50 (a b:ByteArray)(ha:a.size<=1048576)(hb:b.size<=1048576):(lim P0 E47 X47).dat 40 [.sc (.string a),.sc (.string b)]=some [iv (diffB a b)]:=by
 refine fnW Tryz.func40 rfl rfl Gda rfl rtys_40 rfl ?_
 have hm:min (a.size:Int) (b.size:Int)=((min a.size b.size:Nat):Int):=Zo
 have hle1:min a.size b.size<=a.size:=Nat.min_le_left _ _
 have hle2:min a.size b.size<=b.size:=Nat.min_le_right _ _
 obtain⟨N,hN⟩: ∃N,min a.size b.size=N:=⟨_,rfl⟩
 rw[hN] at hm hle1 hle2
 have hal:a.data.toList.length=a.size:=rfl
 have hbl:b.data.toList.length=b.size:=rfl
 repeat' (first|refine ZN ?_|refine Z2 ?_ ?_|(intro h h';try simp[*,-h] at h'))
 refine Ag (n:=N+1) (fun s0 m q=> ∃k:Nat,m=N+1 - k/\k<=N/\diffB a b=Qr (a.data.toList.drop k) (b.data.toList.drop k) k/\q.fr 13=iv k/\q.fr 0=s0.fr 0/\q.fr 1=s0.fr 1/\q.fr 12=s0.fr 12/\q.fr 5=s0.fr 5) ⟨0,Zi,Zo,by simp[diffB],Zi,Zi,Zi,Zi,Zi⟩ ?_
 rintro m ⟨fr,hp⟩ ⟨k,rfl,hk,hdf,hs13,hs0,hs1,hs12,hs5⟩
 simp at hs13 hs0 hs1 hs12 hs5
 rw[hdf]
 have hw:=wrapN (k:=k) Zo
 by_cases hlt:k<N
 ·have hlI:(k:Int)<N:=Zo
  have ka:k<a.data.toList.length:=Zo
  have kb:k<b.data.toList.length:=Zo
  have hst:=Xy (a:=a.data.toList) (b:=b.data.toList) ka kb
  have ga:a.data[k]?=some a.data.toList[k]:=by rw[<-Array.getElem?_toList];exact List.getElem?_eq_getElem ka
  have gb:b.data[k]?=some b.data.toList[k]:=by rw[<-Array.getElem?_toList];exact List.getElem?_eq_getElem kb
  have ka':k<a.data.size:=ka
  have kb':k<b.data.size:=kb
  obtain⟨x,hx⟩: ∃x,a.data.toList[k]=x:=⟨_,rfl⟩
  obtain⟨y,hy⟩: ∃y,b.data.toList[k]=y:=⟨_,rfl⟩
  rw[hx] at hst ga
  rw[hy] at hst gb
  have ga': ∀h,a.data[k]'h=x:=fun h=>by rw[<-Array.getElem_toList];exact hx
  have gb': ∀h,b.data[k]'h=y:=fun h=>by rw[<-Array.getElem_toList];exact hy
  have hxy:((x.toNat:Int)!=(y.toNat:Int))=decide (x≠y):=by
   rw[Jm]
   refine decide_eq_decide.2 (not_congr ⟨fun h=>UInt8.toNat_inj.1 Zo,fun h=>by rw[h]⟩)
  clear hx hy hN
  by_cases he:x=y
  ·rw[if_pos he] at hst
   have hdf2:=hdf.trans hst
   rw[<-hdf]
   clear hdf hst
   have hxy2:((x.toNat:Int)!=(y.toNat:Int))=false:=by rw[hxy];simp[he]
   clear hxy he
   generalize diffB a b=D at*
   repeat' (first|refine ZN ?_|refine Z2 ?_ ?_|(intro h h';try simp[*,-h] at h'))
   all_goals exact⟨_,Zo,k+1,rfl,hlt,hdf2,Zm,Zm,Zm,Zm,Zm⟩
  ·rw[if_neg he] at hst
   have hxy2:((x.toNat:Int)!=(y.toNat:Int))=true:=by rw[hxy];simp[he]
   rw[hst]
   clear hxy he hst hdf
   exact ZS
 ·obtain rfl:k=N:=Zo
  have hen:=E4a (a:=a.data.toList) (b:=b.data.toList) (k:=k) (by rw[hal,hbl];exact hN.symm)
  rw[hen,hal,hbl]
  have hnI: ¬(k:Int)<k:=Zo
  have hb2:((a.size:Int)!=(b.size:Int))=decide (a.size≠b.size):=by rw[Jm];exact decide_eq_decide.2 Zo
  clear hdf hN hen
  by_cases he:a.size=b.size
  all_goals simp only[he,ne_eq,not_true,not_false_iff,if_true,if_false,decide_true,decide_false] at hb2⊢
  all_goals
   repeat' (first|refine ZN ?_|refine Z2 ?_ ?_|(intro h h';try simp[*,-h] at h'))
  all_goals rfl
end
end Go.Proofs.YtpmoibjpjlhcgaaGreatDoor.M
namespace Go.Proofs.YtpmoibjpjlhcgaaGreatDoor
section
open Go Go.Ab Go.Ab.Sy
attribute [-simp] Prog.bind getCs putCs
attribute [local simp ↓] run_bind
attribute [local simp ↓] Au
attribute [local simp] Ar Am Bf facetsC facetsW facetsH Ax At
theorem build_s {X:Orc}(src c:ByteArray)(e:Int)(hX: ∀a,X.dat 8 a=none)(hs:(lim P0 E2 X).dat 19 [tv src]=some [tv c,iv e]):(lim P0 E2 X).dat 8 [.agg [iv 1,.sl false 1 [],tv ⟨#[]⟩,iv 0,uv 0,uv 0,uv 0,uv 0,tv ⟨#[]⟩],tv src]=some [tv c,iv e]:=by
 refine fnW (P:=P0) (E:=E2) (X:=X) Tryz.func8 (hX _) rfl V9 rfl rtys_8 rvs_8 ?_
 exact ZS
end
section
open Go Go.Ab
theorem rvs_5 :Tryz.f5.results.toList=[.tmp 6]:=rfl
theorem rvs_15 :Tryz.f15.results.toList=[.cell 4 29]:=rfl
theorem rvs_16 :Tryz.f16.results.toList=[.tmp 8,.tmp 9]:=rfl
theorem rvs_39 :Tryz.f39.results.toList=[.tmp 6,.tmp 7]:=rfl
end
section
open Go Go.Ab Go.Ab.Sy
attribute [-simp] Prog.bind getCs putCs
attribute [local simp ↓] run_bind
attribute [local simp ↓] Au
attribute [local simp] Ar Am Bf facetsC facetsW facetsH Ax At
theorem D2a {X:Orc}(m:Q.D4)(g src:ByteArray)(hX: ∀a,X.dat 15 a=none)(hd:(lim P0 E2 X).dat 7 [tv src]=some [.agg m.row])(hs:(lim P0 E2 X).dat 38 [tv ⟨#[97,98,99]⟩]=some [tv g]):(lim P0 E2 X).dat 15 [tv src,tv ⟨#[97,98,99]⟩]=some [.agg [iv 4,.vec 1 [],tv ⟨#[]⟩,iv 0,uv m.d0,uv m.d1,uv m.d2,uv m.d3,tv g]]:=by
 refine fnW (P:=P0) (E:=E2) (X:=X) Tryz.func15 (hX _) rfl Gqa rfl rtys_15 rvs_15 ?_
 unfold Q.D4.row at hd
 exact ZS
theorem Tr {X:Orc}(k m0 m1 m2 m3:Int)(g src c:ByteArray)(e:Int)(o:ByteArray)(b:Bool)(hX: ∀a,X.dat 39 a=none)(hb:(lim P0 E2 X).dat 8 [.agg [iv k,.sl false 1 [],tv ⟨#[]⟩,iv 0,uv m0,uv m1,uv m2,uv m3,tv g],tv src]=some [tv c,iv e])(hr:(lim P0 E2 X).dat 63 [tv c,tv src,iv 20000]=some [tv o,bv b]):(lim P0 E2 X).dat 39 [tv src,.agg [iv k,.sl false 1 [],tv ⟨#[]⟩,iv 0,uv m0,uv m1,uv m2,uv m3,tv g],iv 20000]=some (if e=0 then[tv o,bv b] else[tv ⟨#[]⟩,bv false]):=by
 refine fnW (P:=P0) (E:=E2) (X:=X) Tryz.func39 (hX _) rfl Gea rfl rtys_39 rvs_39 ?_
 by_cases he:e=0
 ·subst he
  exact ZS
 ·rw[if_neg he]
  exact ZS
theorem once_w {X:Orc}(k m0 m1 m2 m3:Int)(g src bin o:ByteArray)(a:Int)(b:Bool)(hX: ∀a,X.dat 16 a=none)(hs:(lim P0 E2 X).dat 39 [tv src,.agg [iv k,.sl false 1 [],tv ⟨#[]⟩,iv 0,uv m0,uv m1,uv m2,uv m3,tv g],iv 20000]=some [tv o,bv b])(hd:(lim P0 E2 X).dat 40 [tv o,tv bin]=some [iv a]):(lim P0 E2 X).dat 16 [tv src,tv bin,.agg [iv k,.sl false 1 [],tv ⟨#[]⟩,iv 0,uv m0,uv m1,uv m2,uv m3,tv g],iv 20000]=some (if b then(if 0<=a then[iv 8,iv a] else[iv 0,iv (-1)]) else[iv 12,iv (-1)]):=by
 refine fnW (P:=P0) (E:=E2) (X:=X) Tryz.func16 (hX _) rfl Gpa rfl rtys_16 rvs_16 ?_
 cases b with
 |false=>
  exact ZS
 |true=>
  by_cases ha:0<=a
  ·rw[if_pos rfl,if_pos ha]
   exact ZS
  ·rw[if_pos rfl,if_neg ha]
   exact ZS
theorem g5_big {X:Orc}(src known bin:ByteArray)(hX: ∀a,X.dat 5 a=none)(h6:(lim P0 E2 X).dat 14 []=some [bv true])(hb: ¬(src.size<=400/\known.size<=400/\bin.size<=4000)):(lim P0 E2 X).dat 5 [tv src,tv known,tv bin]=some [bv true]:=by
 refine fnW (P:=P0) (E:=E2) (X:=X) Tryz.func5 (hX _) rfl O5 rfl R7 rvs_5 ?_
 by_cases h1:src.size<=400
 ·have e1:(src.size:Int)<=400:=Zo
  by_cases h2:known.size<=400
  ·have e2:(known.size:Int)<=400:=Zo
   have e3: ¬(bin.size:Int)<=4000:=Zo
   clear hb h1 h2
   exact ZS
  ·have e2: ¬(known.size:Int)<=400:=Zo
   clear hb h1 h2
   exact ZS
 ·have e1: ¬(src.size:Int)<=400:=Zo
  clear hb h1
  exact ZS
theorem g5_same {X:Orc}(src known bin:ByteArray)(m:Q.D4)(hX: ∀a,X.dat 5 a=none)(h6:(lim P0 E2 X).dat 14 []=some [bv true])(h7:(lim P0 E2 X).dat 7 [tv src]=some [.agg m.row])(h8:(lim P0 E2 X).dat 7 [tv known]=some [.agg m.row])(z1:(src.size:Int)<=400)(z2:(known.size:Int)<=400)(z3:(bin.size:Int)<=4000):(lim P0 E2 X).dat 5 [tv src,tv known,tv bin]=some [bv true]:=by
 refine fnW (P:=P0) (E:=E2) (X:=X) Tryz.func5 (hX _) rfl O5 rfl R7 rvs_5 ?_
 unfold Q.D4.row at h7 h8
 repeat' (first|refine ZN ?_|refine Z2 ?_ ?_|(intro h h';try simp[*,-h] at h'))
 all_goals first
  |rfl
  |(exfalso;simp_all;done)
theorem g5_else {X:Orc}(src known bin g:ByteArray)(m n:Q.D4)(e a:Int)(hX: ∀a,X.dat 5 a=none)(h6:(lim P0 E2 X).dat 14 []=some [bv true])(h7:(lim P0 E2 X).dat 7 [tv src]=some [.agg n.row])(h8:(lim P0 E2 X).dat 7 [tv known]=some [.agg m.row])(hp:(lim P0 E2 X).dat 15 [tv known,tv ⟨#[97,98,99]⟩]=some [.agg [iv 4,.vec 1 [],tv ⟨#[]⟩,iv 0,uv m.d0,uv m.d1,uv m.d2,uv m.d3,tv g]])(ho:(lim P0 E2 X).dat 16 [tv src,tv bin,.agg [iv 4,.sl false 1 [],tv ⟨#[]⟩,iv 0,uv m.d0,uv m.d1,uv m.d2,uv m.d3,tv g],iv 20000]=some [iv e,iv a])(hs:(lim P0 E2 X).dat 16 [tv src,tv bin,.agg [iv 1,.sl false 1 [],tv ⟨#[]⟩,iv 0,uv 0,uv 0,uv 0,uv 0,tv ⟨#[]⟩],iv 20000]=some [iv e,iv a])(z1:(src.size:Int)<=400)(z2:(known.size:Int)<=400)(z3:(bin.size:Int)<=4000)(hne:n≠m):(lim P0 E2 X).dat 5 [tv src,tv known,tv bin]=some [bv true]:=by
 refine fnW (P:=P0) (E:=E2) (X:=X) Tryz.func5 (hX _) rfl O5 rfl R7 rvs_5 ?_
 unfold Q.D4.row at h7 h8
 have hbb:(n.d0==m.d0&&(n.d1==m.d1&&(n.d2==m.d2&&n.d3==m.d3)))=false:=by
  cases n;cases m
  simp at hne⊢
  exact hne
 repeat' (first|refine ZN ?_|refine Z2 ?_ ?_|(intro h h';try simp[*,-h] at h'))
 all_goals first
  |rfl
  |(exfalso;apply hne;cases n;cases m;simp_all;done)
end
section
open Go Go.Ab Go.Ab.Sy
theorem J0 (s:Tx): ∃rs,(Lm X47).dat 80 [tv s.1]=some rs/\ ∃b,rs=[bv b]:=by
 refine fnR (P:=P0) (E:=E47) (X:=X47) (R:=fun rs=> ∃b,rs=[bv b]) Tryz.func80 (An _ _) rfl Fsa rfl rtys_80 rvs_80 ?_
 obtain⟨_,h1,b,rfl⟩:=Name_w An s.1 (by have:=s.le;omega)
 repeat' (first|refine ZN ?_|refine Z2 ?_ ?_|(intro h h';try simp[*,-h] at h'))
 all_goals exact⟨_,rfl⟩
noncomputable def nbT (s:Tx):Bool:=Classical.choose (Classical.choose_spec (J0 s)).2
theorem Ft (s:Tx):(Lm X47).dat 80 [tv s.1]=some [bv (nbT s)]:=by
 rw[(Classical.choose_spec (J0 s)).1]
 exact congrArg some (Classical.choose_spec (Classical.choose_spec (J0 s)).2)
theorem J8 (l:List Tx)(hl:l.length<=1048576):(Lm X47).dat 79 [.sl false 1 (txRows l)]=some [bv (l.all nbT)]:=by
 refine fnW (P:=P0) (E:=E47) (X:=X47) Tryz.func79 (An _ _) rfl Fta rfl rtys_79 rvs_79 ?_
 repeat' (first|refine ZN ?_|refine Z2 ?_ ?_|(intro h h';try simp[*,-h] at h'))
 refine Ag (n:=l.length) (fun s0 m z=> ∃i:Nat,l.length - i<=m/\i<=l.length/\z.fr 5= .sl false 1 (txRows l)/\z.fr 6=iv l.length/\z.fr 7=iv i/\l.all nbT=(l.drop i).all nbT) ⟨0,Zo,Zo,Zi,Zi,Zi,Zi⟩ ?_
 rintro m ⟨fr,hp⟩ ⟨i,hm,hi,f5,f6,f7,hd⟩
 simp only at f5 f6 f7
 by_cases hlt:i<l.length
 ·have e1:(i:Int)<l.length:=Zo
  have hg:l[i]?=some l[i]:=List.getElem?_eq_getElem hlt
  rw[List.drop_eq_getElem_cons hlt] at hd
  generalize hq:l[i]=t at*
  have mt:=Ft t
  have HD:=Lib.hid hd
  clear hd
  repeat' (first|refine ZN ?_|refine Z2 ?_ ?_|(intro h h';try simp[*,-h] at h'))
  ·have hd:=HD.out
   simp[hd,h']
  ·have hd:=HD.out
   exact⟨l.length - (i+1),Zo,i+1,Zo,Zo,Zm,Zm,by simp[*,wrapN (k:=i) Zo],by rw[hd];simp[h']⟩
 ·have e1: ¬(i:Int)<l.length:=Zo
  have hd2:l.all nbT=true:=by rw[hd,List.drop_eq_nil_of_le Zo];rfl
  clear hd
  repeat' (first|refine ZN ?_|refine Z2 ?_ ?_|(intro h h';try simp[*,-h] at h'))
  rw[hd2]
theorem Of (s:Tx)(b:Bool):(Lm X47).dat 164 [tv s.1,bv b]=some [bv (nameF nbT s b)]:=by
 refine fnW (P:=P0) (E:=E47) (X:=X47) Tryz.func164 (An _ _) rfl Aua rfl Jea rvs_164 ?_
 have mt:=Ft s
 have he:decide (s.1=(⟨#[]⟩:ByteArray))=decide (s=tx0):=by simp only[Tx.ext_iff]
 cases b
 repeat' (first|refine ZN ?_|refine Z2 ?_ ?_|(intro h h';try simp[*,-h] at h'))
 all_goals simp_all[nameF]
theorem Lsa (nb:Tx->Bool)(k o n:Int)(s:Tx)(l:List Sy.Ex):formE nb (.mk k o n s l)=(
 if k=1 then decide (o=0)&&nameF nb s false&&l.length==0
 else if k=2 then decide (o=0)&&decide (n=0)&&nameF nb s true&&l.length==0
 else if k=3 then decide (o=0)&&decide (n=0)&&nameF nb s true&&l.length==1
 else if k=4 then decide (o=0)&&decide (n=0)&&nameF nb s true&&decide (l.length<=6)
 else if k=5 then decide (o=0)&&decide (n=0)&&nameF nb s false&&l.length==0
 else if k=6 then decide (4<=o)&&decide (o<=15)&&decide (n=0)&&nameF nb s false&&l.length==2
 else if k=7 then decide (o=0)&&decide (n=0)&&nameF nb s false&&l.length==1
 else if k=8\/k=9 then decide (o=0)&&decide (n=0)&&nameF nb s false&&l.length==2
 else false):=rfl
theorem Lra (nb:Tx->Bool)(k:Int)(s:Tx)(e:List Sy.Ex)(th el:List Sy.St):formS nb (.mk k s e th el)=(
 if k=1 then nameF nb s true&&e.length==1&&th.length==0&&el.length==0
 else if k=2 then nameF nb s true&&e.length==2&&th.length==0&&el.length==0
 else if k=3 then nameF nb s false&&e.length==1&&th.length==0&&el.length==0
 else if k=4 then nameF nb s false&&e.length==1
 else if k=5 then nameF nb s false&&e.length==1&&el.length==0
 else if k=6 then nameF nb s true&&decide (e.length<=6)&&th.length==0&&el.length==0
 else if k=7 then nameF nb s false&&decide (e.length<=1)&&th.length==0&&el.length==0
 else false):=rfl
theorem Xu (k o n:Int)(s:Tx)(l:List Sy.Ex):(Lm X47).dat 165 [.agg [iz k,iz o,uz n,tz s.1,.sl false 5 (exRows l)]]=some [bv (formE nbT (.mk k o n s l))]:=by
 refine fnW (P:=P0) (E:=E47) (X:=X47) Tryz.func165 (An _ _) rfl Ata rfl Jda rvs_165 ?_
 have nf:=Of s
 obtain(rfl|rfl|rfl|rfl|rfl|rfl|rfl|rfl|rfl|⟨k1,k2,k3,k4,k5,k6,k7,k8,k9⟩):k=1\/k=2\/k=3\/k=4\/k=5\/k=6\/k=7\/k=8\/k=9\/(k≠1/\k≠2/\k≠3/\k≠4/\k≠5/\k≠6/\k≠7/\k≠8/\k≠9):=Zo
 repeat' (first|refine ZN ?_|refine Z2 ?_ ?_|(intro h h';try simp[*,-h] at h'))
 all_goals (try simp_all[Lsa])
 all_goals (first|omega|(cases l<;>simp;done)|(exact decide_eq_decide.2 Zo)|(intro a;simp only[decide_eq_true_eq] at a;exfalso;omega)|(rw[Bool.eq_iff_iff];simp;omega))
theorem W5 (k:Int)(s:Tx)(e:List Sy.Ex)(th el:List Sy.St):(Lm X47).dat 115 [.agg [iz k,tz s.1,.sl false 5 (exRows e),.sl false 5 (stRows th),.sl false 5 (stRows el)]]=some [bv (formS nbT (.mk k s e th el))]:=by
 refine fnW (P:=P0) (E:=E47) (X:=X47) Tryz.func115 (An _ _) rfl Bha rfl Jva rvs_115 ?_
 have nf:=Of s
 obtain(rfl|rfl|rfl|rfl|rfl|rfl|rfl|⟨k1,k2,k3,k4,k5,k6,k7⟩):k=1\/k=2\/k=3\/k=4\/k=5\/k=6\/k=7\/(k≠1/\k≠2/\k≠3/\k≠4/\k≠5/\k≠6/\k≠7):=Zo
 repeat' (first|refine ZN ?_|refine Z2 ?_ ?_|(intro h h';try simp[*,-h] at h'))
 all_goals (try simp_all[Lra])
 all_goals (first|omega|(rw[Bool.eq_iff_iff];cases th<;>cases el<;>simp<;>omega)|(cases th<;>cases el<;>simp<;>omega)|(intro a;simp only[decide_eq_true_eq] at a;exfalso;omega)|(have z:e.length<=6:=Zo;simp only[z,decide_true,Bool.true_and];rw[Bool.eq_iff_iff];simp;done)|(have z:e.length<=1:=Zo;simp only[z,decide_true,Bool.true_and];rw[Bool.eq_iff_iff];simp;done))
theorem rE_mk (nb:Tx->Bool)(v:Nat)(k o n:Int)(s:Tx)(l:List Sy.Ex):rE nb v (.mk k o n s l)=(formE nb (.mk k o n s l)&&rL nb (v+1) l):=by rw[rE];rfl
theorem rS_mk (nb:Tx->Bool)(v:Nat)(k:Int)(s:Tx)(e:List Sy.Ex)(th el:List Sy.St):rS nb v (.mk k s e th el)=(formS nb (.mk k s e th el)&&rL nb (v+1) e&&rB nb (v+1) th&&rB nb (v+1) el):=by rw[rS];rfl
theorem rL_ne {nb:Tx->Bool}{v:Nat}{l:List Sy.Ex}(h:v<=24):rL nb v l=rEs nb v l:=by simp[rL,h]
theorem rL_no {nb:Tx->Bool}{v:Nat}{l:List Sy.Ex}(h: ¬v<=24)(hl:l≠[]):rL nb v l=false:=by simp[rL,h,hl]
theorem rB_ne {nb:Tx->Bool}{v:Nat}{l:List Sy.St}(h:v<=24):rB nb v l=rSs nb v l:=by simp[rB,h]
theorem rB_no {nb:Tx->Bool}{v:Nat}{l:List Sy.St}(h: ¬v<=24)(hl:l≠[]):rB nb v l=false:=by simp[rB,h,hl]
@[simp] theorem rL_nil (nb:Tx->Bool)(v:Nat):rL nb v []=true:=by simp[rL]
@[simp] theorem rB_nil (nb:Tx->Bool)(v:Nat):rB nb v []=true:=by simp[rB]
theorem Hc {l:List Sy.Ex}{i:Nat}{e:Sy.Ex}(h:l[i]?=some e):(exRows l)[i]?=some e.row:=by simp[Jf,h]
theorem Nv {l:List Sy.St}{i:Nat}{e:Sy.St}(h:l[i]?=some e):(stRows l)[i]?=some e.row:=by simp[Ja,h]
theorem Ko (v:Nat)(hv:v<=25)(hk:v<=24-> ∀l:List Sy.Ex,exSize l<=1048576->(Lm X47).dat 116 [.sl false 5 (exRows l),iv ((v:Int)+1)]=some [bv (rL nbT (v+1) l)])(l:List Sy.Ex)(hl:exSize l<=1048576):(Lm X47).dat 116 [.sl false 5 (exRows l),iv v]=some [bv (rL nbT v l)]:=by
 refine fnW (P:=P0) (E:=E47) (X:=X47) Tryz.func116 (An _ _) rfl Bga rfl Jua rvs_116 ?_
 by_cases h0:l=[]
 ·subst h0
  clear hk
  repeat' (first|refine ZN ?_|refine Z2 ?_ ?_|(intro h h';try simp[*,-h] at h'))
  refine Ag (n:=0) (fun s0 m z=>z.fr 15=iv 0/\z.fr 16=iv 0) ⟨Zi,Zi⟩ ?_
  rintro m ⟨fr,hp⟩ ⟨f15,f16⟩
  simp only at f15 f16
  repeat' (first|refine ZN ?_|refine Z2 ?_ ?_|(intro h h';try simp[*,-h] at h'))
  simp
 have hp0:0<l.length:=List.length_pos_iff.2 h0
 have e0:(0:Int)<l.length:=Zo
 by_cases h24:v<=24
 ·have e1: ¬(24:Int)<v:=Zo
  have e2: ¬24<v:=Zo
  have w1:IntKind.i64.wrap ((v:Int)+1)=(v:Int)+1:=wrapN Zo
  have hlen:l.length<=1048576:=Nat.le_trans (Bv l) hl
  rw[rL_ne h24]
  have HK:=Lib.hid hk
  clear hp0 hk
  repeat' (first|refine ZN ?_|refine Z2 ?_ ?_|(intro h h';try simp[*,-h] at h'))
  refine Ag (n:=l.length) (fun s0 m z=> ∃i:Nat,l.length - i<=m/\i<=l.length/\z.fr 1=iv v/\z.fr 14= .sl false 5 (exRows l)/\z.fr 15=iv l.length/\z.fr 16=iv i/\rEs nbT v l=rEs nbT v (l.drop i)) ⟨0,Zo,Zo,Zi,Zi,Zi,Zi,Zi⟩ ?_
  rintro m ⟨fr,hp⟩ ⟨i,hm,hi,f1,f14,f15,f16,hd⟩
  simp only at f1 f14 f15 f16
  by_cases hlt:i<l.length
  ·have e3:(i:Int)<l.length:=Zo
   have hg:l[i]?=some l[i]:=List.getElem?_eq_getElem hlt
   rw[List.drop_eq_getElem_cons hlt] at hd
   generalize l[i]=t at*
   have hgt:=Hc hg
   have hst:=B6 hg
   have hwi:IntKind.i64.wrap ((i:Int)+1)=(i:Int)+1:=wrapN Zo
   obtain⟨k,o,n,s,kids⟩:=t
   simp only[Az] at hgt
   simp only[A2] at hst
   have hf:=Xu k o n s kids
   have hkk:=HK.out h24 kids Zo
   have HD:=Lib.hid hd
   clear hd hg hlt
   repeat' (first|refine ZN ?_|refine Z2 ?_ ?_|(intro h h';try simp[*,-h] at h'))
   all_goals have hd:=HD.out
   all_goals first
    |exact⟨l.length - (i+1),Zo,i+1,Zo,Zo,Zm,Zm,Zm,Zm,by rw[hd];simp[rE_mk, *]⟩
    |(simp[hd,rE_mk, *];done)
  ·have e3: ¬(i:Int)<l.length:=Zo
   have hd2:rEs nbT v l=true:=by rw[hd,List.drop_eq_nil_of_le Zo];simp
   clear hd
   repeat' (first|refine ZN ?_|refine Z2 ?_ ?_|(intro h h';try simp[*,-h] at h'))
   rw[hd2]
 ·have e1:(24:Int)<v:=Zo
  have e2:24<v:=Zo
  rw[rL_no h24 h0]
  clear hk hp0
  exact ZS
theorem Kn : ∀(j v:Nat),v+j=25-> ∀l:List Sy.Ex,exSize l<=1048576->(Lm X47).dat 116 [.sl false 5 (exRows l),iv v]=some [bv (rL nbT v l)]
 |0,v,h,l,hl=>Ko v Zo (fun h'=>Zo) l hl
 |j+1,v,h,l,hl=>Ko v Zo (fun _ l hl=>Kn j (v+1) Zo l hl) l hl
theorem Km (v:Nat)(hv:v<=25)(hk:v<=24-> ∀l:List Sy.St,stSize l<=1048576->(Lm X47).dat 81 [.sl false 5 (stRows l),iv ((v:Int)+1)]=some [bv (rB nbT (v+1) l)])(l:List Sy.St)(hl:stSize l<=1048576):(Lm X47).dat 81 [.sl false 5 (stRows l),iv v]=some [bv (rB nbT v l)]:=by
 refine fnW (P:=P0) (E:=E47) (X:=X47) Tryz.func81 (An _ _) rfl Fra rfl rtys_81 rvs_81 ?_
 by_cases h0:l=[]
 ·subst h0
  clear hk
  repeat' (first|refine ZN ?_|refine Z2 ?_ ?_|(intro h h';try simp[*,-h] at h'))
  refine Ag (n:=0) (fun s0 m z=>z.fr 15=iv 0/\z.fr 16=iv 0) ⟨Zi,Zi⟩ ?_
  rintro m ⟨fr,hp⟩ ⟨f15,f16⟩
  simp only at f15 f16
  repeat' (first|refine ZN ?_|refine Z2 ?_ ?_|(intro h h';try simp[*,-h] at h'))
  simp
 have hp0:0<l.length:=List.length_pos_iff.2 h0
 have e0:(0:Int)<l.length:=Zo
 by_cases h24:v<=24
 ·have e1: ¬(24:Int)<v:=Zo
  have e2: ¬24<v:=Zo
  have w1:IntKind.i64.wrap ((v:Int)+1)=(v:Int)+1:=wrapN Zo
  have hlen:l.length<=1048576:=Nat.le_trans (Cl l) hl
  rw[rB_ne h24]
  have HK:=Lib.hid hk
  clear hp0 hk
  repeat' (first|refine ZN ?_|refine Z2 ?_ ?_|(intro h h';try simp[*,-h] at h'))
  refine Ag (n:=l.length) (fun s0 m z=> ∃i:Nat,l.length - i<=m/\i<=l.length/\z.fr 1=iv v/\z.fr 14= .sl false 5 (stRows l)/\z.fr 15=iv l.length/\z.fr 16=iv i/\rSs nbT v l=rSs nbT v (l.drop i)) ⟨0,Zo,Zo,Zi,Zi,Zi,Zi,Zi⟩ ?_
  rintro m ⟨fr,hp⟩ ⟨i,hm,hi,f1,f14,f15,f16,hd⟩
  simp only at f1 f14 f15 f16
  by_cases hlt:i<l.length
  ·have e3:(i:Int)<l.length:=Zo
   have hg:l[i]?=some l[i]:=List.getElem?_eq_getElem hlt
   rw[List.drop_eq_getElem_cons hlt] at hd
   generalize l[i]=t at*
   have hgt:=Nv hg
   have hst:=Eb hg
   have hwi:IntKind.i64.wrap ((i:Int)+1)=(i:Int)+1:=wrapN Zo
   obtain⟨k,s,e,th,el⟩:=t
   simp only[Db] at hgt
   simp only[Cp] at hst
   have hf:=W5 k s e th el
   have hke:=Kn (24 - v) (v+1) Zo e Zo
   have hkt:=HK.out h24 th Zo
   have hkl:=HK.out h24 el Zo
   rw[Int.natCast_add,Int.natCast_one] at hke
   have HD:=Lib.hid hd
   clear hd hg hlt
   repeat' (first|refine ZN ?_|refine Z2 ?_ ?_|(intro h h';try simp[*,-h] at h'))
   all_goals have hd:=HD.out
   all_goals first
    |exact⟨l.length - (i+1),Zo,i+1,Zo,Zo,Zm,Zm,Zm,Zm,by rw[hd];simp[rS_mk, *]⟩
    |(simp[hd,rS_mk, *];done)
  ·have e3: ¬(i:Int)<l.length:=Zo
   have hd2:rSs nbT v l=true:=by rw[hd,List.drop_eq_nil_of_le Zo];simp
   clear hd
   repeat' (first|refine ZN ?_|refine Z2 ?_ ?_|(intro h h';try simp[*,-h] at h'))
   rw[hd2]
 ·have e1:(24:Int)<v:=Zo
  have e2:24<v:=Zo
  rw[rB_no h24 h0]
  clear hk hp0
  exact ZS
theorem Kl : ∀(j v:Nat),v+j=25-> ∀l:List Sy.St,stSize l<=1048576->(Lm X47).dat 81 [.sl false 5 (stRows l),iv v]=some [bv (rB nbT v l)]
 |0,v,h,l,hl=>Km v Zo (fun h'=>Zo) l hl
 |j+1,v,h,l,hl=>Km v Zo (fun _ l hl=>Kl j (v+1) Zo l hl) l hl
theorem Gva (vs:List Tx)(ar:List (Tx×Int))(fs:List Fu):(Sy.Pr.mk vs ar fs).row=[.sl false 1 (txRows vs),.sl false 2 (arRows ar),.sl false 5 (fs.map Fu.row)]:=rfl
theorem Bqa {l:List (Tx×Int)}{i:Nat}{s:Tx}{z:Int}(h:l[i]?=some (s,z)):(arRows l)[i]?=some [tz s.1,iz z]:=by simp[arRows,h]
theorem Fa {l:List Fu}{i:Nat}{f:Fu}(h:l[i]?=some f):(l.map Fu.row)[i]?=some f.row:=by simp[h]
theorem C8 {l:List Fu}{i:Nat}{f:Fu}(h:l[i]?=some f):f.size<=fuSize l:=Fw (List.mem_of_getElem? h)
theorem rF_mk (nb:Tx->Bool)(nm:Tx)(ps ls:List Tx)(w:Bool)(b:List Sy.St):rF nb ⟨nm,ps,ls,w,b⟩=(nb nm&&decide (ps.length<=6)&&ps.all nb&&ls.all nb&&rB nb 1 b):=rfl
theorem rA_mk (nb:Tx->Bool)(s:Tx)(z:Int):rA nb (s,z)=(nb s&&decide (1<=z)&&decide (z<=4096)):=rfl
theorem rP_mk (nb:Tx->Bool)(vs:List Tx)(ar:List (Tx×Int))(fs:List Fu):rP nb ⟨vs,ar,fs⟩=(decide (1<=fs.length)&&decide (fs.length<=64)&&vs.all nb&&ar.all (rA nb)&&fs.all (rF nb)):=rfl
theorem C7a (vs:List Tx)(ar:List (Tx×Int))(fs:List Fu)(hs:vs.length+ar.length+fuSize fs<=1048576):(Lm X47).dat 48 [.agg [.sl false 1 (txRows vs),.sl false 2 (arRows ar),.sl false 5 (fs.map Fu.row)]]=some [bv (rP nbT ⟨vs,ar,fs⟩)]:=by
 refine fnW (P:=P0) (E:=E47) (X:=X47) Tryz.func48 (An _ _) rfl F8a rfl rtys_48 rvs_48 ?_
 have av:=J8 vs Zo
 have hfl:=Bn fs
 rw[rP_mk]
 generalize vs.all nbT=bvs at*
 by_cases h1:1<=fs.length
 rotate_left
 ·have e1:(fs.length:Int)<1:=Zo
  have e2:fs.length<1:=Zo
  simp only[h1,decide_false,Bool.false_and]
  exact ZS
 have e1: ¬(fs.length:Int)<1:=Zo
 have e2: ¬fs.length<1:=Zo
 by_cases h64:fs.length<=64
 rotate_left
 ·have e3:(64:Int)<fs.length:=Zo
  have e4:64<fs.length:=Zo
  simp only[h64,decide_false,Bool.false_and,Bool.and_false]
  exact ZS
 have e3: ¬(64:Int)<fs.length:=Zo
 have e4: ¬64<fs.length:=Zo
 simp only[h1,h64,decide_true,Bool.true_and]
 have hfs:=Lib.hid hs
 have H1:=Lib.hid h1
 have H64:=Lib.hid h64
 clear h1 h64 hs
 repeat' (first|refine ZN ?_|refine Z2 ?_ ?_|(intro h h';try simp[*,-h] at h'))
 ·simp[*]
 refine Ag (n:=ar.length) (fun s0 m z=> ∃i:Nat,ar.length - i<=m/\i<=ar.length/\z.fr 1=s0.fr 1/\z.hp ⟨0,1,0⟩=s0.hp ⟨0,1,0⟩/\z.fr 24= .sl false 2 (arRows ar)/\z.fr 25=iv ar.length/\z.fr 26=iv i/\ar.all (rA nbT)=(ar.drop i).all (rA nbT)) ⟨0,Zo,Zo,rfl,rfl,Zi,by simp[arRows],Zi,Zi⟩ ?_
 rintro m ⟨fr,hp⟩ ⟨i,hm,hi,f1,b1,f24,f25,f26,hd⟩
 simp at f1 b1
 simp only at f24 f25 f26
 have hfs:=hfs.out
 by_cases hlt:i<ar.length
 ·have e5:(i:Int)<ar.length:=Zo
  have hg:ar[i]?=some ar[i]:=List.getElem?_eq_getElem hlt
  rw[List.drop_eq_getElem_cons hlt] at hd
  generalize ar[i]=t at*
  obtain⟨s,z⟩:=t
  have hgt:=Bqa hg
  have hwi:IntKind.i64.wrap ((i:Int)+1)=(i:Int)+1:=wrapN Zo
  have ms:=Ft s
  rw[List.all_cons,rA_mk] at hd
  have HD:=Lib.hid hd
  clear hd hg hlt
  repeat' (first|refine ZN ?_|refine Z2 ?_ ?_|(intro h h';try simp[*,-h] at h'))
  all_goals have hd:=HD.out
  all_goals first
   |exact⟨ar.length - (i+1),Zo,i+1,Zo,Zo,Zm,Zm,Zm,Zm,Zm,by rw[hd];simp[*]⟩
   |(rw[hd];simp[*];done)
   |(rw[hd];have q:decide (z<=4096)=false:=decide_eq_false Zo;simp[q];done)
   |(rw[hd];have q:decide (1<=z)=false:=decide_eq_false Zo;simp[q];done)
 have e5: ¬(i:Int)<ar.length:=Zo
 have hd2:ar.all (rA nbT)=true:=by rw[hd,List.drop_eq_nil_of_le Zo];rfl
 clear hd
 have b1':=b1
 repeat' (first|refine ZN ?_|refine Z2 ?_ ?_|(intro h h';try simp[*,-h] at h'))
 refine Ag (n:=fs.length) (fun s0 m z=> ∃i:Nat,fs.length - i<=m/\i<=fs.length/\z.fr 46= .sl false 5 (fs.map Fu.row)/\z.fr 47=iv fs.length/\z.fr 48=iv i/\fs.all (rF nbT)=(fs.drop i).all (rF nbT)) ⟨0,Zo,Zo,Zi,Zi,Zi,Zi⟩ ?_
 rintro m ⟨fr,hp⟩ ⟨i,hm,hi,f46,f47,f48,hd⟩
 simp only at f46 f47 f48
 by_cases hlt:i<fs.length
 ·have e5:(i:Int)<fs.length:=Zo
  have hg:fs[i]?=some fs[i]:=List.getElem?_eq_getElem hlt
  rw[List.drop_eq_getElem_cons hlt] at hd
  generalize fs[i]=t at*
  have hgt:=Fa hg
  have hst:=C8 hg
  obtain⟨nm,ps,ls,w,b⟩:=t
  simp only[A3] at hgt
  simp only[Bp] at hst
  have hwi:IntKind.i64.wrap ((i:Int)+1)=(i:Int)+1:=wrapN Zo
  have ms:=Ft nm
  have ap:=J8 ps Zo
  have al:=J8 ls Zo
  have rb:=Kl 24 1 Zo b Zo
  rw[Int.natCast_one] at rb
  rw[List.all_cons,rF_mk] at hd
  obtain⟨bps,hbps⟩: ∃b,ps.all nbT=b:=⟨_,rfl⟩
  obtain⟨bls,hbls⟩: ∃b,ls.all nbT=b:=⟨_,rfl⟩
  obtain⟨bb,hbb⟩: ∃c,rB nbT 1 b=c:=⟨_,rfl⟩
  rw[hbps] at ap hd
  rw[hbls] at al hd
  rw[hbb] at rb hd
  clear hbps hbls hbb
  have HD:=Lib.hid hd
  clear hd hg hlt
  repeat' (first|refine ZN ?_|refine Z2 ?_ ?_|(intro h h';try simp[*,-h] at h'))
  all_goals have hd:=HD.out
  all_goals first
   |exact⟨fs.length - (i+1),Zo,i+1,Zo,Zo,Zm,Zm,Zm,by rw[hd];have q:decide (ps.length<=6)=true:=decide_eq_true Zo;simp[q, *]⟩
   |(rw[hd];simp[*];done)
   |(rw[hd];have q:decide (ps.length<=6)=false:=decide_eq_false Zo;simp[q];done)
 have e5: ¬(i:Int)<fs.length:=Zo
 have hd3:fs.all (rF nbT)=true:=by rw[hd,List.drop_eq_nil_of_le Zo];rfl
 clear hd
 repeat' (first|refine ZN ?_|refine Z2 ?_ ?_|(intro h h';try simp[*,-h] at h'))
 simp[*]
theorem read_hb {d:Nat}{s:ByteArray}(hs:s.size<9223372036854775807){gp:Nat}{hp:Hp}{c1v c2v c3v:AV}(hbx:hp ⟨0,5,0⟩= .box gp [c1v,c2v,c3v] false):
  HB P0 E47 (Lm X47) 0 d 45 [tv s,.fn 46 [.ptr ⟨0,5,0⟩ gp 0]] hp (RR hp gp) (fun _ _=>False):= .inl (read_w hs hbx)
theorem Prog_w (s:ByteArray)(hs:s.size<9223372036854775807): ∃rs,(Lm X47).dat 22 [tv s]=some rs/\ ∃(a e:Int),(e≠0/\rs=[.agg [.vec 1 [],.vec 2 [],.vec 5 []],iv a,iv e])\/(e=0/\ ∃p:Sy.Pr,p.size<=20000/\rP nbT p=true/\rs=[.agg p.row,iv a,iv e]):=by
 refine fnR (P:=P0) (E:=E47) (X:=X47) (R:=fun rs=> ∃(a e:Int),(e≠0/\rs=[.agg [.vec 1 [],.vec 2 [],.vec 5 []],iv a,iv e])\/(e=0/\ ∃p:Sy.Pr,p.size<=20000/\rP nbT p=true/\rs=[.agg p.row,iv a,iv e])) Tryz.func22 (An _ _) rfl Gla rfl rtys_22 rvs_22 ?_
 repeat' (first|refine ZN ?_|refine Z2 ?_ ?_|(intro h h';try simp[*,-h] at h')|((with_reducible apply Ap (f:=45));exact Zv;(apply read_hb hs);exact Zc;(rintro _ hp2 ⟨a,e,rfl,(⟨rfl,⟨vs,ar,fs⟩,hps,hb⟩|⟨he,cells,hb⟩),hlow⟩<;>(have h2:=hlow 2 0 Zi;clear hlow;simp at h2));(simp only[Gva] at hb;simp only[Sy.Pr.size] at hps;have rw1:=C7a vs ar fs Zo);rotate_left;(have e2:e≠0:=Zo);rotate_left)|fail)
 all_goals first
  |exact⟨0,0,.inr ⟨rfl,⟨vs,ar,fs⟩,hps,by assumption,rfl⟩⟩
  |exact⟨0,2,.inl ⟨Zd,rfl⟩⟩
  |exact⟨a,e,.inl ⟨e2,rfl⟩⟩
end
end Go.Proofs.YtpmoibjpjlhcgaaGreatDoor
namespace Go.Ab.Sy
section
open Go Go.Ab
section
variable {T:Type}
def mKeys (m:List (Tx×T)):List Value:=m.map fun x=> .string x.1.val
def mRows (r:T->List AV)(m:List (Tx×T)):List (List AV):=m.map fun x=>r x.2
def mpO (r:T->List AV)(g:Nat)(m:List (Tx×T)):AObj:= .map g (!m.isEmpty) (mKeys m) (mRows r m) false
def mpD (r:T->List AV)(m:List (Tx×T)):AV:= .dmp (!m.isEmpty) (mKeys m) (mRows r m)
theorem Bh {m:List (Tx×T)}{s:Tx}(h:look m s=none): ∀n,findK (.string s.val) (mKeys m) n=some none:=by
 induction m with
 |nil=>intro n;rfl
 |cons x m ih=>
  intro n
  unfold look at h
  rw[List.find?_cons] at h
  by_cases hx:x.1=s
  ·simp[hx] at h
  ·have hv:x.1.val≠s.val:=fun e=>hx (Tx.ext e)
   simp only[hx,decide_false] at h
   have hv':s.val≠x.1.val:=fun e=>hv e.symm
   simp only[mKeys,List.map_cons,findK,keyEq,hv',decide_false]
   exact ih h (n+1)
theorem Cr {r:T->List AV}{m:List (Tx×T)}{s:Tx}{t:T}(h:look m s=some t): ∀n,∃i,findK (.string s.val) (mKeys m) n=some (some (n+i))/\(mRows r m)[i]?=some (r t)/\m[i]?=some (s,t):=by
 induction m with
 |nil=>cases h
 |cons x m ih=>
  intro n
  unfold look at h
  rw[List.find?_cons] at h
  by_cases hx:x.1=s
  ·simp only[hx,decide_true,Option.map_some,Option.some.injEq] at h
   obtain⟨a,b⟩:=x
   simp only at hx h
   subst hx h
   exact⟨0,by simp[mKeys,findK,keyEq],by simp[mRows],rfl⟩
  ·have hv':s.val≠x.1.val:=fun e=>hx (Tx.ext e.symm)
   simp only[hx,decide_false] at h
   obtain⟨i,h1,h2,h3⟩:=ih h (n+1)
   refine⟨i+1,?_,by simpa[mRows] using h2,by simpa using h3⟩
   simp only[mKeys,List.map_cons,findK,keyEq,hv',decide_false]
   rw[show n+(i+1)=n+1+i from Zo]
   exact h1
theorem Ew {m:List (Tx×T)}{s:Tx}{t:T}(h:look m s=some t):(!m.isEmpty)=true:=by
 cases m with
 |nil=>cases h
 |cons _ _=>rfl
theorem Xm (m:List (Tx×T))(x:Tx×T):mKeys (m++[x])=mKeys m++[.string x.1.val]:=by simp[mKeys]
theorem Xl (r:T->List AV)(m:List (Tx×T))(x:Tx×T):mRows r (m++[x])=mRows r m++[r x.2]:=by simp[mRows]
theorem Df (r:T->List AV)(g:Nat)(m:List (Tx×T))(x:Tx×T):mpO r g (m++[x])= .map g true (mKeys m++[.string x.1.val]) (mRows r m++[r x.2]) false:=by
 rw[mpO,Xm,Xl];simp
theorem Bm (m:List (Tx×T)):mKeys m=[]\/(!m.isEmpty)=true:=by cases m<;>simp[mKeys]
end
def thR (t:Th):List AV:=[iz t.1,iz t.2]
end
end Go.Ab.Sy
namespace Go.Proofs.YtpmoibjpjlhcgaaGreatDoor
section
open Go Go.Ab Go.Ab.Sy
theorem find_w (o i:List (Tx×Th))(s:Tx):(Lm X47).dat 170 [.agg [mpD thR o,mpD thR i],tv s.val]=some [.agg [iv (findT i o s).1,iv (findT i o s).2]]:=by
 refine fnW (P:=P0) (E:=E47) (X:=X47) Tryz.func170 (An _ _) rfl Aoa rfl Jaa rvs_170 ?_
 unfold findT mpD
 cases hi:Sy.look i s with
 |some t=>
  obtain⟨a,b⟩:=t
  obtain⟨j,h1,h2,_⟩:=Cr (r:=thR) hi 0
  have h3:=Ew hi
  simp only[thR,Nat.zero_add] at h1 h2
  exact ZS
 |none=>
  have h1:=Bh hi 0
  cases ho:Sy.look o s with
  |some t=>
   obtain⟨a,b⟩:=t
   obtain⟨j,h4,h2,_⟩:=Cr (r:=thR) ho 0
   have h3:=Ew ho
   simp only[thR,Nat.zero_add] at h4 h2
   exact ZS
  |none=>
   have h4:=Bh ho 0
   exact ZS
theorem Ly {T:Type}{m:List (Tx×T)}{u:Bool}{s:Tx}{t t':T}(h:Sy.look m s=some t'):addM (m,u) (s,t)=(m,false):=by simp[addM,h]
theorem Lz {T:Type}{m:List (Tx×T)}{u:Bool}{s:Tx}{t:T}(h:Sy.look m s=none):addM (m,u) (s,t)=(m++[(s,t)],u):=by simp[addM,h]
theorem addG {d:Nat}{hp1:Hp}{m:List (Tx×Th)}{u:Bool}{s:Tx}{a b:Int}{gm g4 g5:Nat}(h4:hp1 ⟨0,4,0⟩= .box g4 [.mp ⟨0,13,0⟩ gm] false)(h5:hp1 ⟨0,5,0⟩= .box g5 [bz u] false)(hm:hp1 ⟨0,13,0⟩=mpO thR gm m):HB P0 E47 (Lm X47) 0 d 242 [tz s.val,.agg [iz a,iz b],.ptr ⟨0,4,0⟩ g4 0,.ptr ⟨0,5,0⟩ g5 0] hp1 (fun v hp2=>v= .tup []/\hp2 ⟨0,13,0⟩=mpO thR gm (addM (m,u) (s,(a,b))).1/\hp2 ⟨0,5,0⟩= .box g5 [bz (addM (m,u) (s,(a,b))).2] false/\ ∀i c,i≠5->i≠13->hp2 ⟨0,i,c⟩=hp1 ⟨0,i,c⟩) (fun _ _=>False):=by
 refine Af (k1:=1) (PR:=fun _ _=>False) rfl Tryz.func242 (Aj Zd) rfl Yz rfl rvs_242 ?_
 have hmk:=Bm m
 cases hl:Sy.look m s with
 |some t=>
  obtain⟨t1,t2⟩:=t
  obtain⟨j,k1,k2,_⟩:=Cr (r:=thR) hl 0
  have k3:=Ew hl
  have hm0:=hm
  unfold mpO at hm
  rw[Ly hl]
  simp only[thR,Nat.zero_add] at k1 k2
  rw[k3] at hm
  clear hmk
  repeat' (first|refine ZN ?_|refine Z2 ?_ ?_|(intro h h';try simp[*,-h] at h'))
  all_goals exact⟨rfl,by clear hm;simp[*],Zm,fun i c h1 h2=>by simp[h1,h2]⟩
 |none=>
  have k1:=Bh hl 0
  rw[Lz hl,Df]
  unfold mpO at hm
  obtain⟨ks,hks⟩: ∃ks,mKeys m=ks:=⟨_,rfl⟩
  obtain⟨ag,hag⟩: ∃ag,(!m.isEmpty)=ag:=⟨_,rfl⟩
  obtain⟨rs,hrs⟩: ∃rs,mRows thR m=rs:=⟨_,rfl⟩
  rw[hks] at hmk k1 hm
  rw[hag] at hmk hm
  rw[hrs] at hm
  rw[hks,hrs]
  clear hks hag hrs
  repeat' (first|refine ZN ?_|refine Z2 ?_ ?_|(intro h h';try simp[*,-h] at h'))
  all_goals exact⟨rfl,by simp[*,thR],Zm,fun i c h1 h2=>by simp[h1,h2]⟩
theorem addL {d:Nat}{hp1:Hp}{m:List (Tx×Th)}{u:Bool}{s:Tx}{b:Int}{gm g4 g5:Nat}(h4:hp1 ⟨0,4,0⟩= .box g4 [.mp ⟨0,11,0⟩ gm] false)(h5:hp1 ⟨0,5,0⟩= .box g5 [bz u] false)(hm:hp1 ⟨0,11,0⟩=mpO thR gm m):HB P0 E47 (Lm X47) 0 d 243 [tz s.val,iz b,.ptr ⟨0,4,0⟩ g4 0,.ptr ⟨0,5,0⟩ g5 0] hp1 (fun v hp2=>v= .tup []/\hp2 ⟨0,11,0⟩=mpO thR gm (addM (m,u) (s,(1,b))).1/\hp2 ⟨0,5,0⟩= .box g5 [bz (addM (m,u) (s,(1,b))).2] false/\ ∀i c,i≠5->i≠11->hp2 ⟨0,i,c⟩=hp1 ⟨0,i,c⟩) (fun _ _=>False):=by
 refine Af (k1:=1) (PR:=fun _ _=>False) rfl Tryz.func243 (Aj Zd) rfl Yy rfl rvs_243 ?_
 have hmk:=Bm m
 cases hl:Sy.look m s with
 |some t=>
  obtain⟨t1,t2⟩:=t
  obtain⟨j,k1,k2,_⟩:=Cr (r:=thR) hl 0
  have k3:=Ew hl
  have hm0:=hm
  unfold mpO at hm
  rw[Ly hl]
  simp only[thR,Nat.zero_add] at k1 k2
  rw[k3] at hm
  clear hmk
  repeat' (first|refine ZN ?_|refine Z2 ?_ ?_|(intro h h';try simp[*,-h] at h'))
  all_goals exact⟨rfl,by clear hm;simp[*],Zm,fun i c h1 h2=>by simp[h1,h2]⟩
 |none=>
  have k1:=Bh hl 0
  rw[Lz hl,Df]
  unfold mpO at hm
  obtain⟨ks,hks⟩: ∃ks,mKeys m=ks:=⟨_,rfl⟩
  obtain⟨ag,hag⟩: ∃ag,(!m.isEmpty)=ag:=⟨_,rfl⟩
  obtain⟨rs,hrs⟩: ∃rs,mRows thR m=rs:=⟨_,rfl⟩
  rw[hks] at hmk k1 hm
  rw[hag] at hmk hm
  rw[hrs] at hm
  rw[hks,hrs]
  clear hks hag hrs
  repeat' (first|refine ZN ?_|refine Z2 ?_ ?_|(intro h h';try simp[*,-h] at h'))
  all_goals exact⟨rfl,by simp[*,thR],Zm,fun i c h1 h2=>by simp[h1,h2]⟩
theorem Dl {T:Type}(l:List (Tx×T))(x:Tx×T)(m:List (Tx×T)×Bool):addAll (l++[x]) m=addM (addAll l m) x:=by simp[addAll]
theorem Ka {T:Type}(l l2:List (Tx×T))(m:List (Tx×T)×Bool):addAll (l++l2) m=addAll l2 (addAll l m):=by simp[addAll]
theorem Cu {α β:Type}(f:Int->α->β)(n:Nat)(l:List α)(i:Nat){a:α}(h:l[i]?=some a):num f n (l.take (i+1))=num f n (l.take i)++[f ((n+i:Nat):Int) a]:=by
 have hi:i<l.length:=(List.getElem?_eq_some_iff.1 h).1
 rw[List.take_add_one,h]
 show num f n (l.take i++[a])=_
 rw[Kr]
 simp only[num,List.length_take,Nat.min_eq_left (Nat.le_of_lt hi)]
theorem Ld {l:List Tx}{i:Nat}{s:Tx}(h:l[i]?=some s):(txRows l)[i]?=some [tz s.val]:=by simp[h]
theorem Eva (vs:List Tx)(ar:List (Tx×Int))(fs:List Fu)(hs:vs.length+ar.length+fuSize fs<=1048576):(Lm X47).dat 166 [.agg [.sl false 1 (txRows vs),.sl false 2 (arRows ar),.sl false 5 (fs.map Fu.row)]]=some [mpD thR (outM ⟨vs,ar,fs⟩).1,bz (outM ⟨vs,ar,fs⟩).2]:=by
 refine fnW (P:=P0) (E:=E47) (X:=X47) Tryz.func166 (An _ _) rfl Asa rfl Jca rvs_166 ?_
 have hfl:=Bn fs
 repeat' (first|refine ZN ?_|refine Z2 ?_ ?_|(intro h h';try simp[*,-h] at h'))
 refine Ag (n:=vs.length) (fun s0 m z=> ∃i:Nat,vs.length - i<=m/\i<=vs.length/\z.fr 1=s0.fr 1/\z.hp ⟨0,1,0⟩=s0.hp ⟨0,1,0⟩/\z.fr 4= .ptr ⟨0,4,0⟩ 1 0/\z.fr 5= .ptr ⟨0,5,0⟩ 1 0/\z.fr 6= .fn 242 [.ptr ⟨0,4,0⟩ 1 0,.ptr ⟨0,5,0⟩ 1 0]/\z.fr 16= .sl false 1 (txRows vs)/\z.fr 17=iv vs.length/\z.fr 18=iv i/\z.hp ⟨0,4,0⟩= .box 1 [.mp ⟨0,13,0⟩ 1] false/\z.hp ⟨0,5,0⟩= .box 1 [bz (addAll (num (fun i (s:Tx)=>(s,((2:Int),i))) 0 (vs.take i)) ([],true)).2] false/\z.hp ⟨0,13,0⟩=mpO thR 1 (addAll (num (fun i (s:Tx)=>(s,((2:Int),i))) 0 (vs.take i)) ([],true)).1) ⟨0,Zo,Zo,rfl,rfl,Zm,Zm,Zm,Zm,by simp[*,arRows],Zi,Zm,(by first|(simp[*,addAll,num];done)|(simp[*,addAll,num];rfl)),(by first|(simp[*,addAll,num];done)|(simp[*,addAll,num];rfl))⟩ ?_
 rintro m ⟨fr,hp⟩ ⟨i,hm,hi,f1,b1,f4,f5,f6,fl_,fn_,fi_,h4,h5,hq⟩
 simp at f1 b1
 simp only at f4 f5 f6 fl_ fn_ fi_ h4 h5 hq
 by_cases hlt:i<vs.length
 ·have e1:(i:Int)<vs.length:=Zo
  have hg:vs[i]?=some vs[i]:=List.getElem?_eq_getElem hlt
  have hwi:IntKind.i64.wrap ((i:Int)+1)=(i:Int)+1:=wrapN Zo
  generalize vs[i]=t at*
  have hgt:=Ld hg
  have hnt:=Cu (fun i (s:Tx)=>(s,((2:Int),i))) 0 vs i hg
  have hpl:vs.length<=1048576:=Zo
  generalize hS:addAll (num (fun i (s:Tx)=>(s,((2:Int),i))) 0 (vs.take i)) ([],true)=S at*
  obtain⟨ms,us⟩:=S
  simp only at h5 hq
  clear hg hlt
  repeat' (first|refine ZN ?_|refine Z2 ?_ ?_|(intro h h';try simp[*,-h] at h')|((with_reducible apply Ap (f:=242));exact Zv;(apply addG);exact Zc;exact Zc;exact Zc;(rintro _ hp2 ⟨rfl,hm2,h52,hk2⟩))|fail)
  refine⟨vs.length - (i+1),Zo,i+1,Zo,Zo,Zm,Zm,Zm,Zm,Zm,Zm,Zm,Zm,Zm,?_,?_⟩
  all_goals rw[hnt,Dl,hS]
  ·(first|(simp[*];done)|(simp[*];rfl))
  ·(first|(simp[*];done)|(simp[*];rfl))
 have e1: ¬(i:Int)<vs.length:=Zo
 have hz:vs.take i=vs:=List.take_of_length_le Zo
 rw[hz] at h5 hq
 generalize hS1:addAll (num (fun i (s:Tx)=>(s,((2:Int),i))) 0 vs) ([],true)=S1 at*
 clear hz
 repeat' (first|refine ZN ?_|refine Z2 ?_ ?_|(intro h h';try simp[*,-h] at h'))
 refine Ag (n:=ar.length) (fun s0 m z=> ∃i:Nat,ar.length - i<=m/\i<=ar.length/\z.fr 1=s0.fr 1/\z.hp ⟨0,1,0⟩=s0.hp ⟨0,1,0⟩/\z.fr 4= .ptr ⟨0,4,0⟩ 1 0/\z.fr 5= .ptr ⟨0,5,0⟩ 1 0/\z.fr 6= .fn 242 [.ptr ⟨0,4,0⟩ 1 0,.ptr ⟨0,5,0⟩ 1 0]/\z.fr 30= .sl false 2 (arRows ar)/\z.fr 31=iv ar.length/\z.fr 32=iv i/\z.hp ⟨0,4,0⟩= .box 1 [.mp ⟨0,13,0⟩ 1] false/\z.hp ⟨0,5,0⟩= .box 1 [bz (addAll (num (fun i (a:Tx×Int)=>(a.1,((3:Int),i))) 0 (ar.take i)) S1).2] false/\z.hp ⟨0,13,0⟩=mpO thR 1 (addAll (num (fun i (a:Tx×Int)=>(a.1,((3:Int),i))) 0 (ar.take i)) S1).1) ⟨0,Zo,Zo,rfl,rfl,Zm,Zm,Zm,Zm,by simp[*,arRows],Zi,Zm,(by first|(simp[*,addAll,num];done)|(simp[*,addAll,num];rfl)),(by first|(simp[*,addAll,num];done)|(simp[*,addAll,num];rfl))⟩ ?_
 rintro m ⟨fr,hp⟩ ⟨i,hm,hi,f1,b1,f4,f5,f6,fl_,fn_,fi_,h4,h5,hq⟩
 simp at f1 b1
 simp only at f4 f5 f6 fl_ fn_ fi_ h4 h5 hq
 by_cases hlt:i<ar.length
 ·have e1:(i:Int)<ar.length:=Zo
  have hg:ar[i]?=some ar[i]:=List.getElem?_eq_getElem hlt
  have hwi:IntKind.i64.wrap ((i:Int)+1)=(i:Int)+1:=wrapN Zo
  generalize ar[i]=t at*
  have hgt:=Bqa hg
  have hnt:=Cu (fun i (a:Tx×Int)=>(a.1,((3:Int),i))) 0 ar i hg
  have hpl:ar.length<=1048576:=Zo
  obtain⟨t1,t2⟩:=t
  generalize hS:addAll (num (fun i (a:Tx×Int)=>(a.1,((3:Int),i))) 0 (ar.take i)) S1=S at*
  obtain⟨ms,us⟩:=S
  simp only at h5 hq
  clear hg hlt
  repeat' (first|refine ZN ?_|refine Z2 ?_ ?_|(intro h h';try simp[*,-h] at h')|((with_reducible apply Ap (f:=242));exact Zv;(apply addG);exact Zc;exact Zc;exact Zc;(rintro _ hp2 ⟨rfl,hm2,h52,hk2⟩))|fail)
  refine⟨ar.length - (i+1),Zo,i+1,Zo,Zo,Zm,Zm,Zm,Zm,Zm,Zm,Zm,Zm,Zm,?_,?_⟩
  all_goals rw[hnt,Dl,hS]
  ·(first|(simp[*];done)|(simp[*];rfl))
  ·(first|(simp[*];done)|(simp[*];rfl))
 have e1: ¬(i:Int)<ar.length:=Zo
 have hz:ar.take i=ar:=List.take_of_length_le Zo
 rw[hz] at h5 hq
 generalize hS2:addAll (num (fun i (a:Tx×Int)=>(a.1,((3:Int),i))) 0 ar) S1=S2 at*
 clear hz
 repeat' (first|refine ZN ?_|refine Z2 ?_ ?_|(intro h h';try simp[*,-h] at h'))
 refine Ag (n:=fs.length) (fun s0 m z=> ∃i:Nat,fs.length - i<=m/\i<=fs.length/\z.fr 1=s0.fr 1/\z.hp ⟨0,1,0⟩=s0.hp ⟨0,1,0⟩/\z.fr 4= .ptr ⟨0,4,0⟩ 1 0/\z.fr 5= .ptr ⟨0,5,0⟩ 1 0/\z.fr 6= .fn 242 [.ptr ⟨0,4,0⟩ 1 0,.ptr ⟨0,5,0⟩ 1 0]/\z.fr 45= .sl false 5 (fs.map Fu.row)/\z.fr 46=iv fs.length/\z.fr 47=iv i/\z.hp ⟨0,4,0⟩= .box 1 [.mp ⟨0,13,0⟩ 1] false/\z.hp ⟨0,5,0⟩= .box 1 [bz (addAll (num (fun i (f:Fu)=>(f.name,((4:Int),i))) 0 (fs.take i)) S2).2] false/\z.hp ⟨0,13,0⟩=mpO thR 1 (addAll (num (fun i (f:Fu)=>(f.name,((4:Int),i))) 0 (fs.take i)) S2).1) ⟨0,Zo,Zo,rfl,rfl,Zm,Zm,Zm,Zm,by simp[*,arRows],Zi,Zm,(by first|(simp[*,addAll,num];done)|(simp[*,addAll,num];rfl)),(by first|(simp[*,addAll,num];done)|(simp[*,addAll,num];rfl))⟩ ?_
 rintro m ⟨fr,hp⟩ ⟨i,hm,hi,f1,b1,f4,f5,f6,fl_,fn_,fi_,h4,h5,hq⟩
 simp at f1 b1
 simp only at f4 f5 f6 fl_ fn_ fi_ h4 h5 hq
 by_cases hlt:i<fs.length
 ·have e1:(i:Int)<fs.length:=Zo
  have hg:fs[i]?=some fs[i]:=List.getElem?_eq_getElem hlt
  have hwi:IntKind.i64.wrap ((i:Int)+1)=(i:Int)+1:=wrapN Zo
  generalize fs[i]=t at*
  have hgt:=Fa hg
  have hnt:=Cu (fun i (f:Fu)=>(f.name,((4:Int),i))) 0 fs i hg
  have hpl:fs.length<=1048576:=Zo
  obtain⟨t1,t2,t3,t4,t5⟩:=t
  simp only[A3] at hgt
  generalize hS:addAll (num (fun i (f:Fu)=>(f.name,((4:Int),i))) 0 (fs.take i)) S2=S at*
  obtain⟨ms,us⟩:=S
  simp only at h5 hq
  clear hg hlt
  repeat' (first|refine ZN ?_|refine Z2 ?_ ?_|(intro h h';try simp[*,-h] at h')|((with_reducible apply Ap (f:=242));exact Zv;(apply addG);exact Zc;exact Zc;exact Zc;(rintro _ hp2 ⟨rfl,hm2,h52,hk2⟩))|fail)
  refine⟨fs.length - (i+1),Zo,i+1,Zo,Zo,Zm,Zm,Zm,Zm,Zm,Zm,Zm,Zm,Zm,?_,?_⟩
  all_goals rw[hnt,Dl,hS]
  ·(first|(simp[*];done)|(simp[*];rfl))
  ·(first|(simp[*];done)|(simp[*];rfl))
 have e1: ¬(i:Int)<fs.length:=Zo
 have hz:fs.take i=fs:=List.take_of_length_le Zo
 rw[hz] at h5 hq
 generalize hS3:addAll (num (fun i (f:Fu)=>(f.name,((4:Int),i))) 0 fs) S2=S3 at*
 clear hz
 unfold mpO at hq
 repeat' (first|refine ZN ?_|refine Z2 ?_ ?_|(intro h h';try simp[*,-h] at h'))
 have ho:outM ⟨vs,ar,fs⟩=S3:=by
  unfold outM outL
  rw[Ka,Ka,hS1,hS2,hS3]
 rw[ho]
 rfl
theorem K5a (nm:Tx)(ps ls:List Tx)(w:Bool)(b:List Sy.St)(hs:ps.length+ls.length<=1048576):(Lm X47).dat 167 [.agg [tz nm.val,.sl false 1 (txRows ps),.sl false 1 (txRows ls),bz w,.sl false 5 (stRows b)]]=some [mpD thR (inM ⟨nm,ps,ls,w,b⟩).1,bz (inM ⟨nm,ps,ls,w,b⟩).2]:=by
 refine fnW (P:=P0) (E:=E47) (X:=X47) Tryz.func167 (An _ _) rfl Ara rfl Jba rvs_167 ?_
 repeat' (first|refine ZN ?_|refine Z2 ?_ ?_|(intro h h';try simp[*,-h] at h'))
 refine Ag (n:=ps.length) (fun s0 m z=> ∃i:Nat,ps.length - i<=m/\i<=ps.length/\z.fr 1=s0.fr 1/\z.hp ⟨0,1,0⟩=s0.hp ⟨0,1,0⟩/\z.fr 4= .ptr ⟨0,4,0⟩ 1 0/\z.fr 5= .ptr ⟨0,5,0⟩ 1 0/\z.fr 6= .fn 243 [.ptr ⟨0,4,0⟩ 1 0,.ptr ⟨0,5,0⟩ 1 0]/\z.fr 14= .sl false 1 (txRows ps)/\z.fr 15=iv ps.length/\z.fr 16=iv i/\z.hp ⟨0,4,0⟩= .box 1 [.mp ⟨0,11,0⟩ 1] false/\z.hp ⟨0,5,0⟩= .box 1 [bz (addAll (num (fun i (s:Tx)=>(s,((1:Int),i))) 0 (ps.take i)) ([],true)).2] false/\z.hp ⟨0,11,0⟩=mpO thR 1 (addAll (num (fun i (s:Tx)=>(s,((1:Int),i))) 0 (ps.take i)) ([],true)).1) ⟨0,Zo,Zo,rfl,rfl,Zm,Zm,Zm,Zm,by simp[*,arRows],Zi,Zm,(by first|(simp[*,addAll,num];done)|(simp[*,addAll,num];rfl)),(by first|(simp[*,addAll,num];done)|(simp[*,addAll,num];rfl))⟩ ?_
 rintro m ⟨fr,hp⟩ ⟨i,hm,hi,f1,b1,f4,f5,f6,fl_,fn_,fi_,h4,h5,hq⟩
 simp at f1 b1
 simp only at f4 f5 f6 fl_ fn_ fi_ h4 h5 hq
 by_cases hlt:i<ps.length
 ·have e1:(i:Int)<ps.length:=Zo
  have hg:ps[i]?=some ps[i]:=List.getElem?_eq_getElem hlt
  have hwi:IntKind.i64.wrap ((i:Int)+1)=(i:Int)+1:=wrapN Zo
  generalize ps[i]=t at*
  have hgt:=Ld hg
  have hnt:=Cu (fun i (s:Tx)=>(s,((1:Int),i))) 0 ps i hg
  have hpl:ps.length<=1048576:=Zo
  generalize hS:addAll (num (fun i (s:Tx)=>(s,((1:Int),i))) 0 (ps.take i)) ([],true)=S at*
  obtain⟨ms,us⟩:=S
  simp only at h5 hq
  clear hg hlt
  repeat' (first|refine ZN ?_|refine Z2 ?_ ?_|(intro h h';try simp[*,-h] at h')|((with_reducible apply Ap (f:=243));exact Zv;(apply addL);exact Zc;exact Zc;exact Zc;(rintro _ hp2 ⟨rfl,hm2,h52,hk2⟩))|fail)
  refine⟨ps.length - (i+1),Zo,i+1,Zo,Zo,Zm,Zm,Zm,Zm,Zm,Zm,Zm,Zm,Zm,?_,?_⟩
  all_goals rw[hnt,Dl,hS]
  ·(first|(simp[*];done)|(simp[*];rfl))
  ·(first|(simp[*];done)|(simp[*];rfl))
 have e1: ¬(i:Int)<ps.length:=Zo
 have hz:ps.take i=ps:=List.take_of_length_le Zo
 rw[hz] at h5 hq
 generalize hS1:addAll (num (fun i (s:Tx)=>(s,((1:Int),i))) 0 ps) ([],true)=S1 at*
 clear hz
 repeat' (first|refine ZN ?_|refine Z2 ?_ ?_|(intro h h';try simp[*,-h] at h'))
 refine Ag (n:=ls.length) (fun s0 m z=> ∃i:Nat,ls.length - i<=m/\i<=ls.length/\z.fr 1=s0.fr 1/\z.hp ⟨0,1,0⟩=s0.hp ⟨0,1,0⟩/\z.fr 4= .ptr ⟨0,4,0⟩ 1 0/\z.fr 5= .ptr ⟨0,5,0⟩ 1 0/\z.fr 6= .fn 243 [.ptr ⟨0,4,0⟩ 1 0,.ptr ⟨0,5,0⟩ 1 0]/\z.fr 27= .sl false 1 (txRows ls)/\z.fr 28=iv ls.length/\z.fr 29=iv i/\z.hp ⟨0,4,0⟩= .box 1 [.mp ⟨0,11,0⟩ 1] false/\z.hp ⟨0,5,0⟩= .box 1 [bz (addAll (num (fun i (s:Tx)=>(s,((1:Int),i))) ps.length (ls.take i)) S1).2] false/\z.hp ⟨0,11,0⟩=mpO thR 1 (addAll (num (fun i (s:Tx)=>(s,((1:Int),i))) ps.length (ls.take i)) S1).1) ⟨0,Zo,Zo,rfl,rfl,Zm,Zm,Zm,Zm,by simp[*,arRows],Zi,Zm,(by first|(simp[*,addAll,num];done)|(simp[*,addAll,num];rfl)),(by first|(simp[*,addAll,num];done)|(simp[*,addAll,num];rfl))⟩ ?_
 rintro m ⟨fr,hp⟩ ⟨i,hm,hi,f1,b1,f4,f5,f6,fl_,fn_,fi_,h4,h5,hq⟩
 simp at f1 b1
 simp only at f4 f5 f6 fl_ fn_ fi_ h4 h5 hq
 by_cases hlt:i<ls.length
 ·have e1:(i:Int)<ls.length:=Zo
  have hg:ls[i]?=some ls[i]:=List.getElem?_eq_getElem hlt
  have hwi:IntKind.i64.wrap ((i:Int)+1)=(i:Int)+1:=wrapN Zo
  generalize ls[i]=t at*
  have hgt:=Ld hg
  have hnt:=Cu (fun i (s:Tx)=>(s,((1:Int),i))) ps.length ls i hg
  have hpl:ls.length<=1048576:=Zo
  have hw2:IntKind.i64.wrap ((ps.length:Int)+i)=(ps.length:Int)+i:=Ad Zo Zo
  generalize hS:addAll (num (fun i (s:Tx)=>(s,((1:Int),i))) ps.length (ls.take i)) S1=S at*
  obtain⟨ms,us⟩:=S
  simp only at h5 hq
  clear hg hlt
  repeat' (first|refine ZN ?_|refine Z2 ?_ ?_|(intro h h';try simp[*,-h] at h')|((with_reducible apply Ap (f:=243));exact Zv;(apply addL);exact Zc;exact Zc;exact Zc;(rintro _ hp2 ⟨rfl,hm2,h52,hk2⟩))|fail)
  refine⟨ls.length - (i+1),Zo,i+1,Zo,Zo,Zm,Zm,Zm,Zm,Zm,Zm,Zm,Zm,Zm,?_,?_⟩
  all_goals rw[hnt,Dl,hS]
  ·(first|(simp[*];done)|(simp[*];rfl))
  ·(first|(simp[*];done)|(simp[*];rfl))
 have e1: ¬(i:Int)<ls.length:=Zo
 have hz:ls.take i=ls:=List.take_of_length_le Zo
 rw[hz] at h5 hq
 generalize hS2:addAll (num (fun i (s:Tx)=>(s,((1:Int),i))) ps.length ls) S1=S2 at*
 clear hz
 unfold mpO at hq
 repeat' (first|refine ZN ?_|refine Z2 ?_ ?_|(intro h h';try simp[*,-h] at h'))
 have ho:inM ⟨nm,ps,ls,w,b⟩=S2:=by
  unfold inM inL
  rw[Ka,hS1,hS2]
 rw[ho]
 rfl
structure CS (o n:List (Tx×Th))(vs:List Tx)(ar:List (Tx×Int))(fs:List Fu)(i ga gb gc gd ge:Nat)(s:Bool×Bool)(hp:Hp):Prop where
 bn:hp ⟨0,11,0⟩= .box ga [mpD thR o,mpD thR n] false
 b5:hp ⟨0,5,0⟩= .box gb [bz s.1] false
 b6:hp ⟨0,6,0⟩= .box gc [bz s.2] false
 b7:hp ⟨0,7,0⟩= .box gd [iv i] false
 b1:hp ⟨0,1,0⟩= .box ge [.sl false 1 (txRows vs),.sl false 2 (arRows ar),.sl false 5 (fs.map Fu.row)] false
 hF: ∀x,(findT n o x).1=4->0<=(findT n o x).2
 hi:i<=fs.length
 hs:vs.length+ar.length+fuSize fs<=1048576
theorem CS.congr {o n:List (Tx×Th)}{vs:List Tx}{ar:List (Tx×Int)}{fs:List Fu}{i ga gb gc gd ge:Nat}{s:Bool×Bool}{hp hp':Hp}(h:CS o n vs ar fs i ga gb gc gd ge s hp)(he: ∀i c,hp' ⟨0,i,c⟩=hp ⟨0,i,c⟩):CS o n vs ar fs i ga gb gc gd ge s hp':=⟨(he _ _).trans h.bn,(he _ _).trans h.b5,(he _ _).trans h.b6,(he _ _).trans h.b7,(he _ _).trans h.b1,h.hF,h.hi,h.hs⟩
def Keep2 (D:Nat)(hp1 hp2:Hp):Prop:= ∀d i c,d<=D->(⟨d,i,c⟩:Nm)≠⟨0,5,0⟩->(⟨d,i,c⟩:Nm)≠⟨0,6,0⟩->hp2 ⟨d,i,c⟩=hp1 ⟨d,i,c⟩
theorem Keep2.step {D D':Nat}{hp1 hpA hpB hp2:Hp}(h:Keep2 D hp1 hpA)(h2:Keep2 D' hpB hp2)(hd:D<=D')(he: ∀d i c,d<=D->hpB ⟨d,i,c⟩=hpA ⟨d,i,c⟩):Keep2 D hp1 hp2:=fun d i c hd' n1 n2=>(h2 d i c Zo n1 n2).trans ((he d i c hd').trans (h d i c hd' n1 n2))
theorem Keep2.own {D:Nat}{hp1 hp2:Hp}(h:Keep2 D hp1 hp2)(hD:D≠0): ∀i c,hp2 ⟨D,i,c⟩=hp1 ⟨D,i,c⟩:=fun i c=>h D i c (Nat.le_refl _) (by simp[hD]) (by simp[hD])
theorem Keep2.aft {D D':Nat}{hp1 hpA hpB:Hp}{A:Hp->Prop}{u:AV}{Q:AV->Hp->Prop}(HK:Keep2 D hp1 hpA)(hn: ∀hp2,(∀i c,hp2 ⟨D',i,c⟩=hpB ⟨D',i,c⟩)->A hp2->Keep2 D hp1 hp2->Q u hp2)(hd:D<=D':=by omega)(hD:D'≠0:=by omega)(he: ∀d i c,d<=D->hpB ⟨d,i,c⟩=hpA ⟨d,i,c⟩:=by intro d i c hd;simp[Zl hd]): ∀v hp2,(v=u/\A hp2/\Keep2 D' hpB hp2)->Q v hp2:=by
 rintro _ hp2 ⟨rfl,h1,h2⟩
 exact hn hp2 (h2.own hD) h1 (HK.step h2 hd he)
theorem do_w {d k0:Nat}{hp1:Hp}{o n:List (Tx×Th)}{vs:List Tx}{ar:List (Tx×Int)}{fs:List Fu}{i ga gb gc gd ge:Nat}{s:Bool×Bool}{k a:Int}{x:Tx}(hc:CS o n vs ar fs i ga gb gc gd ge s hp1):HB P0 E47 (Lm X47) (k0+1) d 169 (.agg [iz k,tz x.val,iz a]::[.ptr ⟨0,11,0⟩ ga 0,.ptr ⟨0,5,0⟩ gb 0,.ptr ⟨0,7,0⟩ gd 0,.ptr ⟨0,1,0⟩ ge 0,.ptr ⟨0,6,0⟩ gc 0]) hp1 (fun v hp2=>v= .tup []/\CS o n vs ar fs i ga gb gc gd ge (useStep fs (findT n o) i s ⟨k,x,a⟩) hp2/\Keep2 (k0+1) hp1 hp2) (fun _ _=>False):=by
 refine Af (k1:=k0+1+1) (PR:=fun _ _=>False) rfl Tryz.func169 (Aj Zd) rfl Apa rfl rvs_169 ?_
 have hcc:=hc
 obtain⟨bn,b5,b6,b7,b1,hF,hi,hs⟩:=hc
 have hfl:=Bn fs
 have ff:=find_w o n x
 have hFx:=hF x
 obtain⟨ob,ok,or_,ho⟩: ∃b k r,mpD thR o= .dmp b k r:=⟨_,_,_,rfl⟩
 obtain⟨nb,nk,nr,hn⟩: ∃b k r,mpD thR n= .dmp b k r:=⟨_,_,_,rfl⟩
 rw[ho,hn] at bn ff
 clear ho hn
 obtain⟨s1,s2⟩:=s
 simp only at b5 b6
 generalize hfx:findT n o x=t at*
 obtain⟨t1,t2⟩:=t
 simp only at ff hFx
 have HC:=Lib.hid hcc
 have Hs:=Lib.hid hs
 have Hi:=Lib.hid hi
 clear hF hcc hi hs hfl
 obtain(rfl|rfl|rfl|⟨k2,k3,k4⟩):k=2\/k=3\/k=4\/(k≠2/\k≠3/\k≠4):=Zo
 ·have hu:useStep fs (findT n o) i (s1,s2) ⟨2,x,a⟩=(s1&&(decide (t1=1)||decide (t1=2)),s2):=by simp[useStep,hfx]
  rw[hu]
  clear hu hFx
  repeat' (first|refine ZN ?_|refine Z2 ?_ ?_|(intro h h';try simp[*,-h] at h'))
  all_goals refine⟨rfl,⟨by simp;exact HC.out.bn,?_,?_,Zm,Zm,HC.out.hF,HC.out.hi,HC.out.hs⟩,fun d i' c hd n1 n2=>by have hd2:d≠k0+1+1:=Zo;simp[*]⟩
  all_goals first|(simp[*];done)|(simp_all;done)|(simp[*];rw[Bool.eq_iff_iff];simp;done)|(simp[*];rfl)
 ·have hu:useStep fs (findT n o) i (s1,s2) ⟨3,x,a⟩=(s1&&decide (t1=3),s2):=by simp[useStep,hfx]
  rw[hu]
  clear hu hFx
  repeat' (first|refine ZN ?_|refine Z2 ?_ ?_|(intro h h';try simp[*,-h] at h'))
  all_goals refine⟨rfl,⟨by simp;exact HC.out.bn,?_,?_,Zm,Zm,HC.out.hF,HC.out.hi,HC.out.hs⟩,fun d i' c hd n1 n2=>by have hd2:d≠k0+1+1:=Zo;simp[*]⟩
  all_goals first|(simp[*];done)|(simp_all;done)|(simp[*];rw[Bool.eq_iff_iff];simp;done)|(simp[*];rfl)
 ·by_cases h4:t1=4
  ·subst h4
   have hFx:=hFx rfl
   by_cases hlt:t2<i
   ·obtain⟨j,rfl⟩: ∃j:Nat,t2=j:=⟨t2.toNat,Zo⟩
    have hj:j<fs.length:=by have:=Hi.out;omega
    have hg:fs[j]?=some fs[j]:=List.getElem?_eq_getElem hj
    generalize fs[j]=g at*
    have hgt:=Fa hg
    have hst:=C8 hg
    obtain⟨gn,gp,gl,gw,gb'⟩:=g
    simp only[A3] at hgt
    simp only[Bp] at hst
    have e1:(j:Int)<fs.length:=Zo
    have hu:useStep fs (findT n o) i (s1,s2) ⟨4,x,a⟩=(s1,if (gp.length:Int)=a then s2 else false):=by simp[useStep,hfx,hlt,hg]
    rw[hu]
    have e2: ¬(i:Int)<=j:=Zo
    have e3: ¬i<=j:=Zo
    clear hu hg hFx hj
    repeat' (first|refine ZN ?_|refine Z2 ?_ ?_|(intro h h';try simp[*,-h] at h'))
    all_goals refine⟨rfl,⟨by simp;exact HC.out.bn,?_,?_,Zm,Zm,HC.out.hF,HC.out.hi,HC.out.hs⟩,fun d i' c hd n1 n2=>by have hd2:d≠k0+1+1:=Zo;simp[*]⟩
    all_goals first|(simp[*];done)|(simp_all;done)|(simp[*];rw[Bool.eq_iff_iff];simp;done)|(simp[*];rfl)
   ·have hu:useStep fs (findT n o) i (s1,s2) ⟨4,x,a⟩=(false,s2):=by simp[useStep,hfx,hlt]
    rw[hu]
    have e2:(i:Int)<=t2:=Zo
    clear hu hFx
    repeat' (first|refine ZN ?_|refine Z2 ?_ ?_|(intro h h';try simp[*,-h] at h'))
    all_goals refine⟨rfl,⟨by simp;exact HC.out.bn,?_,?_,Zm,Zm,HC.out.hF,HC.out.hi,HC.out.hs⟩,fun d i' c hd n1 n2=>by have hd2:d≠k0+1+1:=Zo;simp[*]⟩
    all_goals first|(simp[*];done)|(simp_all;done)|(simp[*];rw[Bool.eq_iff_iff];simp;done)|(simp[*];rfl)
  ·have hu:useStep fs (findT n o) i (s1,s2) ⟨4,x,a⟩=(false,s2):=by simp[useStep,hfx,h4]
   rw[hu]
   clear hu hFx
   repeat' (first|refine ZN ?_|refine Z2 ?_ ?_|(intro h h';try simp[*,-h] at h'))
   all_goals refine⟨rfl,⟨by simp;exact HC.out.bn,?_,?_,Zm,Zm,HC.out.hF,HC.out.hi,HC.out.hs⟩,fun d i' c hd n1 n2=>by have hd2:d≠k0+1+1:=Zo;simp[*]⟩
   all_goals first|(simp[*];done)|(simp_all;done)|(simp[*];rw[Bool.eq_iff_iff];simp;done)|(simp[*];rfl)
 ·have hu:useStep fs (findT n o) i (s1,s2) ⟨k,x,a⟩=(s1,s2):=by simp[useStep,k2,k3,k4]
  rw[hu]
  clear hu hFx
  repeat' (first|refine ZN ?_|refine Z2 ?_ ?_|(intro h h';try simp[*,-h] at h'))
  all_goals refine⟨rfl,⟨by simp;exact HC.out.bn,?_,?_,Zm,Zm,HC.out.hF,HC.out.hi,HC.out.hs⟩,fun d i' c hd n1 n2=>by have hd2:d≠k0+1+1:=Zo;simp[*]⟩
  all_goals first|(simp[*];done)|(simp_all;done)|(simp[*];rw[Bool.eq_iff_iff];simp;done)|(simp[*];rfl)
theorem Ww {l:List Sy.Ex}{j:Nat}{e:Sy.Ex}(h:l[j]?=some e)(fs:List Fu)(fd:Tx->Th)(i:Nat)(s:Bool×Bool):useAll fs fd i (useEs (l.take (j+1))) s=useAll fs fd i (useEs e.kids) (useAll fs fd i (ownE e) (useAll fs fd i (useEs (l.take j)) s)):=by
 rw[List.take_add_one,h]
 simp[P2,useE_eq,useAll,List.foldl_append]
theorem Wu {l:List Sy.St}{j:Nat}{e:Sy.St}(h:l[j]?=some e)(fs:List Fu)(fd:Tx->Th)(i:Nat)(s:Bool×Bool):useAll fs fd i (useSs (l.take (j+1))) s=useAll fs fd i (useSs e.el) (useAll fs fd i (useSs e.th) (useAll fs fd i (useEs e.e) (useAll fs fd i (ownS e) (useAll fs fd i (useSs (l.take j)) s)))):=by
 rw[List.take_add_one,h]
 simp[P1,useS_eq,useAll,List.foldl_append]
theorem exs_s {o n:List (Tx×Th)}{vs:List Tx}{ar:List (Tx×Int)}{fs:List Fu}{i ga gb gc gd ge:Nat}{g3 g5:Nat}(N:Nat)(hN:N<=1048576)(ih: ∀l:List Sy.Ex,exSize l<N-> ∀{d k0:Nat} {hp1:Hp} {s:Bool×Bool},CS o n vs ar fs i ga gb gc gd ge s hp1->hp1 ⟨1,3,0⟩= .box g3 [.fn 169 [.ptr ⟨0,11,0⟩ ga 0,.ptr ⟨0,5,0⟩ gb 0,.ptr ⟨0,7,0⟩ gd 0,.ptr ⟨0,1,0⟩ ge 0,.ptr ⟨0,6,0⟩ gc 0]] false->hp1 ⟨1,5,0⟩= .box g5 [.fn 244 [.ptr ⟨1,3,0⟩ g3 0,.ptr ⟨1,5,0⟩ g5 0]] false->HB P0 E47 (Lm X47) (k0+1) d 244 [.sl false 5 (exRows l),.ptr ⟨1,3,0⟩ g3 0,.ptr ⟨1,5,0⟩ g5 0] hp1 (fun v hp2=>v= .tup []/\CS o n vs ar fs i ga gb gc gd ge (useAll fs (findT n o) i (useEs l) s) hp2/\Keep2 (k0+1) hp1 hp2) (fun _ _=>False))(l:List Sy.Ex)(hl:exSize l<=N){d k0:Nat}{hp1:Hp}{s:Bool×Bool}(hc:CS o n vs ar fs i ga gb gc gd ge s hp1)(h3:hp1 ⟨1,3,0⟩= .box g3 [.fn 169 [.ptr ⟨0,11,0⟩ ga 0,.ptr ⟨0,5,0⟩ gb 0,.ptr ⟨0,7,0⟩ gd 0,.ptr ⟨0,1,0⟩ ge 0,.ptr ⟨0,6,0⟩ gc 0]] false)(h5:hp1 ⟨1,5,0⟩= .box g5 [.fn 244 [.ptr ⟨1,3,0⟩ g3 0,.ptr ⟨1,5,0⟩ g5 0]] false):HB P0 E47 (Lm X47) (k0+1) d 244 [.sl false 5 (exRows l),.ptr ⟨1,3,0⟩ g3 0,.ptr ⟨1,5,0⟩ g5 0] hp1 (fun v hp2=>v= .tup []/\CS o n vs ar fs i ga gb gc gd ge (useAll fs (findT n o) i (useEs l) s) hp2/\Keep2 (k0+1) hp1 hp2) (fun _ _=>False):=by
 refine Af (k1:=k0+1+1) (PR:=fun _ _=>False) rfl Tryz.func244 (Aj Zd) rfl Yx rfl rvs_244 ?_
 have hlen:l.length<=1048576:=by have:=Bv l;omega
 repeat' (first|refine ZN ?_|refine Z2 ?_ ?_|(intro h h';try simp[*,-h] at h'))
 refine Ag (n:=l.length) (fun s0 m z=> ∃j:Nat,l.length - j<=m/\j<=l.length/\z.fr 1= .ptr ⟨1,3,0⟩ g3 0/\z.fr 2= .ptr ⟨1,5,0⟩ g5 0/\z.fr 6= .sl false 5 (exRows l)/\z.fr 7=iv l.length/\z.fr 8=iv j/\CS o n vs ar fs i ga gb gc gd ge (useAll fs (findT n o) i (useEs (l.take j)) s) z.hp/\Keep2 (k0+1) hp1 z.hp) ⟨0,Zo,Zo,Zi,Zi,Zi,Zi,Zi,by simpa[useAll] using hc,fun _ _ _ _ _ _=>rfl⟩ ?_
 rintro m ⟨fr,hp⟩ ⟨j,hm,hj,f1,f2,fl,fn,fi,hcs,HK⟩
 simp only at f1 f2 fl fn fi hcs HK
 have v3:=(HK 1 3 0 Zo Zi Zi).trans h3
 have v5:=(HK 1 5 0 Zo Zi Zi).trans h5
 by_cases hlt:j<l.length
 ·have e1:(j:Int)<l.length:=Zo
  have hg:l[j]?=some l[j]:=List.getElem?_eq_getElem hlt
  have hwi:IntKind.i64.wrap ((j:Int)+1)=(j:Int)+1:=wrapN Zo
  generalize l[j]=t at*
  have hgt:=Hc hg
  have hst:=B6 hg
  have htk:=Ww hg fs (findT n o) i s
  obtain⟨ek,eo,en,ex,ekids⟩:=t
  simp only[Az] at hgt
  simp only[A2] at hst
  generalize useAll fs (findT n o) i (useEs (l.take j)) s=S at*
  have E1:=Lib.hid e1
  clear hg hlt
  obtain(rfl|rfl|rfl|⟨n2,n3,n4⟩):ek=2\/ek=3\/ek=4\/(ek≠2/\ek≠3/\ek≠4):=Zo
  ·have ho:ownE (.mk 2 eo en ex ekids)=[⟨2,ex,0⟩]:=rfl
   rw[ho] at htk
   clear ho
   have HT:=Lib.hid htk
   clear htk
   repeat' (first|refine ZN ?_|refine Z2 ?_ ?_|(intro h h';try simp[*,-h] at h')|((with_reducible apply Ap (f:=169));exact Zv;(apply do_w (x:=ex));exact ZC;(refine Keep2.aft HK ?_;clear hcs HK v3 v5;intro hp2 hO2 hcs HK;have v3:=(HK 1 3 0 Zo Zi Zi).trans h3;have v5:=(HK 1 5 0 Zo Zi Zi).trans h5))|((with_reducible apply Ap (f:=244));exact Zv;(apply(ih ekids Zo));exact ZC;exact Zc;exact Zc;(refine Keep2.aft HK ?_;clear hcs HK v3 v5;intro hp2 hO2 hcs HK;have v3:=(HK 1 3 0 Zo Zi Zi).trans h3;have v5:=(HK 1 5 0 Zo Zi Zi).trans h5))|fail)
   exact⟨l.length - (j+1),Zo,j+1,Zo,Zo,Zm,Zm,Zm,Zm,Zm,by rw[HT.out];exact hcs,HK⟩
  ·have ho:ownE (.mk 3 eo en ex ekids)=[⟨3,ex,0⟩]:=rfl
   rw[ho] at htk
   clear ho
   have HT:=Lib.hid htk
   clear htk
   repeat' (first|refine ZN ?_|refine Z2 ?_ ?_|(intro h h';try simp[*,-h] at h')|((with_reducible apply Ap (f:=169));exact Zv;(apply do_w (x:=ex));exact ZC;(refine Keep2.aft HK ?_;clear hcs HK v3 v5;intro hp2 hO2 hcs HK;have v3:=(HK 1 3 0 Zo Zi Zi).trans h3;have v5:=(HK 1 5 0 Zo Zi Zi).trans h5))|((with_reducible apply Ap (f:=244));exact Zv;(apply(ih ekids Zo));exact ZC;exact Zc;exact Zc;(refine Keep2.aft HK ?_;clear hcs HK v3 v5;intro hp2 hO2 hcs HK;have v3:=(HK 1 3 0 Zo Zi Zi).trans h3;have v5:=(HK 1 5 0 Zo Zi Zi).trans h5))|fail)
   exact⟨l.length - (j+1),Zo,j+1,Zo,Zo,Zm,Zm,Zm,Zm,Zm,by rw[HT.out];exact hcs,HK⟩
  ·have ho:ownE (.mk 4 eo en ex ekids)=[⟨4,ex,ekids.length⟩]:=rfl
   rw[ho] at htk
   clear ho
   have HT:=Lib.hid htk
   clear htk
   repeat' (first|refine ZN ?_|refine Z2 ?_ ?_|(intro h h';try simp[*,-h] at h')|((with_reducible apply Ap (f:=169));exact Zv;(apply do_w (x:=ex));exact ZC;(refine Keep2.aft HK ?_;clear hcs HK v3 v5;intro hp2 hO2 hcs HK;have v3:=(HK 1 3 0 Zo Zi Zi).trans h3;have v5:=(HK 1 5 0 Zo Zi Zi).trans h5))|((with_reducible apply Ap (f:=244));exact Zv;(apply(ih ekids Zo));exact ZC;exact Zc;exact Zc;(refine Keep2.aft HK ?_;clear hcs HK v3 v5;intro hp2 hO2 hcs HK;have v3:=(HK 1 3 0 Zo Zi Zi).trans h3;have v5:=(HK 1 5 0 Zo Zi Zi).trans h5))|fail)
   exact⟨l.length - (j+1),Zo,j+1,Zo,Zo,Zm,Zm,Zm,Zm,Zm,by rw[HT.out];exact hcs,HK⟩
  ·have ho:ownE (.mk ek eo en ex ekids)=[]:=by simp[ownE,Sy.Ex.kind,n2,n3,n4]
   rw[ho] at htk
   clear ho
   have HT:=Lib.hid htk
   clear htk
   repeat' (first|refine ZN ?_|refine Z2 ?_ ?_|(intro h h';try simp[*,-h] at h')|((with_reducible apply Ap (f:=169));exact Zv;(apply do_w (x:=ex));exact ZC;(refine Keep2.aft HK ?_;clear hcs HK v3 v5;intro hp2 hO2 hcs HK;have v3:=(HK 1 3 0 Zo Zi Zi).trans h3;have v5:=(HK 1 5 0 Zo Zi Zi).trans h5))|((with_reducible apply Ap (f:=244));exact Zv;(apply(ih ekids Zo));exact ZC;exact Zc;exact Zc;(refine Keep2.aft HK ?_;clear hcs HK v3 v5;intro hp2 hO2 hcs HK;have v3:=(HK 1 3 0 Zo Zi Zi).trans h3;have v5:=(HK 1 5 0 Zo Zi Zi).trans h5))|fail)
   exact⟨l.length - (j+1),Zo,j+1,Zo,Zo,Zm,Zm,Zm,Zm,Zm,by rw[HT.out];exact hcs,HK⟩
 have e1: ¬(j:Int)<l.length:=Zo
 have hz:l.take j=l:=List.take_of_length_le Zo
 rw[hz] at hcs
 repeat' (first|refine ZN ?_|refine Z2 ?_ ?_|(intro h h';try simp[*,-h] at h'))
 exact⟨rfl,hcs,HK⟩
theorem exs_n {o n:List (Tx×Th)}{vs:List Tx}{ar:List (Tx×Int)}{fs:List Fu}{i ga gb gc gd ge:Nat}{g3 g5:Nat}: ∀N,N<=1048576-> ∀l:List Sy.Ex,exSize l<=N-> ∀{d k0:Nat} {hp1:Hp} {s:Bool×Bool},CS o n vs ar fs i ga gb gc gd ge s hp1->hp1 ⟨1,3,0⟩= .box g3 [.fn 169 [.ptr ⟨0,11,0⟩ ga 0,.ptr ⟨0,5,0⟩ gb 0,.ptr ⟨0,7,0⟩ gd 0,.ptr ⟨0,1,0⟩ ge 0,.ptr ⟨0,6,0⟩ gc 0]] false->hp1 ⟨1,5,0⟩= .box g5 [.fn 244 [.ptr ⟨1,3,0⟩ g3 0,.ptr ⟨1,5,0⟩ g5 0]] false->HB P0 E47 (Lm X47) (k0+1) d 244 [.sl false 5 (exRows l),.ptr ⟨1,3,0⟩ g3 0,.ptr ⟨1,5,0⟩ g5 0] hp1 (fun v hp2=>v= .tup []/\CS o n vs ar fs i ga gb gc gd ge (useAll fs (findT n o) i (useEs l) s) hp2/\Keep2 (k0+1) hp1 hp2) (fun _ _=>False)
 |0,h,l,hl,_,_,_,_,hc,h3,h5=>exs_s 0 h (fun l h'=>Zo) l hl hc h3 h5
 |N+1,h,l,hl,_,_,_,_,hc,h3,h5=>exs_s (N+1) h (fun l h' _ _ _ _ hc h3 h5=>exs_n N Zo l Zo hc h3 h5) l hl hc h3 h5
theorem Cta {o n:List (Tx×Th)}{vs:List Tx}{ar:List (Tx×Int)}{fs:List Fu}{i ga gb gc gd ge:Nat}{g3 g5:Nat}(l:List Sy.Ex)(hl:exSize l<=1048576){d k0:Nat}{hp1:Hp}{s:Bool×Bool}(hc:CS o n vs ar fs i ga gb gc gd ge s hp1)(h3:hp1 ⟨1,3,0⟩= .box g3 [.fn 169 [.ptr ⟨0,11,0⟩ ga 0,.ptr ⟨0,5,0⟩ gb 0,.ptr ⟨0,7,0⟩ gd 0,.ptr ⟨0,1,0⟩ ge 0,.ptr ⟨0,6,0⟩ gc 0]] false)(h5:hp1 ⟨1,5,0⟩= .box g5 [.fn 244 [.ptr ⟨1,3,0⟩ g3 0,.ptr ⟨1,5,0⟩ g5 0]] false):HB P0 E47 (Lm X47) (k0+1) d 244 [.sl false 5 (exRows l),.ptr ⟨1,3,0⟩ g3 0,.ptr ⟨1,5,0⟩ g5 0] hp1 (fun v hp2=>v= .tup []/\CS o n vs ar fs i ga gb gc gd ge (useAll fs (findT n o) i (useEs l) s) hp2/\Keep2 (k0+1) hp1 hp2) (fun _ _=>False):=exs_n 1048576 (Nat.le_refl _) l hl hc h3 h5
theorem sts_s {o n:List (Tx×Th)}{vs:List Tx}{ar:List (Tx×Int)}{fs:List Fu}{i ga gb gc gd ge:Nat}{g3 g5 g4:Nat}(N:Nat)(hN:N<=1048576)(ih: ∀l:List Sy.St,stSize l<N-> ∀{d k0:Nat} {hp1:Hp} {s:Bool×Bool},CS o n vs ar fs i ga gb gc gd ge s hp1->hp1 ⟨1,3,0⟩= .box g3 [.fn 169 [.ptr ⟨0,11,0⟩ ga 0,.ptr ⟨0,5,0⟩ gb 0,.ptr ⟨0,7,0⟩ gd 0,.ptr ⟨0,1,0⟩ ge 0,.ptr ⟨0,6,0⟩ gc 0]] false->hp1 ⟨1,5,0⟩= .box g5 [.fn 244 [.ptr ⟨1,3,0⟩ g3 0,.ptr ⟨1,5,0⟩ g5 0]] false->hp1 ⟨1,4,0⟩= .box g4 [.fn 245 [.ptr ⟨1,3,0⟩ g3 0,.ptr ⟨1,5,0⟩ g5 0,.ptr ⟨1,4,0⟩ g4 0]] false->HB P0 E47 (Lm X47) (k0+1) d 245 [.sl false 5 (stRows l),.ptr ⟨1,3,0⟩ g3 0,.ptr ⟨1,5,0⟩ g5 0,.ptr ⟨1,4,0⟩ g4 0] hp1 (fun v hp2=>v= .tup []/\CS o n vs ar fs i ga gb gc gd ge (useAll fs (findT n o) i (useSs l) s) hp2/\Keep2 (k0+1) hp1 hp2) (fun _ _=>False))(l:List Sy.St)(hl:stSize l<=N){d k0:Nat}{hp1:Hp}{s:Bool×Bool}(hc:CS o n vs ar fs i ga gb gc gd ge s hp1)(h3:hp1 ⟨1,3,0⟩= .box g3 [.fn 169 [.ptr ⟨0,11,0⟩ ga 0,.ptr ⟨0,5,0⟩ gb 0,.ptr ⟨0,7,0⟩ gd 0,.ptr ⟨0,1,0⟩ ge 0,.ptr ⟨0,6,0⟩ gc 0]] false)(h5:hp1 ⟨1,5,0⟩= .box g5 [.fn 244 [.ptr ⟨1,3,0⟩ g3 0,.ptr ⟨1,5,0⟩ g5 0]] false)(h4:hp1 ⟨1,4,0⟩= .box g4 [.fn 245 [.ptr ⟨1,3,0⟩ g3 0,.ptr ⟨1,5,0⟩ g5 0,.ptr ⟨1,4,0⟩ g4 0]] false):HB P0 E47 (Lm X47) (k0+1) d 245 [.sl false 5 (stRows l),.ptr ⟨1,3,0⟩ g3 0,.ptr ⟨1,5,0⟩ g5 0,.ptr ⟨1,4,0⟩ g4 0] hp1 (fun v hp2=>v= .tup []/\CS o n vs ar fs i ga gb gc gd ge (useAll fs (findT n o) i (useSs l) s) hp2/\Keep2 (k0+1) hp1 hp2) (fun _ _=>False):=by
 refine Af (k1:=k0+1+1) (PR:=fun _ _=>False) rfl Tryz.func245 (Aj Zd) rfl Yw rfl rvs_245 ?_
 have hlen:l.length<=1048576:=by have:=Cl l;omega
 repeat' (first|refine ZN ?_|refine Z2 ?_ ?_|(intro h h';try simp[*,-h] at h'))
 refine Ag (n:=l.length) (fun s0 m z=> ∃j:Nat,l.length - j<=m/\j<=l.length/\z.fr 1= .ptr ⟨1,3,0⟩ g3 0/\z.fr 2= .ptr ⟨1,5,0⟩ g5 0/\z.fr 3= .ptr ⟨1,4,0⟩ g4 0/\z.fr 7= .sl false 5 (stRows l)/\z.fr 8=iv l.length/\z.fr 9=iv j/\CS o n vs ar fs i ga gb gc gd ge (useAll fs (findT n o) i (useSs (l.take j)) s) z.hp/\Keep2 (k0+1) hp1 z.hp) ⟨0,Zo,Zo,Zi,Zi,Zi,Zi,Zi,Zi,by simpa[useAll] using hc,fun _ _ _ _ _ _=>rfl⟩ ?_
 rintro m ⟨fr,hp⟩ ⟨j,hm,hj,f1,f2,f3,fl,fn,fi,hcs,HK⟩
 simp only at f1 f2 f3 fl fn fi hcs HK
 have v3:=(HK 1 3 0 Zo Zi Zi).trans h3
 have v5:=(HK 1 5 0 Zo Zi Zi).trans h5
 have v4:=(HK 1 4 0 Zo Zi Zi).trans h4
 by_cases hlt:j<l.length
 ·have e1:(j:Int)<l.length:=Zo
  have hg:l[j]?=some l[j]:=List.getElem?_eq_getElem hlt
  have hwi:IntKind.i64.wrap ((j:Int)+1)=(j:Int)+1:=wrapN Zo
  generalize l[j]=t at*
  have hgt:=Nv hg
  have hst:=Eb hg
  have htk:=Wu hg fs (findT n o) i s
  obtain⟨ek,ex,ee,eth,eel⟩:=t
  simp only[Db] at hgt
  simp only[Cp] at hst
  generalize useAll fs (findT n o) i (useSs (l.take j)) s=S at*
  have E1:=Lib.hid e1
  clear hg hlt
  obtain(rfl|rfl|rfl|⟨n1,n2,n6⟩):ek=1\/ek=2\/ek=6\/(ek≠1/\ek≠2/\ek≠6):=Zo
  ·have ho:ownS (.mk 1 ex ee eth eel)=[⟨2,ex,0⟩]:=rfl
   rw[ho] at htk
   clear ho
   have HT:=Lib.hid htk
   clear htk
   repeat' (first|refine ZN ?_|refine Z2 ?_ ?_|(intro h h';try simp[*,-h] at h')|((with_reducible apply Ap (f:=169));exact Zv;(apply do_w (x:=ex));exact ZC;(refine Keep2.aft HK ?_;clear hcs HK v3 v5 v4;intro hp2 hO2 hcs HK;have v3:=(HK 1 3 0 Zo Zi Zi).trans h3;have v5:=(HK 1 5 0 Zo Zi Zi).trans h5;have v4:=(HK 1 4 0 Zo Zi Zi).trans h4))|((with_reducible apply Ap (f:=244));exact Zv;(apply(Cta ee Zo));exact ZC;exact Zc;exact Zc;(refine Keep2.aft HK ?_;clear hcs HK v3 v5 v4;intro hp2 hO2 hcs HK;have v3:=(HK 1 3 0 Zo Zi Zi).trans h3;have v5:=(HK 1 5 0 Zo Zi Zi).trans h5;have v4:=(HK 1 4 0 Zo Zi Zi).trans h4))|((with_reducible apply Ap (f:=245));exact Zv;(apply(ih eth Zo));exact ZC;exact Zc;exact Zc;exact Zc;(refine Keep2.aft HK ?_;clear hcs HK v3 v5 v4;intro hp2 hO2 hcs HK;have v3:=(HK 1 3 0 Zo Zi Zi).trans h3;have v5:=(HK 1 5 0 Zo Zi Zi).trans h5;have v4:=(HK 1 4 0 Zo Zi Zi).trans h4))|((with_reducible apply Ap (f:=245));exact Zv;(apply(ih eel Zo));exact ZC;exact Zc;exact Zc;exact Zc;(refine Keep2.aft HK ?_;clear hcs HK v3 v5 v4;intro hp2 hO2 hcs HK;have v3:=(HK 1 3 0 Zo Zi Zi).trans h3;have v5:=(HK 1 5 0 Zo Zi Zi).trans h5;have v4:=(HK 1 4 0 Zo Zi Zi).trans h4))|fail)
   exact⟨l.length - (j+1),Zo,j+1,Zo,Zo,Zm,Zm,Zm,Zm,Zm,Zm,by rw[HT.out];exact hcs,HK⟩
  ·have ho:ownS (.mk 2 ex ee eth eel)=[⟨3,ex,0⟩]:=rfl
   rw[ho] at htk
   clear ho
   have HT:=Lib.hid htk
   clear htk
   repeat' (first|refine ZN ?_|refine Z2 ?_ ?_|(intro h h';try simp[*,-h] at h')|((with_reducible apply Ap (f:=169));exact Zv;(apply do_w (x:=ex));exact ZC;(refine Keep2.aft HK ?_;clear hcs HK v3 v5 v4;intro hp2 hO2 hcs HK;have v3:=(HK 1 3 0 Zo Zi Zi).trans h3;have v5:=(HK 1 5 0 Zo Zi Zi).trans h5;have v4:=(HK 1 4 0 Zo Zi Zi).trans h4))|((with_reducible apply Ap (f:=244));exact Zv;(apply(Cta ee Zo));exact ZC;exact Zc;exact Zc;(refine Keep2.aft HK ?_;clear hcs HK v3 v5 v4;intro hp2 hO2 hcs HK;have v3:=(HK 1 3 0 Zo Zi Zi).trans h3;have v5:=(HK 1 5 0 Zo Zi Zi).trans h5;have v4:=(HK 1 4 0 Zo Zi Zi).trans h4))|((with_reducible apply Ap (f:=245));exact Zv;(apply(ih eth Zo));exact ZC;exact Zc;exact Zc;exact Zc;(refine Keep2.aft HK ?_;clear hcs HK v3 v5 v4;intro hp2 hO2 hcs HK;have v3:=(HK 1 3 0 Zo Zi Zi).trans h3;have v5:=(HK 1 5 0 Zo Zi Zi).trans h5;have v4:=(HK 1 4 0 Zo Zi Zi).trans h4))|((with_reducible apply Ap (f:=245));exact Zv;(apply(ih eel Zo));exact ZC;exact Zc;exact Zc;exact Zc;(refine Keep2.aft HK ?_;clear hcs HK v3 v5 v4;intro hp2 hO2 hcs HK;have v3:=(HK 1 3 0 Zo Zi Zi).trans h3;have v5:=(HK 1 5 0 Zo Zi Zi).trans h5;have v4:=(HK 1 4 0 Zo Zi Zi).trans h4))|fail)
   exact⟨l.length - (j+1),Zo,j+1,Zo,Zo,Zm,Zm,Zm,Zm,Zm,Zm,by rw[HT.out];exact hcs,HK⟩
  ·have ho:ownS (.mk 6 ex ee eth eel)=[⟨4,ex,ee.length⟩]:=rfl
   rw[ho] at htk
   clear ho
   have HT:=Lib.hid htk
   clear htk
   repeat' (first|refine ZN ?_|refine Z2 ?_ ?_|(intro h h';try simp[*,-h] at h')|((with_reducible apply Ap (f:=169));exact Zv;(apply do_w (x:=ex));exact ZC;(refine Keep2.aft HK ?_;clear hcs HK v3 v5 v4;intro hp2 hO2 hcs HK;have v3:=(HK 1 3 0 Zo Zi Zi).trans h3;have v5:=(HK 1 5 0 Zo Zi Zi).trans h5;have v4:=(HK 1 4 0 Zo Zi Zi).trans h4))|((with_reducible apply Ap (f:=244));exact Zv;(apply(Cta ee Zo));exact ZC;exact Zc;exact Zc;(refine Keep2.aft HK ?_;clear hcs HK v3 v5 v4;intro hp2 hO2 hcs HK;have v3:=(HK 1 3 0 Zo Zi Zi).trans h3;have v5:=(HK 1 5 0 Zo Zi Zi).trans h5;have v4:=(HK 1 4 0 Zo Zi Zi).trans h4))|((with_reducible apply Ap (f:=245));exact Zv;(apply(ih eth Zo));exact ZC;exact Zc;exact Zc;exact Zc;(refine Keep2.aft HK ?_;clear hcs HK v3 v5 v4;intro hp2 hO2 hcs HK;have v3:=(HK 1 3 0 Zo Zi Zi).trans h3;have v5:=(HK 1 5 0 Zo Zi Zi).trans h5;have v4:=(HK 1 4 0 Zo Zi Zi).trans h4))|((with_reducible apply Ap (f:=245));exact Zv;(apply(ih eel Zo));exact ZC;exact Zc;exact Zc;exact Zc;(refine Keep2.aft HK ?_;clear hcs HK v3 v5 v4;intro hp2 hO2 hcs HK;have v3:=(HK 1 3 0 Zo Zi Zi).trans h3;have v5:=(HK 1 5 0 Zo Zi Zi).trans h5;have v4:=(HK 1 4 0 Zo Zi Zi).trans h4))|fail)
   exact⟨l.length - (j+1),Zo,j+1,Zo,Zo,Zm,Zm,Zm,Zm,Zm,Zm,by rw[HT.out];exact hcs,HK⟩
  ·have ho:ownS (.mk ek ex ee eth eel)=[]:=by simp[ownS,Sy.St.kind,n1,n2,n6]
   rw[ho] at htk
   clear ho
   have HT:=Lib.hid htk
   clear htk
   repeat' (first|refine ZN ?_|refine Z2 ?_ ?_|(intro h h';try simp[*,-h] at h')|((with_reducible apply Ap (f:=169));exact Zv;(apply do_w (x:=ex));exact ZC;(refine Keep2.aft HK ?_;clear hcs HK v3 v5 v4;intro hp2 hO2 hcs HK;have v3:=(HK 1 3 0 Zo Zi Zi).trans h3;have v5:=(HK 1 5 0 Zo Zi Zi).trans h5;have v4:=(HK 1 4 0 Zo Zi Zi).trans h4))|((with_reducible apply Ap (f:=244));exact Zv;(apply(Cta ee Zo));exact ZC;exact Zc;exact Zc;(refine Keep2.aft HK ?_;clear hcs HK v3 v5 v4;intro hp2 hO2 hcs HK;have v3:=(HK 1 3 0 Zo Zi Zi).trans h3;have v5:=(HK 1 5 0 Zo Zi Zi).trans h5;have v4:=(HK 1 4 0 Zo Zi Zi).trans h4))|((with_reducible apply Ap (f:=245));exact Zv;(apply(ih eth Zo));exact ZC;exact Zc;exact Zc;exact Zc;(refine Keep2.aft HK ?_;clear hcs HK v3 v5 v4;intro hp2 hO2 hcs HK;have v3:=(HK 1 3 0 Zo Zi Zi).trans h3;have v5:=(HK 1 5 0 Zo Zi Zi).trans h5;have v4:=(HK 1 4 0 Zo Zi Zi).trans h4))|((with_reducible apply Ap (f:=245));exact Zv;(apply(ih eel Zo));exact ZC;exact Zc;exact Zc;exact Zc;(refine Keep2.aft HK ?_;clear hcs HK v3 v5 v4;intro hp2 hO2 hcs HK;have v3:=(HK 1 3 0 Zo Zi Zi).trans h3;have v5:=(HK 1 5 0 Zo Zi Zi).trans h5;have v4:=(HK 1 4 0 Zo Zi Zi).trans h4))|fail)
   exact⟨l.length - (j+1),Zo,j+1,Zo,Zo,Zm,Zm,Zm,Zm,Zm,Zm,by rw[HT.out];exact hcs,HK⟩
 have e1: ¬(j:Int)<l.length:=Zo
 have hz:l.take j=l:=List.take_of_length_le Zo
 rw[hz] at hcs
 repeat' (first|refine ZN ?_|refine Z2 ?_ ?_|(intro h h';try simp[*,-h] at h'))
 exact⟨rfl,hcs,HK⟩
theorem sts_n {o n:List (Tx×Th)}{vs:List Tx}{ar:List (Tx×Int)}{fs:List Fu}{i ga gb gc gd ge:Nat}{g3 g5 g4:Nat}: ∀N,N<=1048576-> ∀l:List Sy.St,stSize l<=N-> ∀{d k0:Nat} {hp1:Hp} {s:Bool×Bool},CS o n vs ar fs i ga gb gc gd ge s hp1->hp1 ⟨1,3,0⟩= .box g3 [.fn 169 [.ptr ⟨0,11,0⟩ ga 0,.ptr ⟨0,5,0⟩ gb 0,.ptr ⟨0,7,0⟩ gd 0,.ptr ⟨0,1,0⟩ ge 0,.ptr ⟨0,6,0⟩ gc 0]] false->hp1 ⟨1,5,0⟩= .box g5 [.fn 244 [.ptr ⟨1,3,0⟩ g3 0,.ptr ⟨1,5,0⟩ g5 0]] false->hp1 ⟨1,4,0⟩= .box g4 [.fn 245 [.ptr ⟨1,3,0⟩ g3 0,.ptr ⟨1,5,0⟩ g5 0,.ptr ⟨1,4,0⟩ g4 0]] false->HB P0 E47 (Lm X47) (k0+1) d 245 [.sl false 5 (stRows l),.ptr ⟨1,3,0⟩ g3 0,.ptr ⟨1,5,0⟩ g5 0,.ptr ⟨1,4,0⟩ g4 0] hp1 (fun v hp2=>v= .tup []/\CS o n vs ar fs i ga gb gc gd ge (useAll fs (findT n o) i (useSs l) s) hp2/\Keep2 (k0+1) hp1 hp2) (fun _ _=>False)
 |0,h,l,hl,_,_,_,_,hc,h3,h5,h4=>sts_s 0 h (fun l h'=>Zo) l hl hc h3 h5 h4
 |N+1,h,l,hl,_,_,_,_,hc,h3,h5,h4=>sts_s (N+1) h (fun l h' _ _ _ _ hc h3 h5 h4=>sts_n N Zo l Zo hc h3 h5 h4) l hl hc h3 h5 h4
theorem sts_w {o n:List (Tx×Th)}{vs:List Tx}{ar:List (Tx×Int)}{fs:List Fu}{i ga gb gc gd ge:Nat}{g3 g5 g4:Nat}(l:List Sy.St)(hl:stSize l<=1048576){d k0:Nat}{hp1:Hp}{s:Bool×Bool}(hc:CS o n vs ar fs i ga gb gc gd ge s hp1)(h3:hp1 ⟨1,3,0⟩= .box g3 [.fn 169 [.ptr ⟨0,11,0⟩ ga 0,.ptr ⟨0,5,0⟩ gb 0,.ptr ⟨0,7,0⟩ gd 0,.ptr ⟨0,1,0⟩ ge 0,.ptr ⟨0,6,0⟩ gc 0]] false)(h5:hp1 ⟨1,5,0⟩= .box g5 [.fn 244 [.ptr ⟨1,3,0⟩ g3 0,.ptr ⟨1,5,0⟩ g5 0]] false)(h4:hp1 ⟨1,4,0⟩= .box g4 [.fn 245 [.ptr ⟨1,3,0⟩ g3 0,.ptr ⟨1,5,0⟩ g5 0,.ptr ⟨1,4,0⟩ g4 0]] false):HB P0 E47 (Lm X47) (k0+1) d 245 [.sl false 5 (stRows l),.ptr ⟨1,3,0⟩ g3 0,.ptr ⟨1,5,0⟩ g5 0,.ptr ⟨1,4,0⟩ g4 0] hp1 (fun v hp2=>v= .tup []/\CS o n vs ar fs i ga gb gc gd ge (useAll fs (findT n o) i (useSs l) s) hp2/\Keep2 (k0+1) hp1 hp2) (fun _ _=>False):=sts_n 1048576 (Nat.le_refl _) l hl hc h3 h5 h4
theorem visit_w {d:Nat}{hp1:Hp}{o n:List (Tx×Th)}{vs:List Tx}{ar:List (Tx×Int)}{fs:List Fu}{i ga gb gc gd ge:Nat}{s:Bool×Bool}(nm:Tx)(ps ls:List Tx)(w:Bool)(b:List Sy.St)(hb:stSize b<=1048576)(hc:CS o n vs ar fs i ga gb gc gd ge s hp1):HB P0 E47 (Lm X47) 0 d 168 [.agg [tz nm.val,.sl false 1 (txRows ps),.sl false 1 (txRows ls),bz w,.sl false 5 (stRows b)],.fn 169 [.ptr ⟨0,11,0⟩ ga 0,.ptr ⟨0,5,0⟩ gb 0,.ptr ⟨0,7,0⟩ gd 0,.ptr ⟨0,1,0⟩ ge 0,.ptr ⟨0,6,0⟩ gc 0]] hp1 (fun v hp2=>v= .tup []/\CS o n vs ar fs i ga gb gc gd ge (useAll fs (findT n o) i (useSs b) s) hp2/\Keep2 0 hp1 hp2) (fun _ _=>False):=by
 refine Af (k1:=1) (PR:=fun _ _=>False) rfl Tryz.func168 (Aj Zd) rfl Aqa rfl rvs_168 ?_
 have HC:=Lib.hid hc
 obtain⟨bn,b5,b6,b7,b1,_,_,_⟩:=hc
 repeat' (first|refine ZN ?_|refine Z2 ?_ ?_|(intro h h';try simp[*,-h] at h')|((with_reducible apply Ap (f:=245));exact Zv;(apply sts_w (k0:=0) b hb);(focus (refine CS.congr HC.out ?_;intro i c;simp));exact Zc;exact Zc;exact Zc;(rintro _ hp2 ⟨rfl,hcn,hk2⟩))|fail)
 exact⟨rfl,hcn,fun d i c hd n1 n2=>(hk2 d i c Zo n1 n2).trans (by have hd2:d≠1:=Zo;simp[*])⟩
theorem Eza (p:Sy.Pr)(f:Fu): ∀x,(findT (inM f).1 (outM p).1 x).1=4->0<=(findT (inM f).1 (outM p).1 x).2:=by
 intro x h
 unfold findT at h⊢
 cases h1:Sy.look (inM f).1 x with
 |some t=>
  rw[h1] at h
  simp only[Option.getD_some] at h⊢
  have hm:=Ej h1
  rcases J9 hm with h2|h2
  ·cases h2
  ·unfold inL at h2
   rcases List.mem_append.1 h2 with h2|h2
   ·obtain⟨i,a,_,h3⟩:=Cv h2
    cases h3
    simp at h
   ·obtain⟨i,a,_,h3⟩:=Cv h2
    cases h3
    simp at h
 |none=>
  rw[h1] at h
  simp only[Option.getD_none] at h⊢
  cases h1:Sy.look (outM p).1 x with
  |none=>rw[h1] at h;simp at h
  |some t=>
   rw[h1] at h
   simp only[Option.getD_some] at h⊢
   have hm:=Ej h1
   rcases J9 hm with h2|h2
   ·cases h2
   ·unfold outL at h2
    rcases List.mem_append.1 h2 with h2|h2
    ·rcases List.mem_append.1 h2 with h2|h2
     ·obtain⟨i,a,_,h3⟩:=Cv h2
      cases h3
      simp at h
     ·obtain⟨i,a,_,h3⟩:=Cv h2
      cases h3
      simp at h
    ·obtain⟨i,a,_,h3⟩:=Cv h2
     cases h3
     simp
theorem Mn (p:Sy.Pr)(f:Fu): ∀(l:List Fu) (n:Nat) (s:Bool×Bool),fnsStep p n (l++[f]) s=fnStep p (n+l.length) f (fnsStep p n l s)
 |[],n,s=>rfl
 |g::l,n,s=>by
  show fnsStep p (n+1) (l++[f]) _=_
  rw[Mn p f l (n+1),List.length_cons,show n+1+l.length=n+(l.length+1) from Zo]
  rfl
theorem Sn {p:Sy.Pr}{l:List Fu}{i:Nat}{f:Fu}(h:l[i]?=some f)(s:Bool×Bool):fnsStep p 0 (l.take (i+1)) s=fnStep p i f (fnsStep p 0 (l.take i) s):=by
 have hi:i<l.length:=(List.getElem?_eq_some_iff.1 h).1
 rw[List.take_add_one,h]
 show fnsStep p 0 (l.take i++[f]) s=_
 rw[Mn]
 simp only[List.length_take,Nat.min_eq_left (Nat.le_of_lt hi),Nat.zero_add]
theorem Ry (vs:List Tx)(ar:List (Tx×Int))(fs:List Fu)(h1:1≤fs.length)(hs:vs.length+ar.length+fuSize fs≤1048576):(Lm X47).dat 117 [.agg [.sl false 1 (txRows vs),.sl false 2 (arRows ar),.sl false 5 (fs.map Fu.row)]]=some [iv (scopeS ⟨vs,ar,fs⟩)]:=by
 refine fnW (P:=P0) (E:=E47) (X:=X47) Tryz.func117 (An _ _) rfl Bfa rfl Jta rvs_117 ?_
 have hgl:=Eva vs ar fs hs
 have hfl:=Bn fs
 obtain⟨o,u0,hou⟩: ∃o u,outM ⟨vs,ar,fs⟩=(o,u):=⟨_,_,rfl⟩
 rw[hou] at hgl
 obtain⟨ob,ok,or_,ho⟩: ∃b k r,mpD thR o= .dmp b k r:=⟨_,_,_,rfl⟩
 simp only at hgl
 rw[ho] at hgl
 repeat' (first|refine ZN ?_|refine Z2 ?_ ?_|(intro h h';try simp[*,-h] at h'))
 refine Ag (n:=fs.length) (fun s0 m z=> ∃i:Nat,fs.length - i≤m∧i≤fs.length∧z.fr 1= .ptr ⟨0,1,0⟩ 1 0∧z.fr 3= .dmp ob ok or_∧z.fr 5= .ptr ⟨0,5,0⟩ 1 0∧z.fr 6= .ptr ⟨0,6,0⟩ 1 0∧z.fr 20= .sl false 5 (fs.map Fu.row)∧z.fr 21=iv fs.length∧z.fr 22=iv i∧z.hp ⟨0,1,0⟩= .box 1 [.sl false 1 (txRows vs),.sl false 2 (arRows ar),.sl false 5 (fs.map Fu.row)] false∧z.hp ⟨0,5,0⟩= .box 1 [bz (fnsStep ⟨vs,ar,fs⟩ 0 (fs.take i) (u0,true)).1] false∧z.hp ⟨0,6,0⟩= .box 1 [bz (fnsStep ⟨vs,ar,fs⟩ 0 (fs.take i) (u0,true)).2] false) ⟨0,Zo,Zo,Zi,Zi,Zi,Zi,Zi,Zi,Zi,Zi,by simp[fnsStep],by simp[fnsStep]⟩ ?_
 rintro m ⟨fr,hp⟩ ⟨i,hm,hi,f1,f3,f5,f6,f20,f21,f22,b1,b5,b6⟩
 simp only at f1 f3 f5 f6 f20 f21 f22 b1 b5 b6
 by_cases hlt:i<fs.length
 ·have e1:(i:Int)<fs.length:=Zo
  have hg:fs[i]?=some fs[i]:=List.getElem?_eq_getElem hlt
  have hwi:IntKind.i64.wrap ((i:Int)+1)=(i:Int)+1:=wrapN Zo
  generalize fs[i]=t at*
  have hgt:=Fa hg
  have hst:=C8 hg
  have hnt:=Sn (p:=⟨vs,ar,fs⟩) hg (u0,true)
  have hF:=Eza ⟨vs,ar,fs⟩ t
  rw[hou] at hF
  unfold fnStep at hnt
  rw[hou] at hnt
  obtain⟨t1,t2,t3,t4,t5⟩:=t
  simp only[A3] at hgt
  simp only[Bp] at hst
  have hlo:=K5a t1 t2 t3 t4 t5 Zo
  have hbs:stSize t5≤1048576:=Zo
  obtain⟨n,u1,hnu⟩: ∃n u,inM ⟨t1,t2,t3,t4,t5⟩=(n,u):=⟨_,_,rfl⟩
  rw[hnu] at hlo hF hnt
  obtain⟨nb,nk,nr,hn⟩: ∃b k r,mpD thR n= .dmp b k r:=⟨_,_,_,rfl⟩
  simp only at hlo hF hnt
  rw[hn] at hlo
  generalize fnsStep ⟨vs,ar,fs⟩ 0 (fs.take i) (u0,true)=S at*
  obtain⟨S1,S2⟩:=S
  simp only at b5 b6 hnt
  have HN:=Lib.hid hnt
  have HF:=Lib.hid hF
  have HE:=Lib.hid e1
  clear hg hlt hnt hF hgl
  cases S1<;>cases u1
  all_goals have hF:=HF.out
  all_goals have HF:=Lib.hid hF
  repeat' (first|refine ZN ?_|refine Z2 ?_ ?_|(intro h h';try simp[*,-h] at h')|((with_reducible apply Ap (f:=168));exact Zv;(apply visit_w t1 t2 t3 t4 t5 hbs);(focus (first|((refine CS.mk (o:=o) (n:=n) (s:=(false,S2)) ?_ ?_ ?_ ?_ ?_ hF hi hs)<;>(simp[*];done))|((refine CS.mk (o:=o) (n:=n) (s:=(true,S2)) ?_ ?_ ?_ ?_ ?_ hF hi hs)<;>(simp[*];done))));(rintro _ hp2 ⟨rfl,hcn,hk2⟩))|fail)
  all_goals have hnt:=HN.out
  all_goals refine⟨fs.length - (i+1),Zo,i+1,Zo,Zo,Zm,Zm,Zm,Zm,Zm,Zm,Zm,?_,?_,?_⟩
  all_goals first
   |(rw[hnt];simp;exact hcn.b5)
   |(rw[hnt];simp;exact hcn.b6)
   |(simp;exact hcn.b1)
 have e1: ¬(i:Int)<fs.length:=Zo
 have hz:fs.take i=fs:=List.take_of_length_le Zo
 rw[hz] at b5 b6
 have hsc:scopeS ⟨vs,ar,fs⟩=if (fnsStep ⟨vs,ar,fs⟩ 0 fs (u0,true)).1=false then 4 else if (fnsStep ⟨vs,ar,fs⟩ 0 fs (u0,true)).2=false∨(match fs.getLast? with|some f=>Oh f|none=>false)=false then 1 else 0:=by
  unfold scopeS
  rw[hou]
  rfl
 rw[hsc]
 generalize fnsStep ⟨vs,ar,fs⟩ 0 fs (u0,true)=S at*
 obtain⟨S1,S2⟩:=S
 simp only at b5 b6
 have hlt:fs.length - 1<fs.length:=Zo
 have hg:fs[fs.length - 1]?=some fs[fs.length - 1]:=List.getElem?_eq_getElem hlt
 rw[List.getLast?_eq_getElem?]
 generalize fs[fs.length - 1]=t at*
 rw[hg]
 have hgt:=Fa hg
 obtain⟨t1,t2,t3,t4,t5⟩:=t
 simp only[A3] at hgt
 obtain⟨q,hq⟩: ∃q:Nat,fs.length=q+1:=⟨fs.length - 1,Zo⟩
 rw[hq] at hgt
 simp only[Nat.add_sub_cancel] at hgt
 have hw2:IntKind.i64.wrap ((fs.length:Int) - 1)=q:=by rw[Ad Zo Zo];omega
 have e3:(q:Int)<fs.length:=Zo
 have hmn:decide (t1.val=(⟨#[109,97,105,110]⟩:ByteArray))=decide (t1.val= "main".toUTF8):=by
  rw[show "main".toUTF8=(⟨#[109,97,105,110]⟩:ByteArray) from by decide+kernel]
 clear hg hlt hgl hz hsc hq
 cases S1<;>cases S2<;>cases t4
 repeat' (first|refine ZN ?_|refine Z2 ?_ ?_|(intro h h';try simp[*,-h] at h'))
 all_goals first
  |rfl
  |(simp[Oh];done)
  |(simp only[Oh,←hmn];simp_all;done)
  |(cases t2<;>simp_all[Oh];done)
end
section
open Go Go.Ab Go.Ab.Sy
def EndI (P:Program)(rvs:List ResultVar)(R:AV->Hp->Prop)(e:Ab.Ex)(st:AS):Prop:=e.fine=true/\ ∃v hp',(inlRes P st.fr rvs).run st.hp=some (v,hp')/\R v hp'
theorem Wl {P:Program}{rvs:List ResultVar}{R:AV->Hp->Prop}{st:AS}{v:AV}{hp':Hp}(h:(inlRes P st.fr rvs).run st.hp=some (v,hp'))(r:R v hp'):EndI P rvs R .ret st:=⟨rfl,v,hp',h,r⟩
attribute [simp] inlRes inlAll
def asks (g gm:Nat):List AV:=[.mp ⟨0,10010,0⟩ gm,.sc .nilFunc,.fn 246 [],.fn 246 [],.fn (248+1000000) [.ptr ⟨0,10012,0⟩ g 0],.fn (249+1000000) [.ptr ⟨0,10012,0⟩ g 0],.fn 246 [],.fn (250+1000000) [.ptr ⟨0,10012,0⟩ g 0],.fn (247+1000000) [.ptr ⟨0,10012,0⟩ g 0],.fn (247+1000000) [.ptr ⟨0,10012,0⟩ g 0],.fn (247+1000000) [.ptr ⟨0,10012,0⟩ g 0]]
theorem Dxa (vs:List Tx)(ar:List (Tx×Int))(fs:List Fu)(hs:fuSize fs<=1048576)(hp1:Hp): ∃v hp2,(Lm X47).hpc 0 9 171 [.agg [.sl false 1 (txRows vs),.sl false 2 (arRows ar),.sl false 5 (fs.map Fu.row)]] hp1=some (v,hp2)/\ ∃g gm,v= .ptr ⟨0,10012,0⟩ g 0/\hp2 ⟨0,10012,0⟩= .box g (asks g gm) false/\hp2 ⟨0,10010,0⟩=mpO Fu.row gm (funM fs)/\ ∀d i c,i<10000->hp2 ⟨d,i,c⟩=hp1 ⟨d,i,c⟩:=by
 refine K7a (P:=P0) (E:=E47) (X:=X47) (d:=9) (rvs:=[.tmp 2]) (R:=fun v hp2=> ∃g gm,v= .ptr ⟨0,10012,0⟩ g 0/\hp2 ⟨0,10012,0⟩= .box g (asks g gm) false/\hp2 ⟨0,10010,0⟩=mpO Fu.row gm (funM fs)/\ ∀d i c,i<10000->hp2 ⟨d,i,c⟩=hp1 ⟨d,i,c⟩) Tryz.func171 (Aj Zd) rfl Ana rfl rfl ?_
 change W P0 (E47.at 10000) 0 _ _ _ (EndI P0 [.tmp 2] _)
 have hfl:=Bn fs
 repeat' (first|refine ZN ?_|refine Z2 ?_ ?_|(intro h h';try simp[*,-h] at h')|((with_reducible apply Wl);exact Zc)|fail)
 generalize hgm:(hp1 ⟨0,10010,0⟩).gen+1=gm at*
 generalize hgx:(hp1 ⟨0,10012,0⟩).gen+1=g at*
 clear hgm hgx
 refine Ag (n:=fs.length) (fun s0 m z=> ∃i:Nat,fs.length - i<=m/\i<=fs.length/\z.fr 3= .ptr ⟨0,10012,0⟩ g 0/\z.fr 14= .sl false 5 (fs.map Fu.row)/\z.fr 15=iv fs.length/\z.fr 16=iv i/\z.hp ⟨0,10012,0⟩= .box g [.mp ⟨0,10010,0⟩ gm,.sc .nilFunc,.sc .nilFunc,.sc .nilFunc,.sc .nilFunc,.sc .nilFunc,.sc .nilFunc,.sc .nilFunc,.sc .nilFunc,.sc .nilFunc,.sc .nilFunc] false/\z.hp ⟨0,10010,0⟩=mpO Fu.row gm (addAll ((fs.take i).map fun f=>(f.name,f)) ([],true)).1/\ ∀d i c,i<10000->z.hp ⟨d,i,c⟩=hp1 ⟨d,i,c⟩) ⟨0,Zo,Zo,Zi,Zi,Zi,Zi,Zi,by simp[addAll];rfl,fun d i c hi=>by have h1:i≠10001:=Zo;have h2:i≠10010:=Zo;have h3:i≠10012:=Zo;simp[h1,h2,h3]⟩ ?_
 rintro m ⟨fr,hp⟩ ⟨i,hm,hi,f3,f14,f15,f16,bx,hq,HK⟩
 simp only at f3 f14 f15 f16 bx hq HK
 have HK:=Lib.hid HK
 by_cases hlt:i<fs.length
 ·have e1:(i:Int)<fs.length:=Zo
  have hg:fs[i]?=some fs[i]:=List.getElem?_eq_getElem hlt
  have hwi:IntKind.i64.wrap ((i:Int)+1)=(i:Int)+1:=wrapN Zo
  generalize fs[i]=t at*
  have hgt:=Fa hg
  have hnt:addAll ((fs.take (i+1)).map fun f=>(f.name,f)) ([],true)=addM (addAll ((fs.take i).map fun f=>(f.name,f)) ([],true)) (t.name,t):=by
   rw[List.take_add_one,hg]
   simp[addAll]
  generalize addAll ((fs.take i).map fun f=>(f.name,f)) ([],true)=S at*
  obtain⟨ms,us⟩:=S
  simp only at hq
  obtain⟨t1,t2,t3,t4,t5⟩:=t
  simp only[A3] at hgt
  have hmk:=Bm ms
  have HN:=Lib.hid hnt
  clear hg hlt hnt
  cases hl:Sy.look ms t1 with
  |some t=>
   obtain⟨j,k1,k2,_⟩:=Cr (r:=Fu.row) hl 0
   have k3:=Ew hl
   obtain⟨r1,r2,r3,r4,r5⟩:=t
   simp only[A3,Nat.zero_add] at k1 k2
   have hq0:=Lib.hid hq
   unfold mpO at hq
   rw[k3] at hq
   generalize mKeys ms=ks at*
   generalize mRows Fu.row ms=rs at*
   clear hmk k3
   repeat' (first|refine ZN ?_|refine Z2 ?_ ?_|(intro h h';try simp[*,-h] at h'))
   have HK:=HK.out
   have hq:=hq0.out
   have hnt:=HN.out
   rw[Ly hl] at hnt
   exact⟨fs.length - (i+1),Zo,i+1,Zo,Zo,Zm,Zm,Zm,Zm,Zm,by rw[hnt];simpa using hq,fun d i c hi=>by have h1:i≠10005:=Zo;have h2:i≠10006:=Zo;simp[h1,h2,HK,hi]⟩
  |none=>
   have k1:=Bh hl 0
   have hnt:=HN.out
   rw[Lz hl] at hnt
   have hsn:=Df Fu.row gm ms (t1,⟨t1,t2,t3,t4,t5⟩)
   have HN:=Lib.hid hnt
   clear hnt
   unfold mpO at hq
   generalize mKeys ms=ks at*
   generalize mRows Fu.row ms=rs at*
   generalize (!ms.isEmpty)=ag at*
   have HS:=Lib.hid hsn
   clear hsn
   repeat' (first|refine ZN ?_|refine Z2 ?_ ?_|(intro h h';try simp[*,-h] at h'))
   have HK:=HK.out
   have hnt:=HN.out
   have hsn:=HS.out
   exact⟨fs.length - (i+1),Zo,i+1,Zo,Zo,Zm,Zm,Zm,Zm,Zm,by rw[hnt,hsn];simp,fun d i c hi=>by have h1:i≠10005:=Zo;have h2:i≠10006:=Zo;have h3:i≠10010:=Zo;simp[h1,h2,h3,HK,hi]⟩
 have e1: ¬(i:Int)<fs.length:=Zo
 have hz:fs.take i=fs:=List.take_of_length_le Zo
 rw[hz] at hq
 clear hz
 repeat' (first|refine ZN ?_|refine Z2 ?_ ?_|(intro h h';try simp[*,-h] at h')|((with_reducible apply Wl);exact Zc)|fail)
 have HK:=HK.out
 exact⟨g,gm,rfl,by simp[asks, *],by simpa[funM] using hq,fun d i c hi=>by have h3:i≠10012:=Zo;simp[h3,HK,hi]⟩
end
section
open Go Go.Ab Go.Ab.Sy
@[simp] theorem lk_0 {k i j c c':Nat}:((⟨0,i,c⟩:Nm)=⟨k+1,j,c'⟩)=False:=Zi
def TC (g gm:Nat)(ag:Bool)(ks:List Value)(rs:List (List AV))(k f:Nat)(args:List AV)(val:AV):Prop:= ∃G:Nat->Hp->Hp,∀d hp,hp ⟨0,10012,0⟩= .box g [.mp ⟨0,10010,0⟩ gm,.sc .nilFunc,.fn 246 [],.fn 246 [],.fn 1000248 [.ptr ⟨0,10012,0⟩ g 0],.fn 1000249 [.ptr ⟨0,10012,0⟩ g 0],.fn 246 [],.fn 1000250 [.ptr ⟨0,10012,0⟩ g 0],.fn 1000247 [.ptr ⟨0,10012,0⟩ g 0],.fn 1000247 [.ptr ⟨0,10012,0⟩ g 0],.fn 1000247 [.ptr ⟨0,10012,0⟩ g 0]] false->hp ⟨0,10010,0⟩= .map gm ag ks rs false->
 (Lm X47).hpc k d f args hp=some (val,G d hp)/\ ∀d' i c,d'<=k->G d hp ⟨d',i,c⟩=hp ⟨d',i,c⟩
theorem TC.of {g gm:Nat}{ag:Bool}{ks:List Value}{rs:List (List AV)}{k f:Nat}{args:List AV}{val:AV}(h: ∀d hp,hp ⟨0,10012,0⟩= .box g [.mp ⟨0,10010,0⟩ gm,.sc .nilFunc,.fn 246 [],.fn 246 [],.fn 1000248 [.ptr ⟨0,10012,0⟩ g 0],.fn 1000249 [.ptr ⟨0,10012,0⟩ g 0],.fn 246 [],.fn 1000250 [.ptr ⟨0,10012,0⟩ g 0],.fn 1000247 [.ptr ⟨0,10012,0⟩ g 0],.fn 1000247 [.ptr ⟨0,10012,0⟩ g 0],.fn 1000247 [.ptr ⟨0,10012,0⟩ g 0]] false->hp ⟨0,10010,0⟩= .map gm ag ks rs false->
  HB P0 E47 (Lm X47) k d f args hp (fun v hp2=>v=val/\ ∀d' i c,d'<=k->hp2 ⟨d',i,c⟩=hp ⟨d',i,c⟩) (fun _ _=>False)):TC g gm ag ks rs k f args val:=by
 have h': ∀d hp,∃hp2,hp ⟨0,10012,0⟩= .box g [.mp ⟨0,10010,0⟩ gm,.sc .nilFunc,.fn 246 [],.fn 246 [],.fn 1000248 [.ptr ⟨0,10012,0⟩ g 0],.fn 1000249 [.ptr ⟨0,10012,0⟩ g 0],.fn 246 [],.fn 1000250 [.ptr ⟨0,10012,0⟩ g 0],.fn 1000247 [.ptr ⟨0,10012,0⟩ g 0],.fn 1000247 [.ptr ⟨0,10012,0⟩ g 0],.fn 1000247 [.ptr ⟨0,10012,0⟩ g 0]] false->hp ⟨0,10010,0⟩= .map gm ag ks rs false->(Lm X47).hpc k d f args hp=some (val,hp2)/\ ∀d' i c,d'<=k->hp2 ⟨d',i,c⟩=hp ⟨d',i,c⟩:=by
  intro d hp
  by_cases h1:hp ⟨0,10012,0⟩= .box g [.mp ⟨0,10010,0⟩ gm,.sc .nilFunc,.fn 246 [],.fn 246 [],.fn 1000248 [.ptr ⟨0,10012,0⟩ g 0],.fn 1000249 [.ptr ⟨0,10012,0⟩ g 0],.fn 246 [],.fn 1000250 [.ptr ⟨0,10012,0⟩ g 0],.fn 1000247 [.ptr ⟨0,10012,0⟩ g 0],.fn 1000247 [.ptr ⟨0,10012,0⟩ g 0],.fn 1000247 [.ptr ⟨0,10012,0⟩ g 0]] false/\hp ⟨0,10010,0⟩= .map gm ag ks rs false
  ·rcases h d hp h1.1 h1.2 with⟨v,hp2,h2,rfl,h3⟩|⟨_,_,_,_,h2⟩
   ·exact⟨hp2,fun _ _=>⟨h2,h3⟩⟩
   ·exact h2.elim
  ·exact⟨hp,fun x y=>(h1 ⟨x,y⟩).elim⟩
 exact⟨fun d hp=>Classical.choose (h' d hp),fun d hp=>Classical.choose_spec (h' d hp)⟩
theorem TC.rules {g gm:Nat}{ag:Bool}{ks:List Value}{rs:List (List AV)}{k f:Nat}{args:List AV}{val:AV}(h:TC g gm ag ks rs k f args val): ∃G:Nat->Hp->Hp,(∀(d:Nat) (hp:Hp),hp ⟨0,10012,0⟩= .box g [.mp ⟨0,10010,0⟩ gm,.sc .nilFunc,.fn 246 [],.fn 246 [],.fn 1000248 [.ptr ⟨0,10012,0⟩ g 0],.fn 1000249 [.ptr ⟨0,10012,0⟩ g 0],.fn 246 [],.fn 1000250 [.ptr ⟨0,10012,0⟩ g 0],.fn 1000247 [.ptr ⟨0,10012,0⟩ g 0],.fn 1000247 [.ptr ⟨0,10012,0⟩ g 0],.fn 1000247 [.ptr ⟨0,10012,0⟩ g 0]] false->hp ⟨0,10010,0⟩= .map gm ag ks rs false->(Lm X47).hpc k d f args hp=some (val,G d hp))/\
  (∀(d:Nat) (hp:Hp),hp ⟨0,10012,0⟩= .box g [.mp ⟨0,10010,0⟩ gm,.sc .nilFunc,.fn 246 [],.fn 246 [],.fn 1000248 [.ptr ⟨0,10012,0⟩ g 0],.fn 1000249 [.ptr ⟨0,10012,0⟩ g 0],.fn 246 [],.fn 1000250 [.ptr ⟨0,10012,0⟩ g 0],.fn 1000247 [.ptr ⟨0,10012,0⟩ g 0],.fn 1000247 [.ptr ⟨0,10012,0⟩ g 0],.fn 1000247 [.ptr ⟨0,10012,0⟩ g 0]] false->hp ⟨0,10010,0⟩= .map gm ag ks rs false-> ∀(d' i c:Nat),d'<=k->G d hp ⟨d',i,c⟩=hp ⟨d',i,c⟩):=by
 obtain⟨G,hG⟩:=h
 exact⟨G,fun d hp x y=>(hG d hp x y).1,fun d hp x y=>(hG d hp x y).2⟩
structure TM (m:List (Tx×Fu))(ag:Bool)(ks:List Value)(rs:List (List AV)):Prop where
 a:ag= !m.isEmpty
 k:ks=mKeys m
 r:rs=mRows Fu.row m
theorem TM.some {m:List (Tx×Fu)}{ag:Bool}{ks:List Value}{rs:List (List AV)}(h:TM m ag ks rs){s:Tx}{t:Fu}(hl:Sy.look m s=Option.some t): ∃j,findK (.string s.val) ks 0=Option.some (Option.some j)/\rs[j]?=Option.some t.row/\ag=true:=by
 obtain⟨rfl,rfl,rfl⟩:=h
 obtain⟨j,h1,h2,_⟩:=Cr (r:=Fu.row) hl 0
 exact⟨j,by simpa using h1,h2,Ew hl⟩
theorem TM.none {m:List (Tx×Fu)}{ag:Bool}{ks:List Value}{rs:List (List AV)}(h:TM m ag ks rs){s:Tx}(hl:Sy.look m s=Option.none):findK (.string s.val) ks 0=Option.some Option.none:=by
 obtain⟨rfl,rfl,rfl⟩:=h
 exact Bh hl 0
theorem Bya {m:List (Tx×Fu)}{g gm:Nat}{ag:Bool}{ks:List Value}{rs:List (List AV)}(N:Nat)(hN:N<=1048576)(ih: ∀e:Sy.Ex,e.size<=N-> ∀k,TC g gm ag ks rs k 293 [.ptr ⟨0,10012,0⟩ g 0,.agg e.row] (iv (tyE m e)))(l:List Sy.Ex)(hl:exSize l<=N)(t:Int)(k:Nat):TC g gm ag ks rs k 252 [.ptr ⟨0,10012,0⟩ g 0,.sl false 5 (exRows l),iv t] (bv (tyAll m l t)):=by
 refine TC.of fun d hp1 b1 m1=>?_
 refine Af (k1:=k+1) (PR:=fun _ _=>False) rfl Tryz.func252 (Aj Zd) rfl Yp rfl rvs_252 ?_
 have hlen:l.length<=1048576:=by have:=Bv l;omega
 repeat' (first|refine ZN ?_|refine Z2 ?_ ?_|(intro h h';try simp[*,-h] at h'))
 refine Ag (n:=l.length) (fun s0 m' z=> ∃j:Nat,l.length - j<=m'/\j<=l.length/\z.fr 0= .ptr ⟨0,10012,0⟩ g 0/\z.fr 2=iv t/\z.fr 9= .sl false 5 (exRows l)/\z.fr 10=iv l.length/\z.fr 11=iv j/\z.hp ⟨0,10012,0⟩= .box g [.mp ⟨0,10010,0⟩ gm,.sc .nilFunc,.fn 246 [],.fn 246 [],.fn 1000248 [.ptr ⟨0,10012,0⟩ g 0],.fn 1000249 [.ptr ⟨0,10012,0⟩ g 0],.fn 246 [],.fn 1000250 [.ptr ⟨0,10012,0⟩ g 0],.fn 1000247 [.ptr ⟨0,10012,0⟩ g 0],.fn 1000247 [.ptr ⟨0,10012,0⟩ g 0],.fn 1000247 [.ptr ⟨0,10012,0⟩ g 0]] false/\z.hp ⟨0,10010,0⟩= .map gm ag ks rs false/\(∀d' i c,d'<=k->z.hp ⟨d',i,c⟩=hp1 ⟨d',i,c⟩)/\tyAll m l t=tyAll m (l.drop j) t) ⟨0,Zo,Zo,Zi,Zi,Zi,Zi,Zi,by simpa using b1,by simpa using m1,fun _ _ _ _=>rfl,Zi⟩ ?_
 rintro m' ⟨fr,hp⟩ ⟨j,hm,hj,f0,f2,f9,f10,f11,b2,m2,HK,hd⟩
 simp only at f0 f2 f9 f10 f11 b2 m2 HK
 by_cases hlt:j<l.length
 ·have e1:(j:Int)<l.length:=Zo
  have hg:l[j]?=some l[j]:=List.getElem?_eq_getElem hlt
  have hwi:IntKind.i64.wrap ((j:Int)+1)=(j:Int)+1:=wrapN Zo
  rw[List.drop_eq_getElem_cons hlt] at hd
  generalize l[j]=e at*
  have hgt:=Hc hg
  have hst:=B6 hg
  have tcE:=ih e Zo (k+1)
  rw[No] at hd
  generalize tyE m e=te at*
  obtain⟨ek,eo,en,ex,ekids⟩:=e
  simp only[Az] at hgt tcE
  obtain⟨G1,a1,c1⟩:=tcE.rules
  have HD:=Lib.hid hd
  have HK:=Lib.hid HK
  clear hg hlt hd b1 m1
  repeat' (first|refine ZN ?_|refine Z2 ?_ ?_|(intro h h';try simp[*,-h] at h'))
  all_goals have hd:=HD.out
  all_goals have HK:=HK.out
  ·exact⟨by rw[hd];simp[*],fun d' i c hd=>by have hd2:d'≠k+1:=Zo;have hd3:d'<=k+1:=Zo;simp[*]⟩
  ·exact⟨l.length - (j+1),Zo,j+1,Zo,Zo,Zm,Zm,Zm,Zm,Zm,Zm,Zm,fun d' i c hd=>by have hd2:d'≠k+1:=Zo;have hd3:d'<=k+1:=Zo;simp[*],by rw[hd];simp[*]⟩
 ·have e1: ¬(j:Int)<l.length:=Zo
  have hd2:tyAll m l t=true:=by rw[hd,List.drop_eq_nil_of_le Zo];simp
  clear hd
  repeat' (first|refine ZN ?_|refine Z2 ?_ ?_|(intro h h';try simp[*,-h] at h'))
  exact⟨by rw[hd2],HK⟩
theorem Dha {m:List (Tx×Fu)}{g gm:Nat}{ag:Bool}{ks:List Value}{rs:List (List AV)}(ek eo en:Int)(ex:Tx)(l:List Sy.Ex)(ih: ∀k,TC g gm ag ks rs k 252 [.ptr ⟨0,10012,0⟩ g 0,.sl false 5 (exRows l),iv 1] (bv (tyAll m l 1)))(k:Nat):TC g gm ag ks rs k 248 [.ptr ⟨0,10012,0⟩ g 0,.agg [iz ek,iz eo,uz en,tz ex.val,.sl false 5 (exRows l)]] (iv (if tyAll m l 1 then 1 else 0)):=by
 refine TC.of fun d hp1 b1 m1=>?_
 refine Af (k1:=k+1) (PR:=fun _ _=>False) rfl Tryz.func248 (Aj Zd) rfl Yt rfl rvs_248 ?_
 have tcA:=ih (k+1)
 obtain⟨G1,a1,c1⟩:=tcA.rules
 clear ih
 generalize tyAll m l 1=ta at*
 repeat' (first|refine ZN ?_|refine Z2 ?_ ?_|(intro h h';try simp[*,-h] at h'))
 all_goals refine⟨?_,fun d' i c hd=>by have hd2:d'≠k+1:=Zo;have hd3:d'<=k+1:=Zo;simp[*]⟩
 all_goals (first|(simp[*];done)|(simp_all;done))
theorem Nn {m:List (Tx×Fu)}{g gm:Nat}{ag:Bool}{ks:List Value}{rs:List (List AV)}(ek eo en:Int)(ex:Tx)(l:List Sy.Ex)(ih: ∀k,TC g gm ag ks rs k 252 [.ptr ⟨0,10012,0⟩ g 0,.sl false 5 (exRows l),iv 2] (bv (tyAll m l 2)))(k:Nat):TC g gm ag ks rs k 247 [.ptr ⟨0,10012,0⟩ g 0,.agg [iz ek,iz eo,uz en,tz ex.val,.sl false 5 (exRows l)]] (iv (if tyAll m l 2 then 2 else 0)):=by
 refine TC.of fun d hp1 b1 m1=>?_
 refine Af (k1:=k+1) (PR:=fun _ _=>False) rfl Tryz.func247 (Aj Zd) rfl Yu rfl rvs_247 ?_
 have tcA:=ih (k+1)
 obtain⟨G1,a1,c1⟩:=tcA.rules
 clear ih
 generalize tyAll m l 2=ta at*
 repeat' (first|refine ZN ?_|refine Z2 ?_ ?_|(intro h h';try simp[*,-h] at h'))
 all_goals refine⟨?_,fun d' i c hd=>by have hd2:d'≠k+1:=Zo;have hd3:d'<=k+1:=Zo;simp[*]⟩
 all_goals (first|(simp[*];done)|(simp_all;done))
theorem tyOp_w {m:List (Tx×Fu)}{g gm:Nat}{ag:Bool}{ks:List Value}{rs:List (List AV)}(ek eo en:Int)(ex:Tx)(l:List Sy.Ex)(ih: ∀k,TC g gm ag ks rs k 252 [.ptr ⟨0,10012,0⟩ g 0,.sl false 5 (exRows l),iv 1] (bv (tyAll m l 1)))(k:Nat):TC g gm ag ks rs k 250 [.ptr ⟨0,10012,0⟩ g 0,.agg [iz ek,iz eo,uz en,tz ex.val,.sl false 5 (exRows l)]] (iv (if tyAll m l 1 then(if eo=14\/eo=15 then 2 else 1) else 0)):=by
 refine TC.of fun d hp1 b1 m1=>?_
 refine Af (k1:=k+1) (PR:=fun _ _=>False) rfl Tryz.func250 (Aj Zd) rfl Yr rfl rvs_250 ?_
 have tcA:=ih (k+1)
 obtain⟨G1,a1,c1⟩:=tcA.rules
 clear ih
 generalize tyAll m l 1=ta at*
 repeat' (first|refine ZN ?_|refine Z2 ?_ ?_|(intro h h';try simp[*,-h] at h'))
 all_goals refine⟨?_,fun d' i c hd=>by have hd2:d'≠k+1:=Zo;have hd3:d'<=k+1:=Zo;simp[*]⟩
 all_goals (first|(simp[*];done)|(simp_all;done))
end
end Go.Proofs.YtpmoibjpjlhcgaaGreatDoor
