/- A part of the proof: Oc, Od, Oe. -/
import Derived.Test.YtpedpkegmalgmaaGreatDoorZ14
import Derived.Test.YtpedpkegmalgmaaGreatDoorZ10
set_option linter.unusedSimpArgs false
set_option linter.unusedVariables false
set_option maxRecDepth 200000
set_option maxHeartbeats 8000000
namespace Go.Proofs.YtpedpkegmalgmaaGreatDoor
section
open Go Go.Ab
def RdK (m:Q.D4)(f:Nat)(a r:List AV):Prop:=(f=85∧ ∃l,a=[.agg m.row,.sl false 4 (rowG l)]∧r=[.agg (keyB m l).1.row,bv (keyB m l).2])∨(f=86∧ ∃b,r=[bv b])
noncomputable def XK (m:Q.D4):Orc:=semX Tryz.prog (RdK m) (fun _ _ _ _ _ _=>False)
theorem XK_ok (m:Q.D4):OrcOk Tryz.prog (XK m):=semX_ok _ _ _
theorem XK_no {m:Q.D4}{f:Nat}(h1:f≠85)(h2:f≠86)(a:List AV):(XK m).dat f a=none:=semX_dat_none fun r hr=>by
 rcases hr with⟨h,_⟩|⟨h,_⟩
 ·exact h1 h
 ·exact h2 h
theorem LKK_ok (m:Q.D4):OrcOk Tryz.prog (lim Tryz.prog EK (XK m)):=lim_ok mixed6 EK_law (XK_ok m)
theorem XK_reach (m:Q.D4)(l:List Q.D4):(lim Tryz.prog EK (XK m)).dat 85 [.agg m.row,.sl false 4 (rowG l)]=some [.agg (keyB m l).1.row,bv (keyB m l).2]:=by
 obtain⟨r',h1,h2⟩:=semX_dat (Rd:=RdK m) (Rh:=fun _ _ _ _ _ _=>False) (reach_s m l) (.inl ⟨rfl,l,rfl,rfl⟩)
 rcases h2 with⟨_,l',ha,rfl⟩|⟨h,_⟩
 ·have e:l'=l:=by
   simp only[List.cons.injEq,AV.sl.injEq,and_true,true_and] at ha
   exact(rowG_inj ha).symm
  subst e
  exact lim_base_dat h1
 ·cases h
theorem XK_way {m:Q.D4}{a:List AV}(h: ∃b,SemD Tryz.prog 86 a [bv b]): ∃b,(lim Tryz.prog EK (XK m)).dat 86 a=some [bv b]:=by
 obtain⟨b,hb⟩:=h
 obtain⟨r',h1,h2⟩:=semX_dat (Rd:=RdK m) (Rh:=fun _ _ _ _ _ _=>False) hb (.inr ⟨rfl,b,rfl⟩)
 rcases h2 with⟨h,_⟩|⟨_,b',rfl⟩
 ·cases h
 ·exact⟨b',lim_base_dat h1⟩
attribute [-simp] Prog.bind getCs putCs
attribute [local simp ↓] run_bind
attribute [local simp ↓] runF_bind
attribute [local simp] run_getCsN runF_getCsN runF_putCsN facetsC facetsW facetsH putCs_one run_putCsN
theorem chk_0 (pub m:Q.D4)(i:Int)(one:List Q.D4): ∃v,SemD Tryz.prog 71 [.agg pub.row,.agg m.row,.agg [iv i,.sl false 4 (rowG one),.sl false 4 []]] [bv v]:=by
 have hr:=XK_reach m one
 generalize hk:keyB m one=kb at hr
 obtain⟨key,ok⟩:=kb
 obtain⟨bw,hw⟩:=XK_way (m:=m) (wayS_0 pub key i)
 simp only at hr
 cases ok with
 |false=>
  refine⟨false,(LKK_ok m).1 _ _ _ ?_⟩
  refine fnW (P:=Tryz.prog) (E:=EK) (X:=XK m) Tryz.func71 (XK_no (by decide) (by decide) _) rfl bodyOk_71 rfl rtys_71 rvs_71 ?_
  clear hw hk
  generalize XK m=X at*
  generalize rowG one=RO at*
  obtain⟨r0,r1,r2,r3⟩:=pub
  obtain⟨f0,f1,f2,f3⟩:=m
  obtain⟨g0,g1,g2,g3⟩:=key
  simp only[Q.D4.row] at*
  repeat' (first|(refine ZN ?_)|(refine Z2 ?_ ?_)|(intro h h';try simp[*,-h] at h'))
  all_goals rfl
 |true=>
  refine⟨bw,(LKK_ok m).1 _ _ _ ?_⟩
  refine fnW (P:=Tryz.prog) (E:=EK) (X:=XK m) Tryz.func71 (XK_no (by decide) (by decide) _) rfl bodyOk_71 rfl rtys_71 rvs_71 ?_
  clear hk
  have hsh:IntKind.i64.wrap (2^min 0 IntKind.i64.bits)=1:=by kernel_rfl
  generalize XK m=X at*
  generalize rowG one=RO at*
  obtain⟨r0,r1,r2,r3⟩:=pub
  obtain⟨f0,f1,f2,f3⟩:=m
  obtain⟨g0,g1,g2,g3⟩:=key
  simp only[Q.D4.row] at*
  repeat' (first|(refine ZN ?_)|(refine Z2 ?_ ?_)|(intro h h';try simp[*,-h] at h'))
  all_goals rfl
theorem chk_1 (pub m:Q.D4)(i:Int)(one:List Q.D4)(a:Q.D4): ∃v,SemD Tryz.prog 71 [.agg pub.row,.agg m.row,.agg [iv i,.sl false 4 (rowG one),.sl false 4 [a.row]]] [bv v]:=by
 have hr:=XK_reach m one
 generalize hk:keyB m one=kb at hr
 obtain⟨key,ok⟩:=kb
 obtain⟨bw,hw⟩:=XK_way (m:=m) (wayS_1 pub key i a)
 simp only at hr
 cases ok with
 |false=>
  refine⟨false,(LKK_ok m).1 _ _ _ ?_⟩
  refine fnW (P:=Tryz.prog) (E:=EK) (X:=XK m) Tryz.func71 (XK_no (by decide) (by decide) _) rfl bodyOk_71 rfl rtys_71 rvs_71 ?_
  clear hw hk
  generalize XK m=X at*
  generalize rowG one=RO at*
  obtain⟨r0,r1,r2,r3⟩:=pub
  obtain⟨f0,f1,f2,f3⟩:=m
  obtain⟨g0,g1,g2,g3⟩:=key
  simp only[Q.D4.row] at*
  repeat' (first|(refine ZN ?_)|(refine Z2 ?_ ?_)|(intro h h';try simp[*,-h] at h'))
  all_goals rfl
 |true=>
  refine⟨bw,(LKK_ok m).1 _ _ _ ?_⟩
  refine fnW (P:=Tryz.prog) (E:=EK) (X:=XK m) Tryz.func71 (XK_no (by decide) (by decide) _) rfl bodyOk_71 rfl rtys_71 rvs_71 ?_
  clear hk
  have hsh:IntKind.i64.wrap (2^min 1 IntKind.i64.bits)=2:=by kernel_rfl
  generalize XK m=X at*
  generalize rowG one=RO at*
  obtain⟨r0,r1,r2,r3⟩:=pub
  obtain⟨f0,f1,f2,f3⟩:=m
  obtain⟨g0,g1,g2,g3⟩:=key
  simp only[Q.D4.row] at*
  repeat' (first|(refine ZN ?_)|(refine Z2 ?_ ?_)|(intro h h';try simp[*,-h] at h'))
  all_goals rfl
theorem chk_2 (pub m:Q.D4)(i:Int)(one:List Q.D4)(a b:Q.D4): ∃v,SemD Tryz.prog 71 [.agg pub.row,.agg m.row,.agg [iv i,.sl false 4 (rowG one),.sl false 4 [a.row,b.row]]] [bv v]:=by
 have hr:=XK_reach m one
 generalize hk:keyB m one=kb at hr
 obtain⟨key,ok⟩:=kb
 obtain⟨bw,hw⟩:=XK_way (m:=m) (wayS_2 pub key i a b)
 simp only at hr
 cases ok with
 |false=>
  refine⟨false,(LKK_ok m).1 _ _ _ ?_⟩
  refine fnW (P:=Tryz.prog) (E:=EK) (X:=XK m) Tryz.func71 (XK_no (by decide) (by decide) _) rfl bodyOk_71 rfl rtys_71 rvs_71 ?_
  clear hw hk
  generalize XK m=X at*
  generalize rowG one=RO at*
  obtain⟨r0,r1,r2,r3⟩:=pub
  obtain⟨f0,f1,f2,f3⟩:=m
  obtain⟨g0,g1,g2,g3⟩:=key
  simp only[Q.D4.row] at*
  repeat' (first|(refine ZN ?_)|(refine Z2 ?_ ?_)|(intro h h';try simp[*,-h] at h'))
  all_goals rfl
 |true=>
  refine⟨bw,(LKK_ok m).1 _ _ _ ?_⟩
  refine fnW (P:=Tryz.prog) (E:=EK) (X:=XK m) Tryz.func71 (XK_no (by decide) (by decide) _) rfl bodyOk_71 rfl rtys_71 rvs_71 ?_
  clear hk
  have hsh:IntKind.i64.wrap (2^min 2 IntKind.i64.bits)=4:=by kernel_rfl
  generalize XK m=X at*
  generalize rowG one=RO at*
  obtain⟨r0,r1,r2,r3⟩:=pub
  obtain⟨f0,f1,f2,f3⟩:=m
  obtain⟨g0,g1,g2,g3⟩:=key
  simp only[Q.D4.row] at*
  repeat' (first|(refine ZN ?_)|(refine Z2 ?_ ?_)|(intro h h';try simp[*,-h] at h'))
  all_goals rfl
theorem chk_3 (pub m:Q.D4)(i:Int)(one:List Q.D4)(a b c:Q.D4): ∃v,SemD Tryz.prog 71 [.agg pub.row,.agg m.row,.agg [iv i,.sl false 4 (rowG one),.sl false 4 [a.row,b.row,c.row]]] [bv v]:=by
 have hr:=XK_reach m one
 generalize hk:keyB m one=kb at hr
 obtain⟨key,ok⟩:=kb
 obtain⟨bw,hw⟩:=XK_way (m:=m) (wayS_3 pub key i a b c)
 simp only at hr
 cases ok with
 |false=>
  refine⟨false,(LKK_ok m).1 _ _ _ ?_⟩
  refine fnW (P:=Tryz.prog) (E:=EK) (X:=XK m) Tryz.func71 (XK_no (by decide) (by decide) _) rfl bodyOk_71 rfl rtys_71 rvs_71 ?_
  clear hw hk
  generalize XK m=X at*
  generalize rowG one=RO at*
  obtain⟨r0,r1,r2,r3⟩:=pub
  obtain⟨f0,f1,f2,f3⟩:=m
  obtain⟨g0,g1,g2,g3⟩:=key
  simp only[Q.D4.row] at*
  repeat' (first|(refine ZN ?_)|(refine Z2 ?_ ?_)|(intro h h';try simp[*,-h] at h'))
  all_goals rfl
 |true=>
  refine⟨bw,(LKK_ok m).1 _ _ _ ?_⟩
  refine fnW (P:=Tryz.prog) (E:=EK) (X:=XK m) Tryz.func71 (XK_no (by decide) (by decide) _) rfl bodyOk_71 rfl rtys_71 rvs_71 ?_
  clear hk
  have hsh:IntKind.i64.wrap (2^min 3 IntKind.i64.bits)=8:=by kernel_rfl
  generalize XK m=X at*
  generalize rowG one=RO at*
  obtain⟨r0,r1,r2,r3⟩:=pub
  obtain⟨f0,f1,f2,f3⟩:=m
  obtain⟨g0,g1,g2,g3⟩:=key
  simp only[Q.D4.row] at*
  repeat' (first|(refine ZN ?_)|(refine Z2 ?_ ?_)|(intro h h';try simp[*,-h] at h'))
  all_goals rfl
theorem chk_4 (pub m:Q.D4)(i:Int)(one:List Q.D4)(a b c d:Q.D4): ∃v,SemD Tryz.prog 71 [.agg pub.row,.agg m.row,.agg [iv i,.sl false 4 (rowG one),.sl false 4 [a.row,b.row,c.row,d.row]]] [bv v]:=by
 have hr:=XK_reach m one
 generalize hk:keyB m one=kb at hr
 obtain⟨key,ok⟩:=kb
 obtain⟨bw,hw⟩:=XK_way (m:=m) (wayS_4 pub key i a b c d)
 simp only at hr
 cases ok with
 |false=>
  refine⟨false,(LKK_ok m).1 _ _ _ ?_⟩
  refine fnW (P:=Tryz.prog) (E:=EK) (X:=XK m) Tryz.func71 (XK_no (by decide) (by decide) _) rfl bodyOk_71 rfl rtys_71 rvs_71 ?_
  clear hw hk
  generalize XK m=X at*
  generalize rowG one=RO at*
  obtain⟨r0,r1,r2,r3⟩:=pub
  obtain⟨f0,f1,f2,f3⟩:=m
  obtain⟨g0,g1,g2,g3⟩:=key
  simp only[Q.D4.row] at*
  repeat' (first|(refine ZN ?_)|(refine Z2 ?_ ?_)|(intro h h';try simp[*,-h] at h'))
  all_goals rfl
 |true=>
  refine⟨bw,(LKK_ok m).1 _ _ _ ?_⟩
  refine fnW (P:=Tryz.prog) (E:=EK) (X:=XK m) Tryz.func71 (XK_no (by decide) (by decide) _) rfl bodyOk_71 rfl rtys_71 rvs_71 ?_
  clear hk
  have hsh:IntKind.i64.wrap (2^min 4 IntKind.i64.bits)=16:=by kernel_rfl
  generalize XK m=X at*
  generalize rowG one=RO at*
  obtain⟨r0,r1,r2,r3⟩:=pub
  obtain⟨f0,f1,f2,f3⟩:=m
  obtain⟨g0,g1,g2,g3⟩:=key
  simp only[Q.D4.row] at*
  repeat' (first|(refine ZN ?_)|(refine Z2 ?_ ?_)|(intro h h';try simp[*,-h] at h'))
  all_goals rfl
theorem chk_long (pub m:Q.D4)(i:Int)(one:List Q.D4)(P:List (List AV))(h:4<P.length): ∃v,SemD Tryz.prog 71 [.agg pub.row,.agg m.row,.agg [iv i,.sl false 4 (rowG one),.sl false 4 P]] [bv v]:=by
 have hr:=XK_reach m one
 generalize hk:keyB m one=kb at hr
 obtain⟨key,ok⟩:=kb
 refine⟨false,(LKK_ok m).1 _ _ _ ?_⟩
 refine fnW (P:=Tryz.prog) (E:=EK) (X:=XK m) Tryz.func71 (XK_no (by decide) (by decide) _) rfl bodyOk_71 rfl rtys_71 rvs_71 ?_
 have hn:4<P.length:=h
 clear hr hk
 have hn4:4<(P.length:Int):=by omega
 generalize rowG one=RO at*
 obtain⟨r0,r1,r2,r3⟩:=pub
 obtain⟨f0,f1,f2,f3⟩:=m
 simp only[Q.D4.row]
 repeat' (first|(refine ZN ?_)|(refine Z2 ?_ ?_)|(intro h h';try simp[*,-h] at h'))
 all_goals rfl
theorem chk_s (pub m:Q.D4)(i:Int)(one path:List Q.D4): ∃b,SemD Tryz.prog 71 [.agg pub.row,.agg m.row,.agg [iv i,.sl false 4 (rowG one),.sl false 4 (rowG path)]] [bv b]:=by
 match path with
 |[]=>exact chk_0 pub m i one
 |[a]=>exact chk_1 pub m i one a
 |[a,b]=>exact chk_2 pub m i one a b
 |[a,b,c]=>exact chk_3 pub m i one a b c
 |[a,b,c,d]=>exact chk_4 pub m i one a b c d
 |a::b::c::d::e::r=>exact chk_long pub m i one _ (by simp)
end
section
open Go Go.Ab
def E7 :Cfg:={eq:=fun t=>t==24||t==34,hp:=fun f=>f==19||f==20||f==21||f==22||f==24||f==25||f==26,yl:=fun _=>false}
@[simp] theorem E7_eq (t:Nat):E7.eq t=(t==24||t==34):=rfl
@[simp] theorem E7_hp (f:Nat):E7.hp f=(f==19||f==20||f==21||f==22||f==24||f==25||f==26):=rfl
@[simp] theorem E7_off :E7.off=0:=rfl
@[simp] theorem E7_ws :E7.ws=0:=rfl
@[simp] theorem E7_cl :E7.cl=false:=rfl
@[simp] theorem E7_frz (f:Nat):E7.frz f=false:=rfl
@[simp] theorem E7_inl (f:Nat):E7.inl f=false:=rfl
@[simp] theorem E7_bx (t:Nat):E7.bx t=false:=rfl
theorem E7_law :ELaw Tryz.prog E7:=by
 refine⟨fun t ht w x y us vs b h1 h2 h=>?_,fun _=>rfl⟩
 simp only[E7_eq,Bool.or_eq_true,beq_iff_eq] at ht
 rcases ht with rfl|rfl
 ·exact array_law (by kernel_rfl) (by kernel_rfl) (by kernel_rfl) w x y us vs b h1 h2 h
 ·exact struct_law (by kernel_rfl) (by kernel_rfl) (by kernel_rfl) (by kernel_rfl) (by kernel_rfl) w x y us vs b h1 h2 h
def base7 (f:Nat):Bool:=f==5||f==6||f==28||f==33||f==34||f==35||f==41||f==60
structure F7 (X:Orc):Prop where
 hX: ∀f a,base7 f=false→X.dat f a=none
 hD: ∀s:ByteArray,s.size≤1000000→(lim Tryz.prog E7 X).dat 34 [tv s]=some [.agg (Q.ofP s).row]
 hR: ∀s:ByteArray,s.size≤1000000→(lim Tryz.prog E7 X).dat 28 [tv s]=some [.agg (Q.ofP s).row]
 hP: ∀a b:Q.D4,(lim Tryz.prog E7 X).dat 33 [.agg a.row,.agg b.row]=some [.agg (Q.pairP a b).row]
 hH: ∀k d f a hp,X.hpc k d f a hp=none
 hW: ∀l:List Int,l.length≤1048576→(∀x∈l,Q.U x)→(lim Tryz.prog E7 X).dat 35 [.sl false 1 (rowU l)]=some [tv (Q.txtW l)]
abbrev rowS (l:List ByteArray):List (List AV):=l.map fun x=>[.sc (.string x)]
attribute [-simp] Prog.bind getCs putCs
attribute [local simp ↓] run_bind
attribute [local simp ↓] runF_bind
attribute [local simp] run_getCsN runF_getCsN runF_putCsN facetsC facetsW facetsH putCs_one run_putCsN
def halfF (n:Nat):Nat→Nat→Nat
 |0,k=>k
 |f+1,k=>if 2*k<n then halfF n f (2*k) else k
def halfP (n:Nat):Nat:=halfF n n 1
theorem halfF_lt (n:Nat): ∀f k,1≤k→k<n→1≤halfF n f k∧halfF n f k<n
 |0,k,h1,h2=>⟨h1,h2⟩
 |f+1,k,h1,h2=>by
  unfold halfF
  split
  ·exact halfF_lt n f (2*k) (by omega) (by omega)
  ·exact⟨h1,h2⟩
theorem halfP_lt {n:Nat}(h:2≤n):1≤halfP n∧halfP n<n:=halfF_lt n n 1 (by omega) (by omega)
def rootF :Nat→List Q.D4→Q.D4
 |0,_=>⟨0,0,0,0⟩
 |f+1,l=>match l with
  |[]=>Q.ofP ⟨#[]⟩
  |[d]=>d
  |l=>Q.pairP (rootF f (l.take (halfP l.length))) (rootF f (l.drop (halfP l.length)))
def rootP (l:List Q.D4):Q.D4:=rootF (l.length+1) l
theorem rootF_two (f:Nat)(l:List Q.D4)(h:2≤l.length):rootF (f+1) l=Q.pairP (rootF f (l.take (halfP l.length))) (rootF f (l.drop (halfP l.length))):=by
 match l,h with
 |a::b::r,_=>rfl
theorem rootF_more : ∀(f g:Nat) (l:List Q.D4),l.length<f→l.length<g→rootF f l=rootF g l
 |0,g,l,h,_=>by omega
 |f+1,0,l,_,h=>by omega
 |f+1,g+1,l,h1,h2=>by
  by_cases h:2≤l.length
  ·have hh:=halfP_lt h
   rw[rootF_two f l h,rootF_two g l h,rootF_more f g _ (by rw[List.length_take];omega) (by rw[List.length_take];omega),rootF_more f g _ (by rw[List.length_drop];omega) (by rw[List.length_drop];omega)]
  ·match l,h with
   |[],_=>rfl
   |[a],_=>rfl
   |a::b::r,h=>simp at h
theorem rootP_two (l:List Q.D4)(h:2≤l.length):rootP l=Q.pairP (rootP (l.take (halfP l.length))) (rootP (l.drop (halfP l.length))):=by
 have hh:=halfP_lt h
 unfold rootP
 rw[rootF_two _ l h,rootF_more l.length ((l.take (halfP l.length)).length+1) _ (by rw[List.length_take];omega) (by omega),rootF_more l.length ((l.drop (halfP l.length)).length+1) _ (by rw[List.length_drop];omega) (by omega)]
theorem half_w {X:Orc}(F:F7 X)(n:Nat)(h:1≤n)(hn:n≤1048576):(lim Tryz.prog E7 X).dat 92 [iv n]=some [iv (halfP n)]:=by
 refine fnW (P:=Tryz.prog) (E:=E7) (X:=X) Tryz.func92 (F.hX _ _ rfl) rfl bodyOk_92 rfl rtys_92 rvs_92 ?_
 repeat' (first|(refine ZN ?_)|(refine Z2 ?_ ?_)|(intro h h';try simp[*,-h] at h'))
 refine W_loopS (n:=n) (fun s0 m q=> ∃k:Nat,q.fr 3=iv k∧halfF n m k=halfP n∧n+1≤k+m∧1≤k∧k≤2*n∧q.fr 0=s0.fr 0) ⟨1,by simp,rfl,by omega,by omega,by omega,by simp⟩ ?_
 rintro m ⟨fr,hp⟩ ⟨k,hs3,hf,hm,hk,hkn,hs0⟩
 simp at hs3 hs0
 have w1:IntKind.i64.wrap ((n:Int) - k)=(n:Int) - k:=wrap64 (by omega) (by omega)
 have w2:IntKind.i64.wrap ((k:Int)*2)=((2*k:Nat):Int):=by rw[wrap64 (by omega) (by omega)];omega
 by_cases hlt:2*k<n
 ·have hlI:(k:Int)<(n:Int) - k:=by omega
  obtain⟨m',rfl⟩: ∃m',m=m'+1:=⟨m - 1,by omega⟩
  unfold halfF at hf
  rw[if_pos hlt] at hf
  obtain⟨k',hk'⟩: ∃k',k'=2*k:=⟨_,rfl⟩
  rw[←hk'] at hf w2
  have hH:=Lib.hid (⟨hf,hm,hk,hkn,hk',hlt⟩:_∧_∧_∧_∧_∧_)
  clear hf hk' hlt
  repeat' (first|(refine ZN ?_)|(refine Z2 ?_ ?_)|(intro h h';try simp[*,-h] at h'))
  all_goals exact⟨m',by omega,k',by simp[*],hH.out.1,by have:=hH.out.2;omega,by have:=hH.out.2;omega,by have:=hH.out.2;omega,by simp[*]⟩
 ·have hlI: ¬(k:Int)<(n:Int) - k:=by omega
  have he:halfP n=k:=by
   rw[←hf]
   cases m with
   |zero=>rfl
   |succ m=>unfold halfF;rw[if_neg hlt]
  rw[he]
  clear hf he hlt
  repeat' (first|(refine ZN ?_)|(refine Z2 ?_ ?_)|(intro h h';try simp[*,-h] at h'))
  all_goals rfl
theorem root_w {X:Orc}(F:F7 X): ∀(N:Nat) (l:List Q.D4),l.length≤N→l.length≤1048576→(lim Tryz.prog E7 X).dat 83 [.sl false 4 (rowG l)]=some [.agg (rootP l).row]:=by
 intro N
 induction N with
 |zero=>
  intro l h hl
  obtain rfl:l=[]:=List.eq_nil_of_length_eq_zero (by omega)
  refine fnW (P:=Tryz.prog) (E:=E7) (X:=X) Tryz.func83 (F.hX _ _ rfl) rfl bodyOk_83 rfl rtys_83 rvs_83 ?_
  have h34:=F.hD ⟨#[]⟩ (by decide)
  have hr:rootP []=Q.ofP ⟨#[]⟩:=rfl
  rw[hr]
  generalize Q.ofP ⟨#[]⟩=y at*
  obtain⟨y0,y1,y2,y3⟩:=y
  simp only[Q.D4.row] at h34⊢
  repeat' (first|(refine ZN ?_)|(refine Z2 ?_ ?_)|(intro h h';try simp[*,-h] at h'))
  all_goals rfl
 |succ N ih=>
  intro l h hl
  by_cases h2:2≤l.length
  ·refine fnW (P:=Tryz.prog) (E:=E7) (X:=X) Tryz.func83 (F.hX _ _ rfl) rfl bodyOk_83 rfl rtys_83 rvs_83 ?_
   have hh:=halfP_lt h2
   have h46:=(half_w F) l.length (by omega) (by omega)
   have i1:=ih (l.take (halfP l.length)) (by rw[List.length_take];omega) (by rw[List.length_take];omega)
   have i2:=ih (l.drop (halfP l.length)) (by rw[List.length_drop];omega) (by rw[List.length_drop];omega)
   have h33:=F.hP (rootP (l.take (halfP l.length))) (rootP (l.drop (halfP l.length)))
   rw[rootP_two l h2]
   have e1:rowG (l.take (halfP l.length))=(rowG l).take (halfP l.length):=List.map_take
   have e2:rowG (l.drop (halfP l.length))=(rowG l).drop (halfP l.length):=List.map_drop
   rw[e1] at i1
   rw[e2] at i2
   have hRl:(rowG l).length=l.length:=by simp
   have c0: ¬(l.length:Int)=0:=by omega
   have c1: ¬(l.length:Int)=1:=by omega
   have c0': ¬l.length=0:=by omega
   have c1': ¬l.length=1:=by omega
   have c2:halfP l.length≤l.length:=by omega
   have hRt:(rowG l).take l.length=rowG l:=List.take_of_length_le (by omega)
   have hRK:=Lib.hid (⟨h2,hh⟩:_∧_)
   clear e1 e2 ih h h2 hh
   generalize rootP (l.take (halfP l.length))=a at*
   generalize rootP (l.drop (halfP l.length))=b at*
   generalize Q.pairP a b=y at*
   obtain⟨a0,a1,a2,a3⟩:=a
   obtain⟨b0,b1,b2,b3⟩:=b
   obtain⟨y0,y1,y2,y3⟩:=y
   simp only[Q.D4.row] at i1 i2 h33⊢
   generalize hRR:rowG l=RG at*
   clear hRR
   generalize halfP l.length=hf at*
   have c3:min hf l.length=hf:=by omega
   generalize l.length=n at*
   repeat' (first|(refine ZN ?_)|(refine Z2 ?_ ?_)|(intro h h';try simp[*,-h] at h'))
   all_goals rfl
  ·by_cases h1:l.length=1
   ·obtain⟨d,rfl⟩: ∃d,l=[d]:=List.length_eq_one_iff.1 h1
    refine fnW (P:=Tryz.prog) (E:=E7) (X:=X) Tryz.func83 (F.hX _ _ rfl) rfl bodyOk_83 rfl rtys_83 rvs_83 ?_
    have hr:rootP [d]=d:=rfl
    rw[hr]
    obtain⟨y0,y1,y2,y3⟩:=d
    clear h h1 h2 hl ih
    simp only[rowG,List.map_cons,List.map_nil,Q.D4.row]
    repeat' (first|(refine ZN ?_)|(refine Z2 ?_ ?_)|(intro h h';try simp[*,-h] at h'))
    all_goals rfl
   ·exact ih l (by omega) hl
end
section
open Go Go.Ab
attribute [-simp] Prog.bind getCs putCs
attribute [local simp ↓] run_bind
attribute [local simp ↓] runF_bind
attribute [local simp] run_getCsN runF_getCsN runF_putCsN facetsC facetsW facetsH putCs_one run_putCsN
theorem rowG_app (a b:List Q.D4):rowG (a++b)=rowG a++rowG b:=List.map_append
theorem digs_w {X:Orc}(F:F7 X)(l:List ByteArray)(hl:l.length≤1000000)(hz: ∀x∈l,x.size≤1000000):(lim Tryz.prog E7 X).dat 84 [.agg [.sl false 1 (rowS l)]]=some [.vec 4 (rowG (l.map Q.ofP))]:=by
 refine fnW (P:=Tryz.prog) (E:=E7) (X:=X) Tryz.func84 (F.hX _ _ rfl) rfl bodyOk_84 rfl rtys_84 rvs_84 ?_
 have n1:(l.length:Int)*16≤140737488355328:=by omega
 have n2:(l.length:Int)≤9223372036854775807:=by omega
 have n3:(0:Int)≤l.length:=by omega
 have n4:(l.length:Int)≤140737488355328:=by omega
 repeat' (first|(refine ZN ?_)|(refine Z2 ?_ ?_)|(intro h h';try simp[*,-h] at h'))
 refine W_loopS (n:=l.length) (fun s0 m q=> ∃k g:Nat,m=l.length - k∧k≤l.length∧q.fr 13=iv k∧q.fr 12=s0.fr 12∧q.fr 11=s0.fr 11∧q.fr 3= .own ⟨0,9,0⟩ g k∧q.hp ⟨0,9,0⟩= .arr g 4 24 (rowG ((l.take k).map Q.ofP)) false) ⟨0,1,by simp,by omega,by simp,by simp,by simp,by simp,by simp⟩ ?_
 rintro m ⟨fr,hp⟩ ⟨k,g,rfl,hk,hs13,hs12,hs11,hs3,hho⟩
 simp at hs13 hs12 hs11 hs3
 simp only at hho
 by_cases hlt:k<l.length
 ·have hw:=wrapN (k:=k) (by omega)
  have hlI:(k:Int)<l.length:=by omega
  have hx:=F.hD l[k] (hz _ (List.getElem_mem hlt))
  have hg:(rowS l)[k]?=some [.sc (.string l[k])]:=by rw[List.getElem?_map,List.getElem?_eq_getElem hlt];rfl
  have y1:(k+1)*16≤140737488355328:=by omega
  have y2:k≤9223372036854775806:=by omega
  have y6:k+1≤140737488355328:=by omega
  have y4:(rowG ((l.take k).map Q.ofP)).length=k:=by simp;omega
  have hRl:(rowS l).length=l.length:=by simp
  have y5:rowG ((l.take k).map Q.ofP)++[(Q.ofP l[k]).row]=rowG ((l.take (k+1)).map Q.ofP):=by
   rw[List.take_add_one,List.getElem?_eq_getElem hlt,List.map_append,rowG_app];rfl
  obtain⟨RZ,hRZ⟩: ∃RZ,RZ=rowG ((l.take (k+1)).map Q.ofP):=⟨_,rfl⟩
  rw[←hRZ] at y5
  have hRZK:=Lib.hid hRZ
  have hzK:=Lib.hid hz
  clear hRZ hz
  have hg2: ∀h,(rowS l)[k]'h=[.sc (.string l[k])]:=fun h=>by simp
  generalize Q.ofP l[k]=y at*
  obtain⟨q0,q1,q2,q3⟩:=y
  simp only[Q.D4.row] at hx y5
  generalize rowG ((l.take k).map Q.ofP)=RN at*
  generalize l[k]=x at*
  generalize rowS l=RS at*
  repeat' (first|(refine ZN ?_)|(refine Z2 ?_ ?_)|(intro h h';try simp[*,-h] at h'))
  all_goals exact⟨_,by omega,k+1,g+1,rfl,hlt,by simp[*],by simp[*],by simp[*],by simp[*],by rw[←hRZK.out];simp[*]⟩
 ·obtain rfl:k=l.length:=by omega
  have hta:l.take l.length=l:=List.take_of_length_le (Nat.le_refl _)
  rw[hta] at hho
  have y4:(rowG (l.map Q.ofP)).length=l.length:=by simp
  have y5:(rowG (l.map Q.ofP)).take l.length=rowG (l.map Q.ofP):=List.take_of_length_le (by omega)
  have hRl:(rowS l).length=l.length:=by simp
  clear hz hta
  generalize rowG (l.map Q.ofP)=RN at*
  generalize rowS l=RS at*
  repeat' (first|(refine ZN ?_)|(refine Z2 ?_ ?_)|(intro h h';try simp[*,-h] at h'))
  all_goals rfl
theorem digR_w {X:Orc}(F:F7 X)(l:List ByteArray)(hl:l.length≤1000000)(hz: ∀x∈l,x.size≤1000000):(lim Tryz.prog E7 X).dat 39 [.agg [.sl false 1 (rowS l)]]=some [.vec 4 (rowG (l.map Q.ofP))]:=by
 refine fnW (P:=Tryz.prog) (E:=E7) (X:=X) Tryz.func39 (F.hX _ _ rfl) rfl bodyOk_39 rfl rtys_39 rvs_39 ?_
 have n1:(l.length:Int)*16≤140737488355328:=by omega
 have n2:(l.length:Int)≤9223372036854775807:=by omega
 have n3:(0:Int)≤l.length:=by omega
 have n4:(l.length:Int)≤140737488355328:=by omega
 repeat' (first|(refine ZN ?_)|(refine Z2 ?_ ?_)|(intro h h';try simp[*,-h] at h'))
 refine W_loopS (n:=l.length) (fun s0 m q=> ∃k g:Nat,m=l.length - k∧k≤l.length∧q.fr 4=iv k∧q.fr 1=s0.fr 1∧q.hp ⟨0,1,0⟩=s0.hp ⟨0,1,0⟩∧q.fr 3= .own ⟨0,3,0⟩ g k∧q.hp ⟨0,3,0⟩= .arr g 4 24 (rowG ((l.take k).map Q.ofP)) false) ⟨0,1,by simp,by omega,by simp,by simp,by simp,by simp,by simp⟩ ?_
 rintro m ⟨fr,hp⟩ ⟨k,g,rfl,hk,hs4,hs1,hh1,hs3,hho⟩
 simp at hs4 hs1 hh1 hs3
 simp only at hho
 by_cases hlt:k<l.length
 ·have hw:=wrapN (k:=k) (by omega)
  have hlI:(k:Int)<l.length:=by omega
  have hx:=F.hR l[k] (hz _ (List.getElem_mem hlt))
  have hg:(rowS l)[k]?=some [.sc (.string l[k])]:=by rw[List.getElem?_map,List.getElem?_eq_getElem hlt];rfl
  have y1:(k+1)*16≤140737488355328:=by omega
  have y2:k≤9223372036854775806:=by omega
  have y6:k+1≤140737488355328:=by omega
  have y4:(rowG ((l.take k).map Q.ofP)).length=k:=by simp;omega
  have hRl:(rowS l).length=l.length:=by simp
  have y5:rowG ((l.take k).map Q.ofP)++[(Q.ofP l[k]).row]=rowG ((l.take (k+1)).map Q.ofP):=by
   rw[List.take_add_one,List.getElem?_eq_getElem hlt,List.map_append,rowG_app];rfl
  obtain⟨RZ,hRZ⟩: ∃RZ,RZ=rowG ((l.take (k+1)).map Q.ofP):=⟨_,rfl⟩
  rw[←hRZ] at y5
  have hRZK:=Lib.hid hRZ
  have hzK:=Lib.hid hz
  clear hRZ hz
  have hg2: ∀h,(rowS l)[k]'h=[.sc (.string l[k])]:=fun h=>by simp
  generalize Q.ofP l[k]=y at*
  obtain⟨q0,q1,q2,q3⟩:=y
  simp only[Q.D4.row] at hx y5
  generalize rowG ((l.take k).map Q.ofP)=RN at*
  generalize l[k]=x at*
  generalize rowS l=RS at*
  repeat' (first|(refine ZN ?_)|(refine Z2 ?_ ?_)|(intro h h';try simp[*,-h] at h'))
  all_goals exact⟨_,by omega,k+1,g+1,rfl,hlt,by simp[*],by simp[*],by simp[*],by simp[*],by rw[←hRZK.out];simp[*]⟩
 ·obtain rfl:k=l.length:=by omega
  have hta:l.take l.length=l:=List.take_of_length_le (Nat.le_refl _)
  rw[hta] at hho
  have y4:(rowG (l.map Q.ofP)).length=l.length:=by simp
  have y5:(rowG (l.map Q.ofP)).take l.length=rowG (l.map Q.ofP):=List.take_of_length_le (by omega)
  have hRl:(rowS l).length=l.length:=by simp
  clear hz hta
  generalize rowG (l.map Q.ofP)=RN at*
  generalize rowS l=RS at*
  repeat' (first|(refine ZN ?_)|(refine Z2 ?_ ?_)|(intro h h';try simp[*,-h] at h'))
  all_goals rfl
def headP (l:List ByteArray):List AV:=iv l.length::(rootP (l.map Q.ofP)).row
theorem sroot_w {X:Orc}(F:F7 X)(l:List ByteArray)(hl:l.length≤1000000)(hz: ∀x∈l,x.size≤1000000):(lim Tryz.prog E7 X).dat 69 [.agg [.sl false 1 (rowS l)]]=some [.agg (rootP (l.map Q.ofP)).row]:=by
 refine fnW (P:=Tryz.prog) (E:=E7) (X:=X) Tryz.func69 (F.hX _ _ rfl) rfl bodyOk_69 rfl rtys_69 rvs_69 ?_
 have h29:=(digs_w F) l hl hz
 have h28:=(root_w F) l.length (l.map Q.ofP) (by simp) (by simp;omega)
 have y4:(rowG (l.map Q.ofP)).length=l.length:=by simp
 have y5:(rowG (l.map Q.ofP)).take l.length=rowG (l.map Q.ofP):=List.take_of_length_le (by omega)
 generalize rowG (l.map Q.ofP)=RN at*
 generalize rootP (l.map Q.ofP)=y at*
 obtain⟨q0,q1,q2,q3⟩:=y
 simp only[Q.D4.row] at h28⊢
 clear hz
 generalize rowS l=RS at*
 repeat' (first|(refine ZN ?_)|(refine Z2 ?_ ?_)|(intro h h';try simp[*,-h] at h'))
 all_goals rfl
theorem shead_w {X:Orc}(F:F7 X)(l:List ByteArray)(hl:l.length≤1000000)(hz: ∀x∈l,x.size≤1000000):(lim Tryz.prog E7 X).dat 59 [.agg [.sl false 1 (rowS l)]]=some [.agg (headP l)]:=by
 refine fnW (P:=Tryz.prog) (E:=E7) (X:=X) Tryz.func59 (F.hX _ _ rfl) rfl bodyOk_59 rfl rtys_59 rvs_59 ?_
 have h17:=(sroot_w F) l hl hz
 have hRl:(rowS l).length=l.length:=by simp
 unfold headP
 generalize rootP (l.map Q.ofP)=y at*
 obtain⟨q0,q1,q2,q3⟩:=y
 simp only[Q.D4.row] at h17⊢
 clear hz
 generalize rowS l=RS at*
 repeat' (first|(refine ZN ?_)|(refine Z2 ?_ ?_)|(intro h h';try simp[*,-h] at h'))
 all_goals rfl
end
end Go.Proofs.YtpedpkegmalgmaaGreatDoor
