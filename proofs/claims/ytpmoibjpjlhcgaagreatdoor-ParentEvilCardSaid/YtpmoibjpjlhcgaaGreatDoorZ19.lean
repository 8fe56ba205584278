/- A part of the proof: Sx. -/
import Derived.Test.YtpmoibjpjlhcgaaGreatDoorZ18
set_option linter.unusedSimpArgs false
set_option linter.unusedVariables false
set_option maxRecDepth 200000
set_option maxHeartbeats 8000000
namespace Go.Proofs.YtpmoibjpjlhcgaaGreatDoor
open Go Go.Ab Go.Ab.Sy
theorem names_nodup {nb:Tx→Bool}{p:Sy.Pr}(h:soundS nb p=0):((coOutL p).map (·.1)).Nodup∧ ∀(i:Nat) (f:Fu),p.funcs[i]?=some f→ ∀w,((coInL w f).map (·.1)).Nodup:=by
 obtain⟨hr,hs,ht⟩:=soundS_zero h
 unfold scopeS at hs
 have hs1:(fnsStep p 0 p.funcs ((outM p).2,true)).1=true:=by
  cases hq:(fnsStep p 0 p.funcs ((outM p).2,true)).1
  ·rw[if_pos hq] at hs;cases hs
  ·rfl
 rw[if_neg (by rw[hs1];simp)] at hs
 have hs2:(fnsStep p 0 p.funcs ((outM p).2,true)).2=true:=by
  cases hq:(fnsStep p 0 p.funcs ((outM p).2,true)).2
  ·rw[if_pos (.inl hq)] at hs;cases hs
  ·rfl
 obtain⟨⟨o1,_⟩,hfn⟩:=fnsStep_mem hs1 hs2
 obtain⟨_,oM,oN⟩:=addAll_true (l:=outL p) (m:=([],true)) (by simp) o1
 simp only[List.nil_append] at oM oN
 refine⟨by rw[coOutL_names,←outL_names];exact oN,fun i f hf w=>?_⟩
 obtain⟨s',n1,n2⟩:=hfn i f hf
 have hin:(inM f).2=true:=by
  have:=useAll_mono.1 n1
  simp only[Bool.and_eq_true] at this
  exact this.2
 obtain⟨_,iM,iN⟩:=addAll_true (l:=inL f) (m:=([],true)) (by simp) hin
 simp only[List.nil_append] at iM iN
 rw[coInL_names,←inL_names]
 exact iN
theorem coFs_take (out:List (Tx×Th)): ∀(l:List Fu) (w:Int) (j:Nat) {f:Fu},l[j]?=some f→coFs out w (l.take (j+1))=coFs out w (l.take j)++[coF out (w+coW (l.take j)) f]
 |[],w,j,f,h=>by simp at h
 |x::l,w,0,f,h=>by
  simp only[List.getElem?_cons_zero,Option.some.injEq] at h
  subst h
  simp[coFs,coW]
 |x::l,w,j+1,f,h=>by
  have:=coFs_take out l (w+slotsOf x) j (f:=f) (by simpa using h)
  simp only[coFs,coW,List.take_succ_cons,List.cons_append]
  rw[this,Int.add_assoc]
theorem coW_take : ∀(l:List Fu) (j:Nat) {f:Fu},l[j]?=some f→coW (l.take (j+1))=coW (l.take j)+slotsOf f
 |[],j,f,h=>by simp at h
 |x::l,0,f,h=>by
  simp only[List.getElem?_cons_zero,Option.some.injEq] at h
  subst h
  simp[coW]
 |x::l,j+1,f,h=>by
  have:=coW_take l j (f:=f) (by simpa using h)
  simp only[coW,List.take_succ_cons]
  omega
theorem coW_le : ∀(l:List Fu),0≤coW l∧coW l≤fuSize l
 |[]=>by simp[coW]
 |x::l=>by
  have:=coW_le l
  simp only[coW,fuSize_cons,Sy.slotsOf,Sy.Fu.size]
  omega
theorem coW_take_le (l:List Fu)(j:Nat):0≤coW (l.take j)∧coW (l.take j)≤fuSize l:=by
 have h1:=coW_le (l.take j)
 have h2:fuSize (l.take j)≤fuSize l:=by
  conv=>rhs;rw[←List.take_append_drop j l,fuSize_app]
  omega
 omega
theorem coFs_len (out:List (Tx×Th)): ∀(l:List Fu) (w:Int),(coFs out w l).length=l.length
 |[],_=>rfl
 |x::l,w=>by simp[coFs,coFs_len out l]
theorem setAll_eq {T:Type}{l:List (Tx×T)}(h:(l.map (·.1)).Nodup):setAll l []=l:=by
 have:=setAll_nodup (l:=l) (m:=[]) (by simpa using h)
 simpa using this
theorem cf_take (l:List Cf):(l.map Cf.row).take l.length=l.map Cf.row:=by rw[List.take_of_length_le (by simp)]
theorem coOf_bad (vs:List Tx)(ar:List (Tx×Int))(fs:List Fu)(hs:vs.length+ar.length+fuSize fs≤20000)(h0:soundS nbT ⟨vs,ar,fs⟩≠0):(Lm X47).dat 49 [.agg [.sl false 1 (txRows vs),.sl false 2 (arRows ar),.sl false 5 (fs.map Fu.row)]]=some [.agg [iv 0,.vec 5 []],iv (soundS nbT ⟨vs,ar,fs⟩)]:=by
 refine fnW (P:=Tryz.prog) (E:=E47) (X:=X47) Tryz.func49 (X47_dat _ _) rfl bodyOk_49 rfl rtys_49 rvs_49 ?_
 have hsd:=Sound_w vs ar fs (by omega)
 generalize soundS nbT ⟨vs,ar,fs⟩=e at*
 repeat' (first|(refine ZN ?_)|(refine Z2 ?_ ?_)|(intro h h';try simp[*,-h] at h'))
 rfl
theorem coOf_good (vs:List Tx)(ar:List (Tx×Int))(fs:List Fu)(hs:vs.length+ar.length+fuSize fs≤20000)(h0:soundS nbT ⟨vs,ar,fs⟩=0):(Lm X47).dat 49 [.agg [.sl false 1 (txRows vs),.sl false 2 (arRows ar),.sl false 5 (fs.map Fu.row)]]=some (if 32768<coWords ⟨vs,ar,fs⟩ then[.agg [iv 0,.vec 5 []],iv 2] else[.agg [iv (coWords ⟨vs,ar,fs⟩),.vec 5 ((coreS ⟨vs,ar,fs⟩).funcs.map Cf.row)],iv 0]):=by
 refine fnW (P:=Tryz.prog) (E:=E47) (X:=X47) Tryz.func49 (X47_dat _ _) rfl bodyOk_49 rfl rtys_49 rvs_49 ?_
 have hsd:=Sound_w vs ar fs (by omega)
 obtain⟨hn,hin⟩:=names_nodup h0
 have hr:=(soundS_zero h0).1
 have har: ∀a∈ar,1≤a.2∧a.2≤4096:=by
  intro a ha
  rw[rP_mk] at hr
  simp only[Bool.and_eq_true,List.all_eq_true] at hr
  have:=hr.1.2 a ha
  obtain⟨a1,a2⟩:=a
  rw[rA_mk] at this
  simp only[Bool.and_eq_true,decide_eq_true_eq] at this
  exact⟨this.1.2,this.2⟩
 have hgl:=coGlobals_w vs ar fs (by omega) har hn
 have hout:=setAll_eq hn
 have hab:=arW_le ar har
 have hW:0≤coOutW ⟨vs,ar,fs⟩∧coOutW ⟨vs,ar,fs⟩≤90000000:=by unfold coOutW;simp only;omega
 have hfl:=fuSize_len fs
 have hcw:coWords ⟨vs,ar,fs⟩=coOutW ⟨vs,ar,fs⟩+coW fs:=rfl
 have hcs:(coreS ⟨vs,ar,fs⟩).funcs=coFs (coOutL ⟨vs,ar,fs⟩) (coOutW ⟨vs,ar,fs⟩) fs:=by show coFs (setAll (coOutL ⟨vs,ar,fs⟩) []) _ _=_;rw[hout]
 rw[h0] at hsd
 rw[hcw,hcs]
 simp only at hin
 generalize coOutL ⟨vs,ar,fs⟩=out at*
 generalize coOutW ⟨vs,ar,fs⟩=w0 at*
 obtain⟨ob,ok,or_,ho⟩: ∃b k r,mpD thR out= .dmp b k r:=⟨_,_,_,rfl⟩
 rw[ho] at hgl
 clear hr har hab hn hout hcw hcs h0
 repeat' (first|(refine ZN ?_)|(refine Z2 ?_ ?_)|(intro h h';try simp[*,-h] at h'))
 refine W_loopS (n:=fs.length) (fun s0 m z=> ∃j g:Nat,fs.length - j≤m∧j≤fs.length∧z.fr 1= .ptr ⟨0,1,0⟩ 1 0∧z.fr 2= .ptr ⟨0,2,0⟩ 1 0∧z.fr 5= .dmp ob ok or_∧z.fr 7= .ptr ⟨0,7,0⟩ 1 0∧z.fr 28= .sl false 5 (fs.map Fu.row)∧z.fr 29=iv fs.length∧z.fr 30=iv j∧z.fr 6=iv (w0+coW (fs.take j))∧z.hp ⟨0,1,0⟩= .box 1 [.sl false 1 (txRows vs),.sl false 2 (arRows ar),.sl false 5 (fs.map Fu.row)] false∧z.hp ⟨0,2,0⟩= .box 1 [iv 0,.own ⟨0,2,2⟩ 1 0] false∧z.hp ⟨0,2,2⟩= .arr 1 5 163 [] false∧z.hp ⟨0,7,0⟩= .box 1 [iv 0,.own ⟨0,7,2⟩ g (coFs out w0 (fs.take j)).length] false∧z.hp ⟨0,7,2⟩= .arr g 5 163 ((coFs out w0 (fs.take j)).map Cf.row) false) ⟨0,1,by omega,by omega,by simp[coW,coFs],by simp[coW,coFs],by simp[coW,coFs],by simp[coW,coFs],by simp[coW,coFs],by simp[coW,coFs],by simp[coW,coFs],by simp[coW,coFs],by simp[coW,coFs],by simp[coW,coFs],by simp[coW,coFs],by simp[coW,coFs],by simp[coW,coFs]⟩ ?_
 rintro m ⟨fr,hp⟩ ⟨j,g,hm,hj,F1,F2,F5,F7,F28,F29,F30,F6,H0,H1,H2,H3,H4⟩
 simp only at F1 F2 F5 F7 F28 F29 F30 F6 H0 H1 H2 H3 H4
 have hcj:=coW_take_le fs j
 by_cases hlt:j<fs.length
 ·have e1:(j:Int)<fs.length:=by omega
  have hg:fs[j]?=some fs[j]:=List.getElem?_eq_getElem hlt
  have hwj:IntKind.i64.wrap ((j:Int)+1)=(j:Int)+1:=wrapN (by omega)
  generalize fs[j]=t at*
  have hgt:=fu_get hg
  have hst:=fuSize_get hg
  have hft:=coFs_take out fs w0 j hg
  have hwt:=coW_take fs j hg
  have hnd:=hin j t hg (w0+coW (fs.take j))
  have hls:(coFs out w0 (fs.take j)).length=j:=by rw[coFs_len,List.length_take];omega
  generalize coFs out w0 (fs.take j)=S at*
  generalize coW (fs.take j)=cw at*
  obtain⟨t1,ps,ls,t4,t5⟩:=t
  simp only[Fu_row_mk] at hgt
  simp only[Fu_size_mk] at hst
  simp only[Sy.slotsOf] at hwt
  obtain⟨W,hW2⟩: ∃W,W=w0+cw:=⟨_,rfl⟩
  have hWb:0≤W∧W≤90020000:=by omega
  rw[←hW2] at F6 hft hnd
  have hsl:IntKind.i64.wrap ((ps.length:Int)+ls.length)=(ps.length:Int)+ls.length:=wrap64 (by omega) (by omega)
  have HI:=Lib.hid hin
  have HF:=Lib.hid hft
  have HWt:=Lib.hid hwt
  have HND:=Lib.hid hnd
  have HLS:=Lib.hid hls
  have HW2:=Lib.hid hW2
  clear hin hft hwt hnd hg hlt hls hW2
  repeat' (first|(refine ZN ?_)|(refine Z2 ?_ ?_)|(intro h h';try simp[*,-h] at h'))
  generalize hg9:(hp ⟨0,9,0⟩).gen+1=g9 at*
  generalize hg10:(hp ⟨0,10,0⟩).gen+1=g10 at*
  generalize hgm:(hp ⟨0,35,0⟩).gen+1=gm at*
  clear hg9 hg10 hgm
  refine W_loopS (n:=ps.length) (fun s0 m2 z=> ∃i:Nat,ps.length - i≤m2∧i≤ps.length∧z.fr 1= .ptr ⟨0,1,0⟩ 1 0∧z.fr 2= .ptr ⟨0,2,0⟩ 1 0∧z.fr 5= .dmp ob ok or_∧z.fr 7= .ptr ⟨0,7,0⟩ 1 0∧z.fr 28= .sl false 5 (fs.map Fu.row)∧z.fr 29=iv fs.length∧z.fr 30=iv j∧z.fr 6=iv (W)∧z.fr 9= .ptr ⟨0,9,0⟩ g9 0∧z.fr 10= .ptr ⟨0,10,0⟩ g10 0∧z.fr 11=iv ((ps.length:Int)+ls.length)∧z.fr 45= .sl false 1 (txRows ps)∧z.fr 46=iv ps.length∧z.fr 47=iv i∧z.hp ⟨0,1,0⟩= .box 1 [.sl false 1 (txRows vs),.sl false 2 (arRows ar),.sl false 5 (fs.map Fu.row)] false∧z.hp ⟨0,2,0⟩= .box 1 [iv 0,.own ⟨0,2,2⟩ 1 0] false∧z.hp ⟨0,2,2⟩= .arr 1 5 163 [] false∧z.hp ⟨0,7,0⟩= .box 1 [iv 0,.own ⟨0,7,2⟩ g (S).length] false∧z.hp ⟨0,7,2⟩= .arr g 5 163 ((S).map Cf.row) false∧z.hp ⟨0,9,0⟩= .box g9 [tz t1.val,.sl false 1 (txRows ps),.sl false 1 (txRows ls),bz t4,.sl false 5 (stRows t5)] false∧z.hp ⟨0,10,0⟩= .box g10 [.dmp ob ok or_,.mp ⟨0,35,0⟩ gm] false∧z.hp ⟨0,35,0⟩=mpO thR gm (num (fun i (s:Tx)=>(s,(W+i,(0:Int)))) 0 (ps.take i))) ⟨0,by omega,by omega,by simp[*],by simp[*],by simp[*],by simp[*],by simp[*],by simp[*],by simp[*],by simp[*],by simp[*],by simp[*],by simp[*],by simp[*],by simp[*],by simp[*],by simp[*],by simp[*],by simp[*],by simp[*],by simp[*],by simp[*],by simp[*],(by first|(simp[*,num];done)|(simp[*,num];rfl))⟩ ?_
  rintro m2' ⟨fr',hp'⟩ ⟨i',hm2',hi',F1',F2',F5',F7',F28',F29',F30',F6',F9',F10',F11',F45',F46',F47',H0',H1',H2',H3',H4',H5',H6',H7'⟩
  simp only at F1' F2' F5' F7' F28' F29' F30' F6' F9' F10' F11' F45' F46' F47' H0' H1' H2' H3' H4' H5' H6' H7'
  clear F1 F2 F5 F7 F28 F29 F30 F6 H0 H1 H2 H3 H4
  by_cases hlt':i'<ps.length
  ·have e2:(i':Int)<ps.length:=by omega
   have hg:ps[i']?=some ps[i']:=List.getElem?_eq_getElem hlt'
   have hwi:IntKind.i64.wrap ((i':Int)+1)=(i':Int)+1:=wrapN (by omega)
   generalize ps[i']=s at*
   have hgt2:=tx_get hg
   have hnt:=num_take (fun i (s:Tx)=>(s,(W+i,(0:Int)))) 0 ps i' hg
   have hsp:=num_split (fun i (s:Tx)=>(s,(W+i,(0:Int)))) ps 0 i' hg
   have hnd:=HND.out
   unfold coInL at hnd
   simp only[num_app,Nat.zero_add] at hnd
   rw[hsp,List.append_assoc,List.cons_append] at hnd
   have hlk:=look_nodup hnd
   simp only at hlk
   have k1:=find_none hlk 0
   have hmk:=mKeys_nil_or (num (fun i (s:Tx)=>(s,(W+i,(0:Int)))) 0 (ps.take i'))
   have hsn:=mpO_snoc thR gm (num (fun i (s:Tx)=>(s,(W+i,(0:Int)))) 0 (ps.take i')) (s,(W+((0+i':Nat):Int),(0:Int)))
   have hadd:IntKind.i64.wrap (W+i')=W+i':=wrap64 (by omega) (by omega)
   have hadd2:IntKind.i64.wrap (W+ps.length+i')=W+ps.length+i':=wrap64 (by omega) (by omega)
   have hq:=H7'
   clear H7'
   unfold mpO at hq
   obtain⟨ks,hks⟩: ∃ks,mKeys (num (fun i (s:Tx)=>(s,(W+i,(0:Int)))) 0 (ps.take i'))=ks:=⟨_,rfl⟩
   obtain⟨ag,hag⟩: ∃ag,(!(num (fun i (s:Tx)=>(s,(W+i,(0:Int)))) 0 (ps.take i')).isEmpty)=ag:=⟨_,rfl⟩
   obtain⟨rs,hrs⟩: ∃rs,mRows thR (num (fun i (s:Tx)=>(s,(W+i,(0:Int)))) 0 (ps.take i'))=rs:=⟨_,rfl⟩
   rw[hks] at hmk k1 hq hsn
   rw[hag] at hmk hq
   rw[hrs] at hq hsn
   have HS:=Lib.hid hsn
   have HT:=Lib.hid hnt
   clear hks hag hrs hlk hnd hsp hsn hnt hg hlt'
   repeat' (first|(refine ZN ?_)|(refine Z2 ?_ ?_)|(intro h h';try simp[*,-h] at h'))
   have hsn:=HS.out
   have hnt:=HT.out
   exact⟨ps.length - (i'+1),by omega,i'+1,by omega,by omega,by simp[*],by simp[*],by simp[*],by simp[*],by simp[*],by simp[*],by simp[*],by simp[*],by simp[*],by simp[*],by simp[*],by simp[*],by simp[*],by simp[*],by simp[*],by simp[*],by simp[*],by simp[*],by simp[*],by simp[*],by simp[*],by rw[hnt,hsn];simp[*,thR,Int.add_assoc]⟩
  have e2': ¬(i':Int)<ps.length:=by omega
  have hz':ps.take i'=ps:=List.take_of_length_le (by omega)
  rw[hz'] at H7'
  clear hz'
  repeat' (first|(refine ZN ?_)|(refine Z2 ?_ ?_)|(intro h h';try simp[*,-h] at h'))
  refine W_loopS (n:=ls.length) (fun s0 m2 z=> ∃i:Nat,ls.length - i≤m2∧i≤ls.length∧z.fr 1= .ptr ⟨0,1,0⟩ 1 0∧z.fr 2= .ptr ⟨0,2,0⟩ 1 0∧z.fr 5= .dmp ob ok or_∧z.fr 7= .ptr ⟨0,7,0⟩ 1 0∧z.fr 28= .sl false 5 (fs.map Fu.row)∧z.fr 29=iv fs.length∧z.fr 30=iv j∧z.fr 6=iv (W)∧z.fr 9= .ptr ⟨0,9,0⟩ g9 0∧z.fr 10= .ptr ⟨0,10,0⟩ g10 0∧z.fr 11=iv ((ps.length:Int)+ls.length)∧z.fr 61= .sl false 1 (txRows ls)∧z.fr 62=iv ls.length∧z.fr 63=iv i∧z.hp ⟨0,1,0⟩= .box 1 [.sl false 1 (txRows vs),.sl false 2 (arRows ar),.sl false 5 (fs.map Fu.row)] false∧z.hp ⟨0,2,0⟩= .box 1 [iv 0,.own ⟨0,2,2⟩ 1 0] false∧z.hp ⟨0,2,2⟩= .arr 1 5 163 [] false∧z.hp ⟨0,7,0⟩= .box 1 [iv 0,.own ⟨0,7,2⟩ g (S).length] false∧z.hp ⟨0,7,2⟩= .arr g 5 163 ((S).map Cf.row) false∧z.hp ⟨0,9,0⟩= .box g9 [tz t1.val,.sl false 1 (txRows ps),.sl false 1 (txRows ls),bz t4,.sl false 5 (stRows t5)] false∧z.hp ⟨0,10,0⟩= .box g10 [.dmp ob ok or_,.mp ⟨0,35,0⟩ gm] false∧z.hp ⟨0,35,0⟩=mpO thR gm (num (fun i (s:Tx)=>(s,(W+i,(0:Int)))) 0 ps++num (fun i (s:Tx)=>(s,(W+i,(0:Int)))) ps.length (ls.take i))) ⟨0,by omega,by omega,by simp[*],by simp[*],by simp[*],by simp[*],by simp[*],by simp[*],by simp[*],by simp[*],by simp[*],by simp[*],by simp[*],by simp[*],by simp[*],by simp[*],by simp[*],by simp[*],by simp[*],by simp[*],by simp[*],by simp[*],by simp[*],(by first|(simp[*,num];done)|(simp[*,num];rfl))⟩ ?_
  rintro m2'' ⟨fr'',hp''⟩ ⟨i'',hm2'',hi'',F1'',F2'',F5'',F7'',F28'',F29'',F30'',F6'',F9'',F10'',F11'',F61'',F62'',F63'',H0'',H1'',H2'',H3'',H4'',H5'',H6'',H7''⟩
  simp only at F1'' F2'' F5'' F7'' F28'' F29'' F30'' F6'' F9'' F10'' F11'' F61'' F62'' F63'' H0'' H1'' H2'' H3'' H4'' H5'' H6'' H7''
  clear F1' F2' F5' F7' F28' F29' F30' F6' F9' F10' F11' F45' F46' F47' H0' H1' H2' H3' H4' H5' H6' H7'
  by_cases hlt'':i''<ls.length
  ·have e2:(i'':Int)<ls.length:=by omega
   have hg:ls[i'']?=some ls[i'']:=List.getElem?_eq_getElem hlt''
   have hwi:IntKind.i64.wrap ((i'':Int)+1)=(i'':Int)+1:=wrapN (by omega)
   generalize ls[i'']=s at*
   have hgt2:=tx_get hg
   have hnt:=num_take (fun i (s:Tx)=>(s,(W+i,(0:Int)))) ps.length ls i'' hg
   have hsp:=num_split (fun i (s:Tx)=>(s,(W+i,(0:Int)))) ls ps.length i'' hg
   have hnd:=HND.out
   unfold coInL at hnd
   simp only[num_app,Nat.zero_add] at hnd
   rw[hsp,←List.append_assoc] at hnd
   have hlk:=look_nodup hnd
   simp only at hlk
   have k1:=find_none hlk 0
   have hmk:=mKeys_nil_or (num (fun i (s:Tx)=>(s,(W+i,(0:Int)))) 0 ps++num (fun i (s:Tx)=>(s,(W+i,(0:Int)))) ps.length (ls.take i''))
   have hsn:=mpO_snoc thR gm (num (fun i (s:Tx)=>(s,(W+i,(0:Int)))) 0 ps++num (fun i (s:Tx)=>(s,(W+i,(0:Int)))) ps.length (ls.take i'')) (s,(W+((ps.length+i'':Nat):Int),(0:Int)))
   have hadd:IntKind.i64.wrap (W+ps.length)=W+ps.length:=wrap64 (by omega) (by omega)
   have hadd2:IntKind.i64.wrap (W+ps.length+i'')=W+ps.length+i'':=wrap64 (by omega) (by omega)
   have hq:=H7''
   clear H7''
   unfold mpO at hq
   obtain⟨ks,hks⟩: ∃ks,mKeys (num (fun i (s:Tx)=>(s,(W+i,(0:Int)))) 0 ps++num (fun i (s:Tx)=>(s,(W+i,(0:Int)))) ps.length (ls.take i''))=ks:=⟨_,rfl⟩
   obtain⟨ag,hag⟩: ∃ag,(!(num (fun i (s:Tx)=>(s,(W+i,(0:Int)))) 0 ps++num (fun i (s:Tx)=>(s,(W+i,(0:Int)))) ps.length (ls.take i'')).isEmpty)=ag:=⟨_,rfl⟩
   obtain⟨rs,hrs⟩: ∃rs,mRows thR (num (fun i (s:Tx)=>(s,(W+i,(0:Int)))) 0 ps++num (fun i (s:Tx)=>(s,(W+i,(0:Int)))) ps.length (ls.take i''))=rs:=⟨_,rfl⟩
   rw[hks] at hmk k1 hq hsn
   rw[hag] at hmk hq
   rw[hrs] at hq hsn
   have HS:=Lib.hid hsn
   have HT:=Lib.hid hnt
   clear hks hag hrs hlk hnd hsp hsn hnt hg hlt''
   repeat' (first|(refine ZN ?_)|(refine Z2 ?_ ?_)|(intro h h';try simp[*,-h] at h'))
   have hsn:=HS.out
   have hnt:=HT.out
   exact⟨ls.length - (i''+1),by omega,i''+1,by omega,by omega,by simp[*],by simp[*],by simp[*],by simp[*],by simp[*],by simp[*],by simp[*],by simp[*],by simp[*],by simp[*],by simp[*],by simp[*],by simp[*],by simp[*],by simp[*],by simp[*],by simp[*],by simp[*],by simp[*],by simp[*],by simp[*],by rw[hnt,←List.append_assoc,hsn];simp[*,thR,Int.add_assoc]⟩
  have e2'': ¬(i'':Int)<ls.length:=by omega
  have hz'':ls.take i''=ls:=List.take_of_length_le (by omega)
  rw[hz''] at H7''
  clear hz''
  have hcs:=coStmts_w out (num (fun i (s:Tx)=>(s,(W+i,(0:Int)))) 0 ps++num (fun i (s:Tx)=>(s,(W+i,(0:Int)))) ps.length ls) t5 (by omega)
  have hset:setAll (coInL W ⟨t1,ps,ls,t4,t5⟩) []=num (fun i (s:Tx)=>(s,(W+i,(0:Int)))) 0 ps++num (fun i (s:Tx)=>(s,(W+i,(0:Int)))) ps.length ls:=by
   rw[setAll_eq HND.out]
   unfold coInL
   simp only[num_app,Nat.zero_add]
  have hcf:coF out W ⟨t1,ps,ls,t4,t5⟩=⟨ps.length,(ps.length+ls.length:Nat),W,t4,coSs (coFind (num (fun i (s:Tx)=>(s,(W+i,(0:Int)))) 0 ps++num (fun i (s:Tx)=>(s,(W+i,(0:Int)))) ps.length ls) out) t5⟩:=by
   unfold coF
   rw[hset]
   rfl
  have hft:=HF.out
  rw[hcf] at hft
  have HF2:=Lib.hid hft
  have hq:=H7''
  clear hft hcf hset HF H7''
  generalize (num (fun i (s:Tx)=>(s,(W+i,(0:Int)))) 0 ps++num (fun i (s:Tx)=>(s,(W+i,(0:Int)))) ps.length ls)=PF at*
  obtain⟨nb,nk,nr,hn⟩: ∃b k r,mpD thR PF= .dmp b k r:=⟨_,_,_,rfl⟩
  rw[ho,hn] at hcs
  have hq2:mpO thR gm PF= .map gm nb nk nr false:=by
   unfold mpD at hn
   cases hn
   rfl
  rw[hq2] at hq
  generalize coFind PF out=fd at*
  have x3:=cf_take S
  have x4:(csRows (coSs fd t5)).take t5.length=csRows (coSs fd t5):=by rw[List.take_of_length_le (by simp)]
  have hls:=HLS.out
  have x1:(S.length+1)*56≤140737488355328:=by omega
  have x2:S.length≤9223372036854775806:=by omega
  have hww:IntKind.i64.wrap (W+((ps.length:Int)+ls.length))=W+((ps.length:Int)+ls.length):=wrap64 (by omega) (by omega)
  clear hn hq2 hls
  repeat' (first|(refine ZN ?_)|(refine Z2 ?_ ?_)|(intro h h';try simp[*,-h] at h'))
  have hft:=HF2.out
  have hwt:=HWt.out
  have hW2:=HW2.out
  have hls:=HLS.out
  exact⟨fs.length - (j+1),by omega,j+1,g+1,by omega,by omega,by simp[*],by simp[*],by simp[*],by simp[*],by simp[*],by simp[*],by simp[*],by simp[hww];omega,by simp[*],by simp[*],by simp[*],by rw[hft];simp[*],by rw[hft];simp[*,Cf.row]⟩
 have e1: ¬(j:Int)<fs.length:=by omega
 have hz:fs.take j=fs:=List.take_of_length_le (by omega)
 rw[hz] at H3 H4 F6
 repeat' (first|(refine ZN ?_)|(refine Z2 ?_ ?_)|(intro h h';try simp[*,-h] at h'))
 ·rw[if_pos (by omega)]
 ·rw[if_neg (by omega)]
end Go.Proofs.YtpmoibjpjlhcgaaGreatDoor
