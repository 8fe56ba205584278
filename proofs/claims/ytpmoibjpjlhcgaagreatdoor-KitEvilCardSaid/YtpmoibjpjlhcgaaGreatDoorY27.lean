/- A part of the proof: Da, Db, Dc, Dd. -/
import Derived.Test.YtpmoibjpjlhcgaaGreatDoorY26
set_option linter.unusedSimpArgs false
set_option linter.unusedVariables false
set_option maxRecDepth 200000
set_option maxHeartbeats 8000000
namespace Go.Proofs.YtpmoibjpjlhcgaaGreatDoor
open Go Go.Ab Go.Ab.Sy
def TD (q:Nat)(l:List Int)(hp:Hp):Prop:= ∃g rows,hp ⟨0,q,0⟩= .box 1 [.own ⟨0,q,1⟩ g l.length] false/\hp ⟨0,q,1⟩= .arr g 1 3 rows false/\l.length<=rows.length/\rows.take l.length=l.map fun x=>[iv x]
def KD (q:Nat)(hp1 hp2:Hp):Prop:= ∀i c,i≠q->hp2 ⟨0,i,c⟩=hp1 ⟨0,i,c⟩
theorem push_w {d q:Nat}{hp1:Hp}{l:List Int}(x:Int)(ht:TD q l hp1)(hl:l.length<=1048576):HB Tryz.prog E47 (Lm X47) 0 d 174 [.ptr ⟨0,q,0⟩ 1 0,iv x] hp1 (fun v hp2=>v= .tup []/\TD q (l++[x]) hp2/\KD q hp1 hp2) (fun _ _=>False):=by
 refine Af (k1:=1) (PR:=fun _ _=>False) rfl Tryz.func174 (Ak (by decide)) rfl Xe rfl rvs_174 ?_
 obtain⟨g,rows,h1,h2,h3,h4⟩:=ht
 have x1:(l.length+1)*8<=140737488355328:=by omega
 have x2:l.length<=9223372036854775806:=by omega
 by_cases hc:l.length<rows.length
 ·have hm:min l.length rows.length=l.length:=by omega
  repeat' (first|refine ZN ?_|refine Z2 ?_ ?_|(intro h h';try simp[*,-h] at h'))
  exact⟨rfl,⟨g+1+1,_,by simp,by simp;rfl,by simp,by rw[List.take_of_length_le (by simp)];simp⟩,fun i c hi=>by simp[hi]⟩
 ·have hrl:rows.length=l.length:=by omega
  have hrows:rows=l.map fun x=>[iv x]:=by rw[<-h4,List.take_of_length_le (by omega)]
  subst hrows
  clear hrl h3 h4 hc
  repeat' (first|refine ZN ?_|refine Z2 ?_ ?_|(intro h h';try simp[*,-h] at h'))
  exact⟨rfl,⟨g+1,_,by simp,by simp;rfl,by simp,by rw[List.take_of_length_le (by simp)];simp⟩,fun i c hi=>by simp[hi]⟩
theorem size_w {d q:Nat}{hp1:Hp}{l:List Int}(ht:TD q l hp1):HB Tryz.prog E47 (Lm X47) 0 d 175 [.ptr ⟨0,q,0⟩ 1 0] hp1 (fun v hp2=>v=iv l.length/\hp2=hp1) (fun _ _=>False):=by
 refine Af (k1:=1) (PR:=fun _ _=>False) rfl Tryz.func175 (Ak (by decide)) rfl Xd rfl rvs_175 ?_
 obtain⟨g,rows,h1,h2,h3,h4⟩:=ht
 repeat' (first|refine ZN ?_|refine Z2 ?_ ?_|(intro h h';try simp[*,-h] at h'))
 exact⟨rfl,rfl⟩
theorem pop_w {d q:Nat}{hp1:Hp}{l:List Int}{x:Int}(ht:TD q (l++[x]) hp1)(hl:l.length<=1048576):HB Tryz.prog E47 (Lm X47) 0 d 176 [.ptr ⟨0,q,0⟩ 1 0] hp1 (fun v hp2=>v=iv x/\TD q l hp2/\KD q hp1 hp2) (fun _ _=>False):=by
 refine Af (k1:=1) (PR:=fun _ _=>False) rfl Tryz.func176 (Ak (by decide)) rfl Xc rfl rvs_176 ?_
 obtain⟨g,rows,h1,h2,h3,h4⟩:=ht
 have w1:IntKind.i64.wrap (((l++[x]).length:Int) - 1)=l.length:=by rw[Ag (by simp<;>omega) (by simp<;>omega)];simp
 have hg:rows[l.length]?=some [iv x]:=by
  have h5:(rows.take (l++[x]).length)[l.length]?=some [iv x]:=by rw[h4];simp
  rw[List.getElem?_take] at h5
  simpa using h5
 have hlt:(l.length:Int)<(l.length:Int)+1:=by omega
 have wl:IntKind.i64.wrap (l.length:Int)=l.length:=Ag (by omega) (by omega)
 have hll:(l++[x]).length=l.length+1:=by simp
 rw[hll] at h1 h3 h4 w1
 repeat' (first|refine ZN ?_|refine Z2 ?_ ?_|(intro h h';try simp[*,-h] at h'))
 have h5:=congrArg (List.take l.length) h4
 rw[List.take_take,Nat.min_eq_left (by omega),List.map_append,List.take_append_of_le_length (by simp),List.take_of_length_le (l:=List.map _ l) (by simp)] at h5
 exact⟨rfl,⟨g,rows,by simp,by simp[h2],by omega,h5⟩,fun i c hi=>by simp[hi]⟩
end Go.Proofs.YtpmoibjpjlhcgaaGreatDoor
namespace Go.Proofs.YtpmoibjpjlhcgaaGreatDoor
open Go Go.Ab Go.Ab.Sy
theorem Aja (w:Bool):(Lm X47).dat 253 [bv w]=some [iv (cnt w)]:=by
 refine fnW (P:=Tryz.prog) (E:=E47) (X:=X47) Tryz.func253 (An _ _) rfl Vx rfl E4a rvs_253 ?_
 cases w
 all_goals exact ZS
theorem next_w (c:Si)(p:Nat)(hp:p<=1048576):(Lm X47).dat 178 [.agg [iz c.op,iz c.a,iz c.b,uz c.n],iv p]=some [.vec 1 ((succs c p).map fun x=>[iv x])]:=by
 refine fnW (P:=Tryz.prog) (E:=E47) (X:=X47) Tryz.func178 (An _ _) rfl Xa rfl Fea rvs_178 ?_
 have hw:IntKind.i64.wrap ((p:Int)+1)=(p:Int)+1:=wrapN (by omega)
 obtain⟨op,a,b,n⟩:=c
 simp only[succs]
 repeat' (first|refine ZN ?_|refine Z2 ?_ ?_|(intro h h';try simp[*,-h] at h'))
 all_goals simp_all
def SG (sg:List (Nat×Bool))(sfs:List Sf):Prop:= ∀(i p:Nat) (v:Bool),sg[i]?=some (p,v)-> ∃F:Sf,sfs[i]?=some F/\F.params=(p:Int)/\F.word=v
theorem two_eq {x y:Int}{b:Bool}(h:x=y)(hb:b=true):[AV.sc (.int .i64 x),AV.sc (.bool b)]=[iv y,bv true]:=by rw[h,hb]
theorem J0 {l:List Sf}{i:Nat}{f:Sf}(h:l[i]?=some f):(l.map Sf.row)[i]?=some f.row:=by simp[h]
theorem Jta {sg:List (Nat×Bool)}(w0:Int)(sfs:List Sf)(hl:sfs.length<=1048576)(hsg:SG sg sfs)(f:Nat)(F:Sf)(hf:sfs[f]?=some F)(c:Si)(d d2:Nat)(hd:d<=1048576)(h:stepD sg F.word c d=some d2):(Lm X47).dat 177 [.agg [iz w0,.sl false 5 (sfs.map Sf.row)],iv f,.agg [iz c.op,iz c.a,iz c.b,uz c.n],iv d]=some [iv d2,bv true]:=by
 refine fnW (P:=Tryz.prog) (E:=E47) (X:=X47) Tryz.func177 (An _ _) rfl Xb rfl Ffa rvs_177 ?_
 have w0':IntKind.i64.wrap (d:Int)=d:=Ag (by omega) (by omega)
 have w1:IntKind.i64.wrap ((d:Int) - 1)=(d:Int) - 1:=Ag (by omega) (by omega)
 have w2:IntKind.i64.wrap ((d:Int) - 2)=(d:Int) - 2:=Ag (by omega) (by omega)
 have w3:IntKind.i64.wrap ((d:Int)+1)=(d:Int)+1:=Ag (by omega) (by omega)
 have w4:IntKind.i64.wrap ((d:Int) - 2+1)=(d:Int) - 2+1:=Ag (by omega) (by omega)
 have hfl:f<sfs.length:=(List.getElem?_eq_some_iff.1 hf).1
 have hrow:=J0 hf
 have hfi:(f:Int)<sfs.length:=by omega
 clear hf hfl
 obtain⟨F1,F2,F3,F4,F5⟩:=F
 obtain⟨op,a,b,n⟩:=c
 simp only[Sf.row] at hrow
 simp only at h⊢
 have cw:=Aja F4
 obtain(rfl|rfl|rfl|rfl|rfl|rfl|rfl|rfl|rfl|rfl|rfl|rfl|rfl|hop):op=1\/op=2\/op=3\/op=4\/op=5\/op=6\/op=7\/op=8\/op=9\/op=12\/op=13\/op=11\/op=10\/(op≠1/\op≠2/\op≠3/\op≠4/\op≠5/\op≠6/\op≠7/\op≠8/\op≠9/\op≠10/\op≠11/\op≠12/\op≠13):=by omega
 rotate_right
 ·exfalso
  unfold stepD at h
  simp only at h
  rw[if_neg (by omega),if_neg (by omega),if_neg (by omega),if_neg (by omega),if_neg (by omega),if_neg (by omega),if_neg (by omega),if_neg (by omega)] at h
  cases h
 rotate_right
 ·unfold stepD at h
  simp at h
  obtain⟨ha,h⟩:=h
  obtain⟨j,rfl⟩: ∃j:Nat,a=j:=⟨a.toNat,by omega⟩
  simp only[Int.toNat_natCast] at h
  split at h
  ·rename_i ps v hj
   obtain⟨G,hG,hp1,hp2⟩:=hsg j ps v hj
   have hjl:j<sfs.length:=(List.getElem?_eq_some_iff.1 hG).1
   have hrow2:=J0 hG
   have hji:(j:Int)<sfs.length:=by omega
   have hji2: ¬(sfs.length:Int)<=j:=by omega
   obtain⟨G1,G2,G3,G4,G5⟩:=G
   simp only[Sf.row] at hrow2
   simp only at hp1 hp2
   subst hp1 hp2
   have cw2:=Aja G4
   split at h
   ·rename_i hpd
    cases h
    have hpd2:(ps:Int)<=d:=by omega
    have w5:IntKind.i64.wrap ((d:Int) - ps)=(d:Int) - ps:=Ag (by omega) (by omega)
    have w6:IntKind.i64.wrap ((d:Int) - ps+cnt G4)=(d:Int) - ps+cnt G4:=by cases G4<;>(simp[cnt];exact Ag (by omega) (by omega))
    have hps0: ¬(ps:Int)<0:=by omega
    clear hG hjl hj hsg hpd
    repeat' (first|refine ZN ?_|refine Z2 ?_ ?_|(intro h h';try simp[*,-h] at h'))
    all_goals refine two_eq ?_ ?_
    all_goals first|rfl|(simp;omega)|(rw[w6];omega)
   ·cases h
  ·cases h
 rotate_right
 ·clear w0' w1 w2 w3 w4
  cases F4
  ·have h1:d=0/\d2=0:=by simp[stepD,cnt] at h;omega
   obtain⟨rfl,rfl⟩:=h1
   simp only[cnt] at cw
   clear h
   repeat' (first|refine ZN ?_|refine Z2 ?_ ?_|(intro h h';try simp[*,-h] at h'))
   all_goals simp
  ·have h1:d=1/\d2=0:=by simp[stepD,cnt] at h;omega
   obtain⟨rfl,rfl⟩:=h1
   simp only[cnt] at cw
   clear h
   repeat' (first|refine ZN ?_|refine Z2 ?_ ?_|(intro h h';try simp[*,-h] at h'))
   all_goals simp
 all_goals have HS:=Lib.hid h
 all_goals clear h
 repeat' (first|refine ZN ?_|refine Z2 ?_ ?_|(intro h h';try simp[*,-h] at h'))
 all_goals have h:=HS.out
 all_goals simp[stepD] at h
 all_goals refine two_eq ?_ ?_
 all_goals first
  |rfl
  |omega
  |(simp;omega)
  |((repeat rw[wrapD _ (by omega) (by omega)]);omega)
end Go.Proofs.YtpmoibjpjlhcgaaGreatDoor
namespace Go.Proofs.YtpmoibjpjlhcgaaGreatDoor
open Go Go.Ab Go.Ab.Sy
abbrev ir (l:List Int):List (List AV):=l.map fun x=>[iv x]
theorem B4 {l:List Int}{i:Nat}{x:Int}(h:l[i]?=some x):(ir l)[i]?=some [iv x]:=by simp[h]
theorem Mt (l:List Int)(i:Nat)(x:Int):(ir l).set i [iv x]=ir (l.set i x):=by simp[ir,List.map_set]
theorem Eja {sg:List (Nat×Bool)}{w:Bool}{c:Si}{d d2:Nat}(h:stepD sg w c d=some d2):d2<=d+1:=by
 unfold stepD at h
 repeat' split at h
 all_goals first
  |(cases h;done)
  |(cases h;omega)
  |(rename_i v _ _;cases h;cases v<;>simp[cnt]<;>omega)
def uns (l:List Int):Nat:=l.countP fun x=>decide (x<0)
theorem Yx : ∀{l:List Int} {i:Nat} {x y:Int},l[i]?=some x->x<0->0<=y->uns (l.set i y)+1=uns l
 |a::l,0,x,y,h,hx,hy=>by
  simp only[List.getElem?_cons_zero,Option.some.injEq] at h
  subst h
  have h1: ¬y<0:=by omega
  simp[uns,hx,h1]
 |a::l,i+1,x,y,h,hx,hy=>by
  have:=Yx (l:=l) (i:=i) (x:=x) (y:=y) (by simpa using h) hx hy
  simp only[uns,List.set_cons_succ,List.countP_cons] at this⊢
  omega
theorem uns_le (l:List Int):uns l<=l.length:=List.countP_le_length
structure DI (D:Nat->Nat)(n:Nat)(ds todo:List Int):Prop where
 len:ds.length=n
 val: ∀(i:Nat) (x:Int),ds[i]?=some x->x= -1\/(x=D i/\D i+uns ds<=n)
 tod: ∀t∈todo,∃i:Nat,t=i/\ds[i]?=some (D i:Int)
theorem DI.pop {D:Nat->Nat}{n:Nat}{ds l:List Int}{x:Int}(h:DI D n ds (l++[x])):DI D n ds l:=⟨h.len,h.val,fun t ht=>h.tod t (List.mem_append_left _ ht)⟩
theorem DI.add {D:Nat->Nat}{n:Nat}{ds l:List Int}{q d2:Nat}(h:DI D n ds l)(hq:ds[q]?=some (-1))(hd:D q=d2)(hu:d2+uns ds<=n+1):DI D n (ds.set q d2) (l++[(q:Int)])/\uns (ds.set q (d2:Int))+1=uns ds:=by
 have hs:=Yx (y:=(d2:Int)) hq (by omega) (by omega)
 have hql:q<ds.length:=(List.getElem?_eq_some_iff.1 hq).1
 refine⟨⟨by rw[List.length_set];exact h.len,fun i x hi=>?_,fun t ht=>?_⟩,hs⟩
 ·rw[List.getElem?_set] at hi
  split at hi
  ·rename_i e
   subst e
   cases hi
   right
   exact⟨by rw[hd],by omega⟩
  ·rcases h.val i x hi with h1|⟨h1,h2⟩
   ·exact .inl h1
   ·exact .inr ⟨h1,by omega⟩
 ·rcases List.mem_append.1 ht with ht|ht
  ·obtain⟨i,rfl,hi⟩:=h.tod t ht
   refine⟨i,rfl,?_⟩
   rw[List.getElem?_set]
   split
   ·rename_i e
    subst e
    rw[hq] at hi
    simp at hi
   ·exact hi
  ·simp only[List.mem_singleton] at ht
   subst ht
   refine⟨q,rfl,?_⟩
   rw[List.getElem?_set,if_pos rfl,if_pos hql,hd]
theorem A7a (c:Si)(p:Nat):(succs c p).length<=2:=by
 unfold succs
 repeat' split
 all_goals simp
theorem Ha (a b c:Int)(w:Bool)(l:List Si):(Sf.mk a b c w l).row=[iz a,iz b,iz c,bz w,.sl false 4 (l.map Si.row)]:=rfl
theorem TD.congr {q:Nat}{l:List Int}{hp hp':Hp}(h:TD q l hp)(he: ∀c,hp' ⟨0,q,c⟩=hp ⟨0,q,c⟩):TD q l hp':=by
 obtain⟨g,rows,h1,h2,h3,h4⟩:=h
 exact⟨g,rows,(he _).trans h1,(he _).trans h2,h3,h4⟩
theorem si_get {l:List Si}{i:Nat}{c:Si}(h:l[i]?=some c):(l.map Si.row)[i]?=some [iz c.op,iz c.a,iz c.b,uz c.n]:=by simp[h,Si.row]
theorem J6a {sg:List (Nat×Bool)}(w0:Int)(sfs:List Sf)(hl:sfs.length<=1048576)(hsg:SG sg sfs)(f:Nat)(F1 F2 F3:Int)(fw:Bool)(code:List Si)(hf:sfs[f]?=some ⟨F1,F2,F3,fw,code⟩)(hn1:1<=code.length)(hn2:code.length<=500000)(D:Nat->Nat)(D0:D 0=0)(hD: ∀(i:Nat) (c:Si),code[i]?=some c-> ∃d2,stepD sg fw c (D i)=some d2/\ ∀j∈succs c i,∃q:Nat,j=q/\q<code.length/\D q=d2): ∃rs,(Lm X47).dat 121 [.agg [iz w0,.sl false 5 (sfs.map Sf.row)],iv f]=some rs/\ ∃ds:List Int,ds.length=code.length/\rs=[.vec 1 (ir ds),bv true]:=by
 refine fnR (P:=Tryz.prog) (E:=E47) (X:=X47) (R:=fun rs=> ∃ds:List Int,ds.length=code.length/\rs=[.vec 1 (ir ds),bv true]) Tryz.func121 (An _ _) rfl Yc rfl Fza rvs_121 ?_
 have hfl:f<sfs.length:=(List.getElem?_eq_some_iff.1 hf).1
 have hrow:=J0 hf
 have hf0: ¬(f:Int)<0:=by omega
 have hfi:(f:Int)<sfs.length:=by omega
 have hfi2: ¬(sfs.length:Int)<=f:=by omega
 rw[Ha] at hrow
 obtain⟨n,hn⟩: ∃n,code.length=n:=⟨_,rfl⟩
 rw[hn] at hn1 hn2 hD
 rw[hn]
 have hcn: ¬(n:Int)=0:=by omega
 have hcn2:n≠0:=by omega
 have hce:code≠[]:=fun h=>by rw[h] at hn;simp at hn;omega
 have hmk:(n:Int)*8<=140737488355328:=by omega
 have hmk2:(n:Int)<=9223372036854775807:=by omega
 have hmk3:n*8<=140737488355328:=by omega
 have hmk4:n<=9223372036854775807:=by omega
 have HF:=Lib.hid hf
 have HD:=Lib.hid hD
 have HSG:=Lib.hid hsg
 clear hf hfl hD hsg
 repeat' (first|refine ZN ?_|refine Z2 ?_ ?_|(intro h h';try simp[*,-h] at h'))
 refine Ah (n:=n) (fun s0 m z=> ∃(j:Nat) (ds:List Int),n - j<=m/\j<=n/\ds.length=n/\(∀k,k<j->ds[k]?=some (-1))/\z.fr 1=iv f/\z.fr 2= .ptr ⟨0,2,0⟩ 1 0/\z.fr 6= .sl false 4 (code.map Si.row)/\z.fr 7= .own ⟨0,42,0⟩ 1 n/\z.hp ⟨0,2,0⟩= .box 1 [iz w0,.sl false 5 (sfs.map Sf.row)] false/\z.fr 44=iv n/\z.fr 45=iv j/\(z.hp ⟨0,9,0⟩).gen=0/\z.hp ⟨0,42,0⟩= .arr 1 1 3 (ir ds) false) ⟨0,List.replicate n 0,by omega,by omega,by simp,fun k hk=>by omega,by simp,by simp,by simp,by simp,by simp,by simp,by simp,by simp,by simp[ir]⟩ ?_
 rintro m ⟨fr,hp⟩ ⟨j,ds,hm,hj,hds,hall,f1,f2,f6,f7,b2,f44,f45,g9,h42⟩
 simp only at f1 f2 f6 f7 b2 f44 f45 g9 h42
 by_cases hlt:j<n
 ·have e1:(j:Int)<n:=by omega
  obtain⟨x,hx⟩: ∃x,ds[j]?=some x:=⟨_,List.getElem?_eq_getElem (by omega)⟩
  have hwj:IntKind.i64.wrap ((j:Int)+1)=(j:Int)+1:=wrapN (by omega)
  have hrl:(ir ds).length=n:=by simp[hds]
  have hget:=B4 hx
  have hset:=Mt ds j (-1)
  have hge: ∀(h:j<(ir ds).length),(ir ds)[j]=[iv x]:=fun h=>by have h3:=hget;rw[List.getElem?_eq_getElem h] at h3;exact Option.some.inj h3
  have hall2: ∀k,k<j+1->(ds.set j (-1))[k]?=some (-1):=by
   intro k hk
   rw[List.getElem?_set]
   split
   ·rename_i e
    subst e
    rw[if_pos (by omega)]
   ·exact hall k (by omega)
  have hds2:(ds.set j (-1)).length=n:=by rw[List.length_set];exact hds
  have HA:=Lib.hid hall2
  have HDS:=Lib.hid hds2
  generalize hR:ir ds=R at*
  generalize hR2:ir (ds.set j (-1))=R2 at*
  clear hall hall2 hds hds2 hx
  have HR2:=Lib.hid hR2
  clear hR hR2
  repeat' (first|refine ZN ?_|refine Z2 ?_ ?_|(intro h h';try simp[*,-h] at h'))
  have hR2:=HR2.out
  exact⟨n - (j+1),by omega,j+1,ds.set j (-1),by omega,by omega,HDS.out,HA.out,by simp[*],by simp[*],by simp[*],by simp[*],by simp[*],by simp[*],by simp[*],by simp[*],by rw[hR2];simp[*]⟩
 have e1: ¬(j:Int)<n:=by omega
 obtain rfl:j=n:=by omega
 have hg0:ds[0]?=some (-1):=hall 0 (by omega)
 have hget:=B4 hg0
 have hset:=Mt ds 0 0
 have hrl:(ir ds).length=j:=by simp[hds]
 have hge: ∀(h:0<(ir ds).length),(ir ds)[0]=[iv (-1)]:=fun h=>by have h3:=hget;rw[List.getElem?_eq_getElem h] at h3;exact Option.some.inj h3
 have hdi0:DI D j ds []:=⟨hds,fun i x hi=> .inl (by have h1:=(List.getElem?_eq_some_iff.1 hi).1;rw[hall i (by omega)] at hi;cases hi;rfl),fun t ht=>by cases ht⟩
 have hul:=uns_le ds
 obtain⟨hdi,hun⟩:=hdi0.add (q:=0) (d2:=0) hg0 D0 (by omega)
 simp only[Int.natCast_zero,List.nil_append] at hdi hun
 have h0n:0<j:=by omega
 have h0i:(0:Int)<j:=by omega
 have HDI:=Lib.hid hdi
 have HUN:=Lib.hid hun
 have HUL:=Lib.hid hul
 have HDS:=Lib.hid hds
 clear hall hg0 hdi0 hdi hun hul hds
 generalize hR:ir ds=R at*
 generalize hR2:ir (ds.set 0 0)=R2 at*
 have HR2:=Lib.hid hR2
 clear hR hR2
 have ht: ∀(hp':Hp) (g:Nat),hp' ⟨0,9,0⟩= .box 1 [.own ⟨0,9,1⟩ g 0] false->hp' ⟨0,9,1⟩= .arr g 1 3 [] false->TD 9 [] hp':=fun hp' g h1 h2=>⟨g,[],h1,h2,by simp,by simp⟩
 repeat' (first|refine ZN ?_|refine Z2 ?_ ?_|(intro h h';try simp[*,-h] at h')|((with_reducible apply Aa (f:=174));(iterate 5 exact Z5);(apply push_w (q:=9) (l:=[]) 0);(focus (apply ht (g:=(hp ⟨0,9,1⟩).gen+1)<;>simp[*]));(focus simp);rotate_left;(rintro _ _ h;exact h.elim);(rintro _ hp2 ⟨rfl,ht2,hk2⟩;have hk3: ∀i c,i≠9->hp2 ⟨0,i,c⟩=_:=hk2;clear ht hk2;have ht:=ht2;clear ht2))|fail)
 have HDI:=HDI.out
 have hdi:=HDI
 have hun:=HUN.out
 have hul:=HUL.out
 rw[show([]++[0]:List Int)=[0] from rfl] at ht
 rw[<-HR2.out] at*
 have hus:uns ds<=j:=by rw[HDS.out] at hul;exact hul
 generalize hds0:ds.set 0 0=ds0 at*
 clear hget hset hrl hge HDI hds0 HUL HDS
 obtain⟨N,hN⟩: ∃N,N=j:=⟨_,rfl⟩
 subst hN
 refine Ah (n:=2*N+1) (fun s0 m z=> ∃(es todo:List Int),DI D N es todo/\2*uns es+todo.length<=m/\2*uns es+todo.length<=2*N+1/\TD 9 todo z.hp/\z.fr 1=iv f/\z.fr 2= .ptr ⟨0,2,0⟩ 1 0/\z.fr 6= .sl false 4 (code.map Si.row)/\z.fr 7= .own ⟨0,42,0⟩ 1 N/\z.hp ⟨0,2,0⟩= .box 1 [iz w0,.sl false 5 (sfs.map Sf.row)] false/\z.fr 9= .ptr ⟨0,9,0⟩ 1 0/\z.hp ⟨0,42,0⟩= .arr 1 1 3 (ir es) false) ⟨ds0,[0],hdi,by simp;omega,by simp;omega,ht,by simp[*],by simp[*],by simp[*],by simp[*],by simp[*],by simp[*],by simp[*]⟩ ?_
 have HUN:=Lib.hid hun
 clear ht hk3 hdi hun hul f1 f2 f6 f7 b2 f44 f45 g9 h42 HR2
 rintro m' ⟨fr',hp'⟩ ⟨es,todo,hdi,hmu,hmb,ht,f1,f2,f6,f7,b2,f9,h42⟩
 simp only at ht f1 f2 f6 f7 b2 f9 h42
 have hel:=hdi.len
 rcases List.eq_nil_or_concat todo with rfl|⟨l,x,hlx⟩
 ·have hrl:(ir es).length=N:=by simp[hel]
  have x3:(ir es).take N=ir es:=by rw[List.take_of_length_le (by simp[hel])]
  have HEL:=Lib.hid hel
  have HDJ:=Lib.hid hdi
  clear hel hdi
  generalize hR:ir es=R at*
  have HR:=Lib.hid hR
  clear hR
  repeat' (first|refine ZN ?_|refine Z2 ?_ ?_|(intro h h';try simp[*,-h] at h')|((with_reducible apply Aa (f:=175));(iterate 5 exact Z5);(apply size_w (q:=9));(exact ht);rotate_left;(rintro _ _ h;exact h.elim);(rintro _ hpS ⟨rfl,rfl⟩))|fail)
  exact⟨es,HEL.out,by rw[HR.out]⟩
 rw[List.concat_eq_append] at hlx
 subst hlx
 obtain⟨i,rfl,hei⟩:=hdi.tod x (by simp)
 have hiN:i<N:=by rw[<-hel];exact(List.getElem?_eq_some_iff.1 hei).1
 obtain⟨c,hc⟩: ∃c,code[i]?=some c:=⟨_,List.getElem?_eq_getElem (by omega)⟩
 obtain⟨d2,hst,hsu⟩:=HD.out i c hc
 have hdb:D i+uns es<=N:=by rcases hdi.val i _ hei with h1|⟨_,h1⟩<;>omega
 have bw:=Jta w0 sfs hl HSG.out f _ HF.out c (D i) d2 (by omega) hst
 have nx:=next_w c i (by omega)
 have hd2:=Eja hst
 have hsl:=A7a c i
 have hci:=si_get hc
 have hxi:=B4 hei
 have hii:(i:Int)<N:=by omega
 have hpos:(0:Int)<(l.length:Int)+1:=by omega
 have hul:=uns_le es
 have hlb:l.length<=1048000:=by simp at hmb;omega
 have hmu2:2*uns es+l.length+1<=m':=by simp at hmu;omega
 have hge: ∀(h:i<(ir es).length),(ir es)[i]=[iv (D i)]:=fun h=>by have h3:=hxi;rw[List.getElem?_eq_getElem h] at h3;exact Option.some.inj h3
 have hrl:(ir es).length=N:=by simp[hel]
 have hcge: ∀(h:i<(code.map Si.row).length),(code.map Si.row)[i]=[iz c.op,iz c.a,iz c.b,uz c.n]:=fun h=>by have h3:=hci;rw[List.getElem?_eq_getElem h] at h3;exact Option.some.inj h3
 generalize succs c i=ss at*
 have HDJ:=Lib.hid hdi.pop
 have HSU:=Lib.hid hsu
 have HX:=Lib.hid hdb
 have HM:=Lib.hid hmu2
 have HLI:=Lib.hid hd2
 have HEL:=Lib.hid hel
 clear hdi hsu hst hc hei hel hmu hmu2 hd2 hdb
 generalize hR:ir es=R at*
 have HR:=Lib.hid hR
 clear hR
 repeat' (first|refine ZN ?_|refine Z2 ?_ ?_|(intro h h';try simp[*,-h] at h')|((with_reducible apply Aa (f:=175));(iterate 5 exact Z5);(apply size_w (q:=9));(exact ht);rotate_left;(rintro _ _ h;exact h.elim);(rintro _ hpS ⟨rfl,rfl⟩))|((with_reducible apply Aa (f:=176));(iterate 5 exact Z5);(apply pop_w (q:=9));(exact ht);(focus omega);rotate_left;(rintro _ _ h;exact h.elim);(rintro _ hp2 ⟨rfl,ht2,hk2⟩;have hk3: ∀i c,i≠9->hp2 ⟨0,i,c⟩=_:=hk2;clear ht hk2;have ht:=ht2;clear ht2))|fail)
 generalize hg79:(hpS ⟨0,79,0⟩).gen+1=g79 at*
 clear hg79
 have hR:=HR.out
 refine Ah (n:=ss.length) (fun s0 m2 z=> ∃(k:Nat) (fs td:List Int),ss.length - k<=m2/\k<=ss.length/\DI D N fs td/\2*uns fs+td.length<=2*uns es+l.length/\uns fs<=uns es/\TD 9 td z.hp/\z.fr 1=iv f/\z.fr 2= .ptr ⟨0,2,0⟩ 1 0/\z.fr 6= .sl false 4 (code.map Si.row)/\z.fr 7= .own ⟨0,42,0⟩ 1 N/\z.hp ⟨0,2,0⟩= .box 1 [iz w0,.sl false 5 (sfs.map Sf.row)] false/\z.fr 9= .ptr ⟨0,9,0⟩ 1 0/\z.hp ⟨0,42,0⟩= .arr 1 1 3 (ir fs) false/\z.fr 11=iv d2/\z.fr 79= .own ⟨0,79,0⟩ g79 ss.length/\z.fr 80=iv ss.length/\z.fr 81=iv k/\z.hp ⟨0,79,0⟩= .arr g79 1 3 (ir ss) false) ⟨0,es,l,by omega,by omega,HDJ.out,by omega,by omega,TD.congr ht (fun c=>by simp),by simp[*],by simp[*],by simp[*],by simp[*],by simp[*],by simp[*],by simp[*],by simp[*],by simp[*],by simp[*],by simp[*],by simp[*]⟩ ?_
 clear ht hk3 f1 f2 f6 f7 b2 f9 h42 hR
 rintro m2 ⟨fr2,hq⟩ ⟨k,fs,td,hm2,hk,hdi,hmu,huf,ht,f1,f2,f6,f7,b2,f9,h42,f11,f79,f80,f81,h79⟩
 simp only at ht f1 f2 f6 f7 b2 f9 h42 f11 f79 f80 f81 h79
 have hmub:2*uns es+l.length<=2*N:=by simp at hmb;omega
 by_cases hlt:k<ss.length
 ·have e2:(k:Int)<ss.length:=by omega
  obtain⟨y,hy⟩: ∃y,ss[k]?=some y:=⟨_,List.getElem?_eq_getElem hlt⟩
  obtain⟨q,rfl,hqN,hDq⟩:=HSU.out y (List.mem_of_getElem? hy)
  have hyg:=B4 hy
  have hwk:IntKind.i64.wrap ((k:Int)+1)=(k:Int)+1:=wrapN (by omega)
  have hssl:(ir ss).length=ss.length:=by simp
  have hsge: ∀(h:k<(ir ss).length),(ir ss)[k]=[iv q]:=fun h=>by have h3:=hyg;rw[List.getElem?_eq_getElem h] at h3;exact Option.some.inj h3
  obtain⟨v,hv⟩: ∃v,fs[q]?=some v:=⟨_,List.getElem?_eq_getElem (by rw[hdi.len];exact hqN)⟩
  have hvg:=B4 hv
  have hfl:(ir fs).length=N:=by simp[hdi.len]
  have hvge: ∀(h:q<(ir fs).length),(ir fs)[q]=[iv v]:=fun h=>by have h3:=hvg;rw[List.getElem?_eq_getElem h] at h3;exact Option.some.inj h3
  have q0: ¬(q:Int)<0:=by omega
  have q1: ¬(N:Int)<=q:=by omega
  have q2:(q:Int)<N:=by omega
  have hval:=hdi.val q v hv
  have hdu:d2+uns fs<=N+1:=by have h1:=HX.out;have h2:=HLI.out;omega
  have hfset:=Mt fs q d2
  have htl:td.length<=1048000:=by omega
  generalize hS:ir ss=SS at*
  generalize hF:ir fs=FF at*
  have HSS:=Lib.hid hS
  have HFF:=Lib.hid hF
  have HK3:=Lib.hid hdi
  have HV:=Lib.hid hv
  have HDQ:=Lib.hid hDq
  clear hS hF hdi hv hy hDq
  rcases hval with rfl|⟨rfl,_⟩
  ·obtain⟨hdn,hun⟩:=(HK3.out).add HV.out HDQ.out hdu
   have HDN:=Lib.hid hdn
   have HUN2:=Lib.hid hun
   clear hdn hun
   generalize hF2:ir (fs.set q d2)=FF2 at*
   have HFF2:=Lib.hid hF2
   clear hF2
   repeat' (first|refine ZN ?_|refine Z2 ?_ ?_|(intro h h';try simp[*,-h] at h')|((with_reducible apply Aa (f:=174));(iterate 5 exact Z5);(apply push_w (q:=9) q);(focus (refine TD.congr ht ?_;intro c;simp));(focus ((try simp);omega));rotate_left;(rintro _ _ h;exact h.elim);(rintro _ hp2 ⟨rfl,ht2,hk2⟩;have hk3: ∀i c,i≠9->hp2 ⟨0,i,c⟩=_:=hk2;clear ht hk2;have ht:=ht2;clear ht2))|fail)
   have hss:=HSS.out
   have hff:=HFF2.out
   have hun:=HUN2.out
   exact⟨ss.length - (k+1),by omega,k+1,fs.set q d2,td++[(q:Int)],by omega,by omega,HDN.out,by simp;omega,by omega,ht,by simp[*],by simp[*],by simp[*],by simp[*],by simp[*],by simp[*],by simp[*],by simp[*],by simp[*],by simp[*],by simp[*],by simp[*]⟩
  ·have hdq:=HDQ.out
   have hv0: ¬((D q:Nat):Int)<0:=by omega
   have hv1:(0:Int)<=((D q:Nat):Int):=by omega
   have hv2: ¬(d2:Int)<0:=by omega
   have hv3:(0:Int)<=(d2:Int):=by omega
   repeat' (first|refine ZN ?_|refine Z2 ?_ ?_|(intro h h';try simp[*,-h] at h'))
   have hss:=HSS.out
   have hff:=HFF.out
   exact⟨ss.length - (k+1),by omega,k+1,fs,td,by omega,by omega,HK3.out,by omega,by omega,ht,by simp[*],by simp[*],by simp[*],by simp[*],by simp[*],by simp[*],by simp[*],by simp[*],by simp[*],by simp[*],by simp[*],by simp[*]⟩
 have e2: ¬(k:Int)<ss.length:=by omega
 have HK3:=Lib.hid hdi
 clear hdi
 generalize hF:ir fs=FF at*
 have HFF:=Lib.hid hF
 clear hF
 repeat' (first|refine ZN ?_|refine Z2 ?_ ?_|(intro h h';try simp[*,-h] at h'))
 have hff:=HFF.out
 exact⟨2*uns es+l.length,by have h1:=HM.out;omega,fs,td,HK3.out,by omega,by omega,ht,by simp[*],by simp[*],by simp[*],by simp[*],by simp[*],by simp[*],by simp[*]⟩
end Go.Proofs.YtpmoibjpjlhcgaaGreatDoor
namespace Go.Proofs.YtpmoibjpjlhcgaaGreatDoor
open Go Go.Ab Go.Ab.Sy
abbrev dr (l:List (List Int)):List (List AV):=l.map fun d=>[.sl false 1 (ir d)]
theorem Pz (l:List Int):(ir l).take l.length=ir l:=by rw[List.take_of_length_le (by simp)]
theorem dr_take (l:List (List Int)):(dr l).take l.length=dr l:=by rw[List.take_of_length_le (by simp)]
theorem Gla {sg:List (Nat×Bool)}(w0:Int)(sfs:List Sf)(hl:sfs.length<=1000)(hsg:SG sg sfs)(hall: ∀(i:Nat) (F:Sf),sfs[i]?=some F->1<=F.code.length/\F.code.length<=500000/\ ∃D:Nat->Nat,D 0=0/\ ∀(i:Nat) (c:Si),F.code[i]?=some c-> ∃d2,stepD sg F.word c (D i)=some d2/\ ∀j∈succs c i,∃q:Nat,j=q/\q<F.code.length/\D q=d2): ∃rs,(Lm X47).dat 85 [.agg [iz w0,.sl false 5 (sfs.map Sf.row)]]=some rs/\ ∃(dss:List (List Int)) (bk bs:List Int) (data:Int),dss.length=sfs.length/\bk.length=sfs.length/\bs.length=sfs.length/\(∀(i:Nat) (F:Sf),sfs[i]?=some F-> ∃ds,dss[i]?=some ds/\ds.length=F.code.length)/\rs=[.agg [.vec 1 (dr dss),.vec 1 (ir bk),.vec 1 (ir bs),iv data]]:=by
 refine fnR (P:=Tryz.prog) (E:=E47) (X:=X47) (R:=fun rs=> ∃(dss:List (List Int)) (bk bs:List Int) (data:Int),dss.length=sfs.length/\bk.length=sfs.length/\bs.length=sfs.length/\(∀(i:Nat) (F:Sf),sfs[i]?=some F-> ∃ds,dss[i]?=some ds/\ds.length=F.code.length)/\rs=[.agg [.vec 1 (dr dss),.vec 1 (ir bk),.vec 1 (ir bs),iv data]]) Tryz.func85 (An _ _) rfl Cwa rfl rtys_85 rvs_85 ?_
 obtain⟨n,hn⟩: ∃n,sfs.length=n:=⟨_,rfl⟩
 have HA:=Lib.hid hall
 have HSG:=Lib.hid hsg
 clear hall hsg
 repeat' (first|refine ZN ?_|refine Z2 ?_ ?_|(intro h h';try simp[*,-h] at h'))
 generalize IntKind.i64.wrap ((n:Int) - 1)=last at*
 refine Ah (n:=n) (fun s0 m z=> ∃(j ga gb gc:Nat) (dss:List (List Int)) (bk bs:List Int) (data:Int),n - j<=m/\j<=n/\dss.length=j/\bk.length=j/\bs.length=j/\(∀(i:Nat) (F:Sf),i<j->sfs[i]?=some F-> ∃ds,dss[i]?=some ds/\ds.length=F.code.length)/\z.fr 1= .ptr ⟨0,1,0⟩ 1 0/\z.fr 2= .ptr ⟨0,2,0⟩ 1 0/\z.fr 3= .ptr ⟨0,3,0⟩ 1 0/\z.fr 4=iv last/\z.fr 19= .sl false 5 (sfs.map Sf.row)/\z.fr 20=iv n/\z.fr 21=iv j/\z.hp ⟨0,1,0⟩= .box 1 [iz w0,.sl false 5 (sfs.map Sf.row)] false/\z.hp ⟨0,2,0⟩= .box 1 [.own ⟨0,2,1⟩ 1 0,.own ⟨0,2,2⟩ 1 0,.own ⟨0,2,3⟩ 1 0,iv 0] false/\z.hp ⟨0,2,1⟩= .arr 1 1 27 [] false/\z.hp ⟨0,2,2⟩= .arr 1 1 3 [] false/\z.hp ⟨0,2,3⟩= .arr 1 1 3 [] false/\z.hp ⟨0,3,0⟩= .box 1 [.own ⟨0,3,1⟩ ga dss.length,.own ⟨0,3,2⟩ gb bk.length,.own ⟨0,3,3⟩ gc bs.length,iv data] false/\z.hp ⟨0,3,1⟩= .arr ga 1 27 (dr dss) false/\z.hp ⟨0,3,2⟩= .arr gb 1 3 (ir bk) false/\z.hp ⟨0,3,3⟩= .arr gc 1 3 (ir bs) false) ⟨0,2,2,2,[],[],[],w0,by omega,by omega,rfl,rfl,rfl,fun i F h=>by omega,by simp[*],by simp[*],by simp[*],by simp[*],by simp[*],by simp[*],by simp[*],by simp[*],by simp[*],by simp[*],by simp[*],by simp[*],by simp[*],by simp[*],by simp[*],by simp[*]⟩ ?_
 rintro m ⟨fr,hp⟩ ⟨j,ga,gb,gc,dss,bk,bs,data,hm,hj,hdl,hbk,hbs,hin,Q0,Q1,Q2,Q3,Q4,Q5,Q6,Q7,Q8,Q9,Q10,Q11,Q12,Q13,Q14,Q15⟩
 simp only at Q0 Q1 Q2 Q3 Q4 Q5 Q6 Q7 Q8 Q9 Q10 Q11 Q12 Q13 Q14 Q15
 have HIN:=Lib.hid hin
 clear hin
 by_cases hlt:j<n
 ·have e1:(j:Int)<n:=by omega
  obtain⟨F,hF⟩: ∃F,sfs[j]?=some F:=⟨_,List.getElem?_eq_getElem (by omega)⟩
  have hwj:IntKind.i64.wrap ((j:Int)+1)=(j:Int)+1:=wrapN (by omega)
  obtain⟨hc1,hc2,D,D0,hD⟩:=HA.out j F hF
  obtain⟨_,hdw,ds,hds,rfl⟩:=J6a w0 sfs (by omega) HSG.out j F.params F.slots F.first F.word F.code hF hc1 hc2 D D0 hD
  have x1:(dss.length+1)*24<=140737488355328:=by omega
  have x2:dss.length<=9223372036854775806:=by omega
  have x3:=dr_take dss
  have x4:=Pz ds
  have y1:(bk.length+1)*8<=140737488355328:=by omega
  have y2:bk.length<=9223372036854775806:=by omega
  have y3:=Pz bk
  have z1:(bs.length+1)*8<=140737488355328:=by omega
  have z2:bs.length<=9223372036854775806:=by omega
  have z3:=Pz bs
  have HDL:=Lib.hid hdl
  have HBK:=Lib.hid hbk
  have HBS:=Lib.hid hbs
  have hdb:ds.length<=500000:=by omega
  have HDS:=Lib.hid hds
  have HF:=Lib.hid hF
  clear hdl hbk hbs hds hF hc1 hc2 hD
  repeat' (first|refine ZN ?_|refine Z2 ?_ ?_|(intro h h';try simp[*,-h] at h'))
  ·refine Ah (n:=ds.length) (fun s0 m z=> ∃(k gl:Nat) (x:Int),ds.length - k<=m/\k<=ds.length/\z.fr 1= .ptr ⟨0,1,0⟩ 1 0/\z.fr 2= .ptr ⟨0,2,0⟩ 1 0/\z.fr 3= .ptr ⟨0,3,0⟩ 1 0/\z.fr 4=iv last/\z.fr 19= .sl false 5 (sfs.map Sf.row)/\z.fr 20=iv n/\z.fr 21=iv j/\z.hp ⟨0,1,0⟩= .box 1 [iz w0,.sl false 5 (sfs.map Sf.row)] false/\z.hp ⟨0,2,0⟩= .box 1 [.own ⟨0,2,1⟩ 1 0,.own ⟨0,2,2⟩ 1 0,.own ⟨0,2,3⟩ 1 0,iv 0] false/\z.hp ⟨0,2,1⟩= .arr 1 1 27 [] false/\z.hp ⟨0,2,2⟩= .arr 1 1 3 [] false/\z.hp ⟨0,2,3⟩= .arr 1 1 3 [] false/\z.hp ⟨0,3,0⟩= .box 1 [.own ⟨0,3,1⟩ (ga+1) (dss.length+1),.own ⟨0,3,2⟩ (gb+1) (bk.length+1),.own ⟨0,3,3⟩ (gc+1) (bs.length+1),iv (IntKind.i64.wrap (data+1))] false/\z.hp ⟨0,3,1⟩= .arr (ga+1) 1 27 (dr dss++[[.sl false 1 (ir ds)]]) false/\z.hp ⟨0,3,2⟩= .arr (gb+1) 1 3 (ir bk++[[iv data]]) false/\z.hp ⟨0,3,3⟩= .arr (gc+1) 1 3 (ir bs++[[iv (IntKind.i64.wrap (data+1))]]) false/\z.fr 8=iv x/\z.fr 57= .own ⟨0,27,1000⟩ gl ds.length/\z.fr 58=iv ds.length/\z.fr 59=iv k/\z.hp ⟨0,27,1000⟩= .arr gl 1 3 (ir ds) true) ⟨0,(hp ⟨0,27,1000⟩).gen+1,0,by omega,by omega,by simp[*],by simp[*],by simp[*],by simp[*],by simp[*],by simp[*],by simp[*],by simp[*],by simp[*],by simp[*],by simp[*],by simp[*],by simp[*],by simp[*],by simp[*],by simp[*],by simp,by simp,by simp,by simp,by simp⟩ ?_
   clear Q0 Q1 Q2 Q3 Q4 Q5 Q6 Q7 Q8 Q9 Q10 Q11 Q12 Q13 Q14 Q15
   rintro m2 ⟨fr2,hp2⟩ ⟨k,gl,x,hm2,hk,Q0,Q1,Q2,Q3,Q4,Q5,Q6,Q7,Q8,Q9,Q10,Q11,Q12,Q13,Q14,Q15,R1,R2,R3,R4,R5⟩
   simp only at Q0 Q1 Q2 Q3 Q4 Q5 Q6 Q7 Q8 Q9 Q10 Q11 Q12 Q13 Q14 Q15 R1 R2 R3 R4 R5
   by_cases hlk:k<ds.length
   ·have u1:(k:Int)<ds.length:=by omega
    obtain⟨y,hy⟩: ∃y,ds[k]?=some y:=⟨_,List.getElem?_eq_getElem hlk⟩
    have hyg:=B4 hy
    have hwk:IntKind.i64.wrap ((k:Int)+1)=(k:Int)+1:=wrapN (by omega)
    have hssl:(ir ds).length=ds.length:=by simp
    have hsge: ∀(h:k<(ir ds).length),(ir ds)[k]=[iv y]:=fun h=>by have h3:=hyg;rw[List.getElem?_eq_getElem h] at h3;exact Option.some.inj h3
    generalize hS:ir ds=SS at*
    have HSS:=Lib.hid hS
    clear hS hy
    repeat' (first|refine ZN ?_|refine Z2 ?_ ?_|(intro h h';try simp[*,-h] at h'))
    have hss:=HSS.out
    exact⟨ds.length - (k+1),by omega,k+1,gl,_,by omega,by omega,by simp[*],by simp[*],by simp[*],by simp[*],by simp[*],by simp[*],by simp[*],by simp[*],by simp[*],by simp[*],by simp[*],by simp[*],by simp[*],by simp[*],by simp[*],by simp[*],by simp;rfl,by simp[*],by simp[*],by simp[*],by simp[*]⟩
   ·have u1: ¬(k:Int)<ds.length:=by omega
    repeat' (first|refine ZN ?_|refine Z2 ?_ ?_|(intro h h';try simp[*,-h] at h'))
    have hdl:=HDL.out
    have hbk:=HBK.out
    have hbs:=HBS.out
    refine⟨n - (j+1),by omega,j+1,ga+1,gb+1,gc+1,dss++[ds],bk++[data],bs++[(IntKind.i64.wrap (data+1))],_,by omega,by omega,by simp[hdl],by simp[hbk],by simp[hbs],?_,by first|(simp[*];done)|(simp[*];rw[Ag (by omega) (by omega)]),by first|(simp[*];done)|(simp[*];rw[Ag (by omega) (by omega)]),by first|(simp[*];done)|(simp[*];rw[Ag (by omega) (by omega)]),by first|(simp[*];done)|(simp[*];rw[Ag (by omega) (by omega)]),by first|(simp[*];done)|(simp[*];rw[Ag (by omega) (by omega)]),by first|(simp[*];done)|(simp[*];rw[Ag (by omega) (by omega)]),by first|(simp[*];done)|(simp[*];rw[Ag (by omega) (by omega)]),by first|(simp[*];done)|(simp[*];rw[Ag (by omega) (by omega)]),by first|(simp[*];done)|(simp[*];rw[Ag (by omega) (by omega)]),by first|(simp[*];done)|(simp[*];rw[Ag (by omega) (by omega)]),by first|(simp[*];done)|(simp[*];rw[Ag (by omega) (by omega)]),by first|(simp[*];done)|(simp[*];rw[Ag (by omega) (by omega)]),by simp[hdl,hbk,hbs];rfl,by simp[*],by simp[*],by simp[*]⟩
    intro i G hi hG
    have hin:=HIN.out
    have hff:=HF.out
    have hds:=HDS.out
    rcases Nat.lt_or_ge i j with h1|h1
    ·obtain⟨d3,h3,h4⟩:=hin i G h1 hG
     exact⟨d3,by rw[List.getElem?_append_left (by omega)];exact h3,h4⟩
    ·have h2:i=j:=by omega
     subst h2
     rw[hff] at hG
     cases hG
     exact⟨ds,by simp[hdl],hds⟩
  ·refine Ah (n:=ds.length) (fun s0 m z=> ∃(k gl:Nat) (x:Int),ds.length - k<=m/\k<=ds.length/\z.fr 1= .ptr ⟨0,1,0⟩ 1 0/\z.fr 2= .ptr ⟨0,2,0⟩ 1 0/\z.fr 3= .ptr ⟨0,3,0⟩ 1 0/\z.fr 4=iv last/\z.fr 19= .sl false 5 (sfs.map Sf.row)/\z.fr 20=iv n/\z.fr 21=iv j/\z.hp ⟨0,1,0⟩= .box 1 [iz w0,.sl false 5 (sfs.map Sf.row)] false/\z.hp ⟨0,2,0⟩= .box 1 [.own ⟨0,2,1⟩ 1 0,.own ⟨0,2,2⟩ 1 0,.own ⟨0,2,3⟩ 1 0,iv 0] false/\z.hp ⟨0,2,1⟩= .arr 1 1 27 [] false/\z.hp ⟨0,2,2⟩= .arr 1 1 3 [] false/\z.hp ⟨0,2,3⟩= .arr 1 1 3 [] false/\z.hp ⟨0,3,0⟩= .box 1 [.own ⟨0,3,1⟩ (ga+1) (dss.length+1),.own ⟨0,3,2⟩ (gb+1) (bk.length+1),.own ⟨0,3,3⟩ (gc+1) (bs.length+1),iv data] false/\z.hp ⟨0,3,1⟩= .arr (ga+1) 1 27 (dr dss++[[.sl false 1 (ir ds)]]) false/\z.hp ⟨0,3,2⟩= .arr (gb+1) 1 3 (ir bk++[[iv data]]) false/\z.hp ⟨0,3,3⟩= .arr (gc+1) 1 3 (ir bs++[[iv data]]) false/\z.fr 8=iv x/\z.fr 57= .own ⟨0,27,1000⟩ gl ds.length/\z.fr 58=iv ds.length/\z.fr 59=iv k/\z.hp ⟨0,27,1000⟩= .arr gl 1 3 (ir ds) true) ⟨0,(hp ⟨0,27,1000⟩).gen+1,0,by omega,by omega,by simp[*],by simp[*],by simp[*],by simp[*],by simp[*],by simp[*],by simp[*],by simp[*],by simp[*],by simp[*],by simp[*],by simp[*],by simp[*],by simp[*],by simp[*],by simp[*],by simp,by simp,by simp,by simp,by simp⟩ ?_
   clear Q0 Q1 Q2 Q3 Q4 Q5 Q6 Q7 Q8 Q9 Q10 Q11 Q12 Q13 Q14 Q15
   rintro m2 ⟨fr2,hp2⟩ ⟨k,gl,x,hm2,hk,Q0,Q1,Q2,Q3,Q4,Q5,Q6,Q7,Q8,Q9,Q10,Q11,Q12,Q13,Q14,Q15,R1,R2,R3,R4,R5⟩
   simp only at Q0 Q1 Q2 Q3 Q4 Q5 Q6 Q7 Q8 Q9 Q10 Q11 Q12 Q13 Q14 Q15 R1 R2 R3 R4 R5
   by_cases hlk:k<ds.length
   ·have u1:(k:Int)<ds.length:=by omega
    obtain⟨y,hy⟩: ∃y,ds[k]?=some y:=⟨_,List.getElem?_eq_getElem hlk⟩
    have hyg:=B4 hy
    have hwk:IntKind.i64.wrap ((k:Int)+1)=(k:Int)+1:=wrapN (by omega)
    have hssl:(ir ds).length=ds.length:=by simp
    have hsge: ∀(h:k<(ir ds).length),(ir ds)[k]=[iv y]:=fun h=>by have h3:=hyg;rw[List.getElem?_eq_getElem h] at h3;exact Option.some.inj h3
    generalize hS:ir ds=SS at*
    have HSS:=Lib.hid hS
    clear hS hy
    repeat' (first|refine ZN ?_|refine Z2 ?_ ?_|(intro h h';try simp[*,-h] at h'))
    have hss:=HSS.out
    exact⟨ds.length - (k+1),by omega,k+1,gl,_,by omega,by omega,by simp[*],by simp[*],by simp[*],by simp[*],by simp[*],by simp[*],by simp[*],by simp[*],by simp[*],by simp[*],by simp[*],by simp[*],by simp[*],by simp[*],by simp[*],by simp[*],by simp;rfl,by simp[*],by simp[*],by simp[*],by simp[*]⟩
   ·have u1: ¬(k:Int)<ds.length:=by omega
    repeat' (first|refine ZN ?_|refine Z2 ?_ ?_|(intro h h';try simp[*,-h] at h'))
    have hdl:=HDL.out
    have hbk:=HBK.out
    have hbs:=HBS.out
    refine⟨n - (j+1),by omega,j+1,ga+1,gb+1,gc+1,dss++[ds],bk++[data],bs++[data],_,by omega,by omega,by simp[hdl],by simp[hbk],by simp[hbs],?_,by first|(simp[*];done)|(simp[*];rw[Ag (by omega) (by omega)]),by first|(simp[*];done)|(simp[*];rw[Ag (by omega) (by omega)]),by first|(simp[*];done)|(simp[*];rw[Ag (by omega) (by omega)]),by first|(simp[*];done)|(simp[*];rw[Ag (by omega) (by omega)]),by first|(simp[*];done)|(simp[*];rw[Ag (by omega) (by omega)]),by first|(simp[*];done)|(simp[*];rw[Ag (by omega) (by omega)]),by first|(simp[*];done)|(simp[*];rw[Ag (by omega) (by omega)]),by first|(simp[*];done)|(simp[*];rw[Ag (by omega) (by omega)]),by first|(simp[*];done)|(simp[*];rw[Ag (by omega) (by omega)]),by first|(simp[*];done)|(simp[*];rw[Ag (by omega) (by omega)]),by first|(simp[*];done)|(simp[*];rw[Ag (by omega) (by omega)]),by first|(simp[*];done)|(simp[*];rw[Ag (by omega) (by omega)]),by simp[hdl,hbk,hbs];rfl,by simp[*],by simp[*],by simp[*]⟩
    intro i G hi hG
    have hin:=HIN.out
    have hff:=HF.out
    have hds:=HDS.out
    rcases Nat.lt_or_ge i j with h1|h1
    ·obtain⟨d3,h3,h4⟩:=hin i G h1 hG
     exact⟨d3,by rw[List.getElem?_append_left (by omega)];exact h3,h4⟩
    ·have h2:i=j:=by omega
     subst h2
     rw[hff] at hG
     cases hG
     exact⟨ds,by simp[hdl],hds⟩
 have e1: ¬(j:Int)<n:=by omega
 obtain rfl:j=n:=by omega
 repeat' (first|refine ZN ?_|refine Z2 ?_ ?_|(intro h h';try simp[*,-h] at h'))
 refine⟨dss,bk,bs,data,by omega,by omega,by omega,fun i F hF=>?_,rfl⟩
 exact HIN.out i F (by rw[<-hn];exact(List.getElem?_eq_some_iff.1 hF).1) hF
end Go.Proofs.YtpmoibjpjlhcgaaGreatDoor
