/- A part of the proof: Ea, Eb, Ec, Ed, Ee, Ef. -/
import Derived.Test.YtpmoibjpjlhcgaaGreatDoorY27
set_option linter.unusedSimpArgs false
set_option linter.unusedVariables false
set_option maxRecDepth 200000
set_option maxHeartbeats 8000000
namespace Go.Proofs.YtpmoibjpjlhcgaaGreatDoor
open Go Go.Ab Go.Ab.Sy
abbrev I4 :=Int×Int×Int×Int
abbrev I3 :=Int×Int×Int
abbrev inr (l:List I4):List (List AV):=l.map fun x=>[iv x.1,iv x.2.1,iv x.2.2.1,iv x.2.2.2]
abbrev hor (l:List I3):List (List AV):=l.map fun x=>[iv x.1,iv x.2.1,iv x.2.2]
theorem Bf {P:Program}{E:Cfg}{k:Nat}{call:Orc}{all:Array Oper}{st}{fs:List Foot}{Q}{d:Nat}(hg:all[0]?.bind (·.dst)=some d)(hf:Gg all fs.reverse=true)(q:Q st):Wd P E k call all [] st fs Q:=A7 hf q
theorem Bl {l:List I4}{n:Nat}(h:l.length=n):(inr l).take n=inr l:=by subst h;rw[List.take_of_length_le (by simp)]
theorem Hha (l:List I3):(hor l).take l.length=hor l:=by rw[List.take_of_length_le (by simp)]
def InsOk (sfs:List Sf)(F:Sf)(c:Si):Prop:=(∃o:Nat,c.op=o/\1<=o/\o<=13)/\(c.op=10-> ∃(a:Nat) (G:Sf),c.a=a/\sfs[a]?=some G)/\(c.op=8\/c.op=9-> ∃q:Nat,c.a=q/\q<F.code.length)
structure GP where
 w:Int
 n:Nat
 sfs:List Sf
 dss:List (List Int)
 bk:List Int
 bs:List Int
 data:Int
 g1:Nat
 g2:Nat
 g3:Nat
 ge:Nat
 gp:Nat
 hn:sfs.length=n
 hd:dss.length=n
 hk:bk.length=n
 hs:bs.length=n
 n1:1<=n
 n2:n<=1000
 hF: ∀(i:Nat) (F:Sf),sfs[i]?=some F->F.code.length<=500000/\(∃p s fi:Nat,F.params=p/\p<=1000/\F.slots=s/\s<=1000000000/\F.first=fi/\fi<=1000000000)/\(∃ds,dss[i]?=some ds/\ds.length=F.code.length)/\ ∀(j:Nat) (c:Si),F.code[j]?=some c->InsOk sfs F c
def HoK (P:GP)(N:Nat)(x:I3):Prop:= ∃(a f:Nat) (F:Sf),x.1=a/\a<N/\x.2.1=f/\P.sfs[f]?=some F/\(x.2.2<0\/ ∃q:Nat,x.2.2=q/\q<F.code.length)
theorem HoK.mono {P:GP}{N M:Nat}{x:I3}(h:HoK P N x)(hm:N<=M):HoK P M x:=by
 obtain⟨a,f,F,h1,h2,h3,h4,h5⟩:=h
 exact⟨a,f,F,h1,by omega,h3,h4,h5⟩
def GT (P:GP)(f dep:Int)(dn:Nat->Prop)(N M:Nat)(hp:Hp):Prop:= ∃(gc gh:Nat) (c:List I4) (hl:List I3) (en:List Int) (cells:List AV),c.length=N/\hl.length<=M/\en.length=P.n/\cells.length=P.n/\(∀x∈hl,HoK P M x)/\
 hp ⟨0,29,0⟩= .box 1 [iv P.w,.sl false 5 (P.sfs.map Sf.row),.own ⟨0,29,3⟩ P.g1 P.n,.own ⟨0,29,4⟩ P.g2 P.n,.own ⟨0,29,5⟩ P.g3 P.n,iv P.data,.own ⟨0,29,7⟩ gc N,.own ⟨0,29,8⟩ P.ge P.n,.bsl ⟨0,27,0⟩ P.gp 1 0 P.n,.own ⟨0,29,10⟩ gh hl.length,iv f,iv dep] false/\hp ⟨0,29,3⟩= .arr P.g1 1 27 (dr P.dss) false/\hp ⟨0,29,4⟩= .arr P.g2 1 3 (ir P.bk) false/\hp ⟨0,29,5⟩= .arr P.g3 1 3 (ir P.bs) false/\
 hp ⟨0,29,7⟩= .arr gc 4 118 (inr c) false/\hp ⟨0,29,8⟩= .arr P.ge 1 3 (ir en) false/\hp ⟨0,29,10⟩= .arr gh 3 230 (hor hl) false/\hp ⟨0,27,0⟩= .box P.gp cells false/\
 ∀(i:Nat) (F:Sf),P.sfs[i]?=some F->dn i-> ∃(g:Nat) (l:List Int),cells[i]?=some (.own ⟨0,27,i+1⟩ g F.code.length)/\l.length=F.code.length/\hp ⟨0,27,i+1⟩= .arr g 1 3 (ir l) false
def KG (D:Nat)(hp1 hp2:Hp):Prop:= ∀d i c,d<=D->(d≠0\/(i≠27/\i≠29))->hp2 ⟨d,i,c⟩=hp1 ⟨d,i,c⟩
theorem GT.congr {P:GP}{f dep:Int}{dn:Nat->Prop}{N M:Nat}{hp hp':Hp}(h:GT P f dep dn N M hp)(he: ∀i c,i=27\/i=29->hp' ⟨0,i,c⟩=hp ⟨0,i,c⟩):GT P f dep dn N M hp':=by
 obtain⟨gc,gh,c,hl,en,cells,hcN,hhl,hen,hce,hho,b0,b3,b4,b5,b7,b8,b10,q0,hpl⟩:=h
 refine⟨gc,gh,c,hl,en,cells,hcN,hhl,hen,hce,hho,?_,?_,?_,?_,?_,?_,?_,?_,fun i F hF hd=>?_⟩
 all_goals first
  |(rw[he _ _ (by simp)];assumption)
  |(obtain⟨g,l,h1,h2,h3⟩:=hpl i F hF hd;exact⟨g,l,h1,h2,by rw[he _ _ (by simp)];exact h3⟩)
theorem GT.up {P:GP}{f dep:Int}{dn:Nat->Prop}{N M M':Nat}{hp:Hp}(h:GT P f dep dn N M hp)(hm:M<=M'):GT P f dep dn N M' hp:=by
 obtain⟨gc,gh,c,hl,en,cells,hcN,hhl,hen,hce,hho,b0,b3,b4,b5,b7,b8,b10,q0,hpl⟩:=h
 exact⟨gc,gh,c,hl,en,cells,hcN,by omega,hen,hce,fun x hx=>(hho x hx).mono hm,b0,b3,b4,b5,b7,b8,b10,q0,hpl⟩
theorem KG.refl (D:Nat)(hp:Hp):KG D hp hp:=fun _ _ _ _ _=>rfl
theorem KG.step {D D':Nat}{hp1 hpA hpB hp2:Hp}(h:KG D hp1 hpA)(h2:KG D' hpB hp2)(hd:D<=D')(he: ∀d i c,d<=D->hpB ⟨d,i,c⟩=hpA ⟨d,i,c⟩):KG D hp1 hp2:=fun d i c hd' n1=>(h2 d i c (by omega) n1).trans ((he d i c hd').trans (h d i c hd' n1))
theorem KG.own {D:Nat}{hp1 hp2:Hp}(h:KG D hp1 hp2)(hD:D≠0): ∀i c,hp2 ⟨D,i,c⟩=hp1 ⟨D,i,c⟩:=fun i c=>h D i c (Nat.le_refl _) (Or.inl hD)
theorem eput_g {d k N M:Nat}{hp1:Hp}{P:GP}{f dep:Int}{dn:Nat->Prop}{a b x y:Int}(hcs:GT P f dep dn N M hp1)(hN:N<=4000000000000):HB Tryz.prog E47 (Lm X47) k d 123 [.ptr ⟨0,29,0⟩ 1 0,iv a,iv b,iv x,iv y] hp1 (fun v hp2=>v= .tup []/\GT P f dep dn (N+1) M hp2/\KG k hp1 hp2) (fun _ _=>False):=by
 refine Af (k1:=k+1) (PR:=fun _ _=>False) rfl Tryz.func123 (Ak (by decide)) rfl Ya rfl rvs_123 ?_
 obtain⟨gc,gh,c,hl,en,cells,hcN,hhl,hen,hce,hho,b0,b3,b4,b5,b7,b8,b10,q0,hpl⟩:=hcs
 have tkc:=Bl hcN
 have HHO:=Lib.hid hho
 have HPL:=Lib.hid hpl
 have HEN:=Lib.hid hen
 have HCE:=Lib.hid hce
 clear hho hpl hen hce
 have x1:(N+1)*32<=140737488355328:=by omega
 have x2:N<=9223372036854775806:=by omega
 repeat' (first|refine ZN ?_|refine Z2 ?_ ?_|(intro h h';try simp[*,-h] at h'))
 refine⟨rfl,⟨gc+1,gh,c++[(a,b,x,y)],hl,en,cells,by simp[hcN],by omega,HEN.out,HCE.out,HHO.out,by simp[*],by simp[*],by simp[*],by simp[*],by simp[*],by simp[*],by simp[*],by simp[*],fun i F hF hd=>?_⟩,fun d i c hd n1=>?_⟩
 ·obtain⟨g,l,h1,h2,h3⟩:=HPL.out i F hF hd
  exact⟨g,l,h1,h2,by simp[*]⟩
 ·have hd2:d≠k+1:=by omega
  by_cases hd0:d=0
  ·subst hd0
   have n2:i≠29:=by omega
   simp[*]
  ·simp[*]
end Go.Proofs.YtpmoibjpjlhcgaaGreatDoor
namespace Go.Proofs.YtpmoibjpjlhcgaaGreatDoor
open Go Go.Ab Go.Ab.Sy
theorem Bm {d k N:Nat}{hp1:Hp}{P:GP}{f dep:Int}{dn:Nat->Prop}{a b x y:Int}(hcs:GT P f dep dn N N hp1)(hN:N<=4000000000000):HB Tryz.prog E47 (Lm X47) k d 123 [.ptr ⟨0,29,0⟩ 1 0,iv a,iv b,iv x,iv y] hp1 (fun v hp2=>v= .tup []/\GT P f dep dn (N+1) (N+1) hp2/\KG k hp1 hp2) (fun _ _=>False):=by
 rcases eput_g (d:=d) (k:=k) (a:=a) (b:=b) (x:=x) (y:=y) hcs hN with⟨v,hp2,h1,h2,h3,h4⟩|⟨_,_,_,_,h⟩
 ·exact Or.inl ⟨v,hp2,h1,h2,h3.up (by omega),h4⟩
 ·exact h.elim
theorem B9 {d k N:Nat}{hp1:Hp}{P:GP}{f dep:Int}{dn:Nat->Prop}{r n:Int}(hcs:GT P f dep dn N N hp1)(hN:N<=3900000000000):HB Tryz.prog E47 (Lm X47) k d 180 [.ptr ⟨0,29,0⟩ 1 0,iv r,uv n] hp1 (fun v hp2=>v= .tup []/\(∃N2,N+1<=N2/\N2<=N+2/\GT P f dep dn N2 N2 hp2)/\KG k hp1 hp2) (fun _ _=>False):=by
 refine Af (k1:=k+1) (PR:=fun _ _=>False) rfl Tryz.func180 (Ak (by decide)) rfl W8 rfl rvs_180 ?_
 have HK:=KG.refl k hp1
 repeat' (first|refine ZN ?_|refine Z2 ?_ ?_|(intro h h';try simp[*,-h] at h')|((with_reducible apply Aa (f:=123));(iterate 5 exact Z5);(apply Bm);(focus (refine GT.congr hcs ?_;intro i c hi;simp));(focus (first|omega|((try simp);omega)));rotate_left;(rintro _ _ h;exact h.elim);(rintro _ hp2 ⟨rfl,hcn,hk2⟩;have HKn:=KG.step HK hk2 (by omega) (fun d i c hd=>by simp[Zl hd]);have hO2:=hk2.own (by omega);clear hcs HK;have hcs:=hcn;have HK:=HKn;clear hcn HKn hk2))|fail)
 all_goals exact⟨rfl,⟨_,by omega,by omega,hcs⟩,HK⟩
theorem Lk {d k N:Nat}{hp1:Hp}{P:GP}{f dep:Int}{dn:Nat->Prop}{op r fh pl:Int}(hcs:GT P f dep dn N N hp1)(hN:N<=3900000000000)(hh:HoK P (N+1) ((N:Int),fh,pl)):HB Tryz.prog E47 (Lm X47) k d 190 [.ptr ⟨0,29,0⟩ 1 0,iv op,iv r,iv fh,iv pl] hp1 (fun v hp2=>v= .tup []/\GT P f dep dn (N+1) (N+1) hp2/\KG k hp1 hp2) (fun _ _=>False):=by
 refine Af (k1:=k+1) (PR:=fun _ _=>False) rfl Tryz.func190 (Ak (by decide)) rfl Wv rfl rvs_190 ?_
 obtain⟨gc,gh,c,hl,en,cells,hcN,hhl,hen,hce,hho,b0,b3,b4,b5,b7,b8,b10,q0,hpl⟩:=hcs
 have tkc:=Bl hcN
 have HHO:=Lib.hid hho
 have HPL:=Lib.hid hpl
 have HEN:=Lib.hid hen
 have HCE:=Lib.hid hce
 clear hho hpl hen hce
 have x1:(hl.length+1)*24<=140737488355328:=by omega
 have x2:hl.length<=9223372036854775806:=by omega
 have tkh:=Hha hl
 repeat' (first|((with_reducible apply A7);(apply Ao (ps:=[(0,1),(0,2),(0,3),(0,4),(0,5),(1,5),(2,5),(3,5),(4,5),(0,6),(1,6),(2,6),(3,6),(4,6),(0,7),(1,7),(2,7),(3,7),(4,7),(0,8),(1,8),(2,8),(3,8),(4,8),(0,9),(1,9),(2,9),(3,9),(4,9),(0,10),(1,10),(2,10),(3,10),(4,10),(5,10),(6,10),(7,10),(8,10),(9,10),(0,11),(1,11),(2,11),(3,11),(4,11),(5,11),(6,11),(7,11),(8,11),(9,11),(10,11),(0,12),(1,12),(2,12),(3,12),(4,12),(0,13),(1,13),(2,13),(3,13),(4,13),(0,14)]));kernel_rfl;(iterate 55 refine Zk ?_);(iterate 6 refine Zs ?_);(exact Zz))|(refine Z1 ?_)|(refine Z2 ?_ ?_)|(intro h h';try simp[*,-h] at h')|((with_reducible apply Aa (f:=123));(iterate 5 exact Z5);(apply(eput_g (f:=f) (dep:=dep) (dn:=dn) (P:=P) (N:=N) (M:=N+1)));(focus (refine⟨gc,gh+1,c,hl++[((N:Int),fh,pl)],en,cells,by simp[*],by simp;omega,HEN.out,HCE.out,?_,by simp[*],by simp[*],by simp[*],by simp[*],by simp[*],by simp[*],by simp[*],by simp[*],?_⟩;(focus (intro x hx;rcases List.mem_append.1 hx with h1|h1;(exact(HHO.out x h1).mono (by omega));(simp at h1;subst h1;exact hh)));(focus (intro i F hF hd;obtain⟨g,l,h1,h2,h3⟩:=HPL.out i F hF hd;exact⟨g,l,h1,h2,by simp[*]⟩))));(focus (first|omega|((try simp);omega)));rotate_left;(rintro _ _ h;exact h.elim);(rintro _ hp2 ⟨rfl,hcn,hk2⟩))|fail)
 refine⟨rfl,hcn,fun d i c hd n1=>(hk2 d i c (by omega) n1).trans ?_⟩
 have hd2:d≠k+1:=by omega
 by_cases hd0:d=0
 ·subst hd0
  have n2:i≠29:=by omega
  simp[*]
 ·simp[*]
theorem Ci {d k N fn:Nat}{hp1:Hp}{P:GP}{dep:Int}{dn:Nat->Prop}{r below:Int}(hfn:fn<P.n)(hcs:GT P fn dep dn N N hp1)(hN:N<=3900000000000):HB Tryz.prog E47 (Lm X47) k d 184 [.ptr ⟨0,29,0⟩ 1 0,iv r,iv below] hp1 (fun v hp2=>v= .tup []/\GT P fn dep dn (N+1) (N+1) hp2/\KG k hp1 hp2) (fun _ _=>False):=by
 refine Af (k1:=k+1) (PR:=fun _ _=>False) rfl Tryz.func184 (Ak (by decide)) rfl W4 rfl rvs_184 ?_
 have hcs0:=hcs
 obtain⟨gc,gh,c,hl,en,cells,hcN,hhl,hen,hce,hho,b0,b3,b4,b5,b7,b8,b10,q0,hpl⟩:=hcs0
 have tkc:=Bl hcN
 have HHO:=Lib.hid hho
 have HPL:=Lib.hid hpl
 have HEN:=Lib.hid hen
 have HCE:=Lib.hid hce
 clear hho hpl hen hce
 have hpn:=P.hs
 obtain⟨bv,hbv⟩: ∃bv,P.bs[fn]?=some bv:=⟨_,List.getElem?_eq_getElem (by omega)⟩
 have hbg:=B4 hbv
 have hbl:(ir P.bs).length=P.n:=by simp[P.hs]
 have hbge: ∀(h:fn<(ir P.bs).length),(ir P.bs)[fn]=[iv bv]:=fun h=>by have h3:=hbg;rw[List.getElem?_eq_getElem h] at h3;exact Option.some.inj h3
 have hf1:(fn:Int)<P.n:=by omega
 generalize hS:ir P.bs=SS at*
 have HBV:=Lib.hid hbv
 clear hbv hS hpn
 have hpX:=Bm (d:=26) (k:=k+1) (a:=16) (b:=r) (x:=0) (y:=IntKind.i64.wrap (IntKind.i64.wrap (bv+dep) - below)) hcs (by omega)
 rcases hpX with⟨v,hp2,hcall,rfl,hcn,hk2⟩|⟨_,_,_,_,h⟩
 rotate_left
 ·exact h.elim
 repeat' (first|((with_reducible apply A7);(apply Ao (ps:=[(0,1),(0,2),(1,2),(0,3),(1,3),(0,4),(1,4),(0,5),(1,5),(0,6),(1,6),(0,7),(1,7),(2,7),(3,7),(4,7),(5,7),(6,7),(0,8),(1,8),(2,8),(3,8),(4,8),(5,8),(6,8),(0,9),(1,9),(2,9),(3,9),(4,9),(5,9),(6,9),(0,10),(1,10),(2,10),(3,10),(4,10),(5,10),(6,10),(0,11),(1,11),(0,12),(1,12),(0,13),(1,13),(2,13),(3,13),(4,13),(5,13),(6,13),(7,13),(8,13),(9,13),(10,13),(11,13),(12,13),(0,14),(1,14),(2,14),(3,14),(4,14),(5,14),(6,14),(7,14),(8,14),(9,14),(10,14),(11,14),(12,14),(0,15),(1,15),(2,15),(3,15),(4,15),(5,15),(6,15),(7,15),(8,15),(9,15),(10,15),(11,15),(12,15),(0,16),(1,16),(2,16),(3,16),(4,16),(5,16),(6,16),(7,16),(8,16),(9,16),(10,16),(11,16),(12,16),(0,17),(1,17),(0,18),(1,18),(2,18),(3,18),(4,18),(5,18),(6,18),(7,18),(8,18),(9,18),(10,18),(11,18),(12,18),(13,18),(14,18),(15,18),(16,18),(17,18),(0,19),(1,19)]));kernel_rfl;(iterate 117 refine Zk ?_);(exact Zz))|(refine Z1 ?_)|(refine Z2 ?_ ?_)|(intro h h';try simp[*,-h] at h'))
 exact⟨rfl,hcn,fun d i c hd n1=>hk2 d i c (by omega) n1⟩
theorem Ce {d k N fn:Nat}{hp1:Hp}{P:GP}{dep:Int}{dn:Nat->Prop}{r below:Int}(hfn:fn<P.n)(hcs:GT P fn dep dn N N hp1)(hN:N<=3900000000000):HB Tryz.prog E47 (Lm X47) k d 181 [.ptr ⟨0,29,0⟩ 1 0,iv r,iv below] hp1 (fun v hp2=>v= .tup []/\GT P fn dep dn (N+1) (N+1) hp2/\KG k hp1 hp2) (fun _ _=>False):=by
 refine Af (k1:=k+1) (PR:=fun _ _=>False) rfl Tryz.func181 (Ak (by decide)) rfl W7 rfl rvs_181 ?_
 have hcs0:=hcs
 obtain⟨gc,gh,c,hl,en,cells,hcN,hhl,hen,hce,hho,b0,b3,b4,b5,b7,b8,b10,q0,hpl⟩:=hcs0
 have tkc:=Bl hcN
 have HHO:=Lib.hid hho
 have HPL:=Lib.hid hpl
 have HEN:=Lib.hid hen
 have HCE:=Lib.hid hce
 clear hho hpl hen hce
 have hpn:=P.hs
 obtain⟨bv,hbv⟩: ∃bv,P.bs[fn]?=some bv:=⟨_,List.getElem?_eq_getElem (by omega)⟩
 have hbg:=B4 hbv
 have hbl:(ir P.bs).length=P.n:=by simp[P.hs]
 have hbge: ∀(h:fn<(ir P.bs).length),(ir P.bs)[fn]=[iv bv]:=fun h=>by have h3:=hbg;rw[List.getElem?_eq_getElem h] at h3;exact Option.some.inj h3
 have hf1:(fn:Int)<P.n:=by omega
 generalize hS:ir P.bs=SS at*
 have HBV:=Lib.hid hbv
 clear hbv hS hpn
 have hpX:=Bm (d:=26) (k:=k+1) (a:=17) (b:=r) (x:=0) (y:=IntKind.i64.wrap (IntKind.i64.wrap (bv+dep) - below)) hcs (by omega)
 rcases hpX with⟨v,hp2,hcall,rfl,hcn,hk2⟩|⟨_,_,_,_,h⟩
 rotate_left
 ·exact h.elim
 repeat' (first|((with_reducible apply A7);(apply Ao (ps:=[(0,1),(0,2),(1,2),(0,3),(1,3),(0,4),(1,4),(0,5),(1,5),(0,6),(1,6),(0,7),(1,7),(2,7),(3,7),(4,7),(5,7),(6,7),(0,8),(1,8),(2,8),(3,8),(4,8),(5,8),(6,8),(0,9),(1,9),(2,9),(3,9),(4,9),(5,9),(6,9),(0,10),(1,10),(2,10),(3,10),(4,10),(5,10),(6,10),(0,11),(1,11),(0,12),(1,12),(0,13),(1,13),(2,13),(3,13),(4,13),(5,13),(6,13),(7,13),(8,13),(9,13),(10,13),(11,13),(12,13),(0,14),(1,14),(2,14),(3,14),(4,14),(5,14),(6,14),(7,14),(8,14),(9,14),(10,14),(11,14),(12,14),(0,15),(1,15),(2,15),(3,15),(4,15),(5,15),(6,15),(7,15),(8,15),(9,15),(10,15),(11,15),(12,15),(0,16),(1,16),(2,16),(3,16),(4,16),(5,16),(6,16),(7,16),(8,16),(9,16),(10,16),(11,16),(12,16),(0,17),(1,17),(0,18),(1,18),(2,18),(3,18),(4,18),(5,18),(6,18),(7,18),(8,18),(9,18),(10,18),(11,18),(12,18),(13,18),(14,18),(15,18),(16,18),(17,18),(0,19),(1,19)]));kernel_rfl;(iterate 117 refine Zk ?_);(exact Zz))|(refine Z1 ?_)|(refine Z2 ?_ ?_)|(intro h h';try simp[*,-h] at h'))
 exact⟨rfl,hcn,fun d i c hd n1=>hk2 d i c (by omega) n1⟩
end Go.Proofs.YtpmoibjpjlhcgaaGreatDoor
namespace Go.Proofs.YtpmoibjpjlhcgaaGreatDoor
open Go Go.Ab Go.Ab.Sy
theorem H6a {d k N:Nat}{hp1:Hp}{P:GP}{f dep:Int}{dn:Nat->Prop}{a b:Nat}(ha:a<=10000000000)(hb:b<=10000000000)(hcs:GT P f dep dn N N hp1)(hN:N<=3900000000000):HB Tryz.prog E47 (Lm X47) k d 198 [.ptr ⟨0,29,0⟩ 1 0,iv a,iv b] hp1 (fun v hp2=>v= .tup []/\(∃N2,N+0<=N2/\N2<=N+10/\GT P f dep dn N2 N2 hp2)/\KG k hp1 hp2) (fun _ _=>False):=by
 refine Af (k1:=k+1) (PR:=fun _ _=>False) rfl Tryz.func198 (Ak (by decide)) rfl Wj rfl rvs_198 ?_
 have HK:=KG.refl k hp1
 have hw:IntKind.i64.wrap ((b:Int) - a)=(b:Int) - a:=Ag (by omega) (by omega)
 by_cases h6:(b:Int) - a<=6
 ·obtain⟨n,hn⟩: ∃n,n=b - a:=⟨_,rfl⟩
  repeat' (first|refine ZN ?_|refine Z2 ?_ ?_|(intro h h';try simp[*,-h] at h'))
  refine Ah (n:=n) (fun s0 m z=> ∃j:Nat,n - j<=m/\j<=n/\z.fr 0= .ptr ⟨0,29,0⟩ 1 0/\z.fr 2=iv b/\z.fr 6=iv ((a:Int)+j)/\GT P f dep dn (N+j) (N+j) z.hp/\KG k hp1 z.hp) ⟨0,by omega,by omega,by simp,by simp,by simp,by simpa using hcs,HK⟩ ?_
  rintro m ⟨fr,hp⟩ ⟨j,hm,hj,f0,f2,f6,hcs,HK⟩
  simp only at f0 f2 f6 hcs HK
  rcases (by omega:(a:Int)+j<b\/ ¬(a:Int)+j<b) with hlt|hlt
  ·have hwj:IntKind.i64.wrap ((a:Int)+j+1)=(a:Int)+j+1:=Ag (by omega) (by omega)
   repeat' (first|refine ZN ?_|refine Z2 ?_ ?_|(intro h h';try simp[*,-h] at h')|((with_reducible apply Aa (f:=123));(iterate 5 exact Z5);(apply Bm);(focus (refine GT.congr hcs ?_;intro i c hi;simp));(focus (first|omega|((try simp);omega)));rotate_left;(rintro _ _ h;exact h.elim);(rintro _ hp2 ⟨rfl,hcn,hk2⟩;have HKn:=KG.step HK hk2 (by omega) (fun d i c hd=>by simp[Zl hd]);have hO2:=hk2.own (by omega);clear hcs HK;have hcs:=hcn;have HK:=HKn;clear hcn HKn hk2))|fail)
   exact⟨n - (j+1),by omega,j+1,by omega,by omega,by simp[*],by simp[*],by simp;omega,by simpa[Nat.add_assoc] using hcs,HK⟩
  ·repeat' (first|refine ZN ?_|refine Z2 ?_ ?_|(intro h h';try simp[*,-h] at h'))
   exact⟨rfl,⟨_,by omega,by omega,hcs⟩,HK⟩
 repeat' (first|refine ZN ?_|refine Z2 ?_ ?_|(intro h h';try simp[*,-h] at h')|((with_reducible apply Aa (f:=123));(iterate 5 exact Z5);(apply Bm);(focus (refine GT.congr hcs ?_;intro i c hi;simp));(focus (first|omega|((try simp);omega)));rotate_left;(rintro _ _ h;exact h.elim);(rintro _ hp2 ⟨rfl,hcn,hk2⟩;have HKn:=KG.step HK hk2 (by omega) (fun d i c hd=>by simp[Zl hd]);have hO2:=hk2.own (by omega);clear hcs HK;have hcs:=hcn;have HK:=HKn;clear hcn HKn hk2))|fail)
 have hcs0:=hcs
 obtain⟨gc,gh,c,hl,en,cells,hcN,hhl,hen,hce,hho,b0,b3,b4,b5,b7,b8,b10,q0,hpl⟩:=hcs0
 have tkc:=Bl hcN
 have HHO:=Lib.hid hho
 have HPL:=Lib.hid hpl
 have HEN:=Lib.hid hen
 have HCE:=Lib.hid hce
 clear hho hpl hen hce
 repeat' (first|refine ZN ?_|refine Z2 ?_ ?_|(intro h h';try simp[*,-h] at h')|((with_reducible apply Aa (f:=123));(iterate 5 exact Z5);(apply Bm);(focus (refine GT.congr hcs ?_;intro i c hi;simp));(focus (first|omega|((try simp);omega)));rotate_left;(rintro _ _ h;exact h.elim);(rintro _ hp2 ⟨rfl,hcn,hk2⟩;have HKn:=KG.step HK hk2 (by omega) (fun d i c hd=>by simp[Zl hd]);have hO2:=hk2.own (by omega);clear hcs HK;have hcs:=hcn;have HK:=HKn;clear hcn HKn hk2))|fail)
 exact⟨rfl,⟨_,by omega,by omega,hcs⟩,HK⟩
theorem ecall_w {d k N fn:Nat}{hp1:Hp}{P:GP}{dep:Int}{dn:Nat->Prop}{op b n:Int}{a:Nat}{G:Sf}(hG:P.sfs[a]?=some G)(hfn:fn<P.n)(hcs:GT P fn dep dn N N hp1)(hN:N<=3800000000000):HB Tryz.prog E47 (Lm X47) k d 193 [.ptr ⟨0,29,0⟩ 1 0,.agg [iv op,iv a,iv b,uv n]] hp1 (fun v hp2=>v= .tup []/\(∃N2,N+0<=N2/\N2<=N+2500/\GT P fn dep dn N2 N2 hp2)/\KG k hp1 hp2) (fun _ _=>False):=by
 refine Af (k1:=k+1) (PR:=fun _ _=>False) rfl Tryz.func193 (Ak (by decide)) rfl Ws rfl rvs_193 ?_
 have hcs0:=hcs
 obtain⟨gc,gh,c,hl,en,cells,hcN,hhl,hen,hce,hho,b0,b3,b4,b5,b7,b8,b10,q0,hpl⟩:=hcs0
 have tkc:=Bl hcN
 have HHO:=Lib.hid hho
 have HPL:=Lib.hid hpl
 have HEN:=Lib.hid hen
 have HCE:=Lib.hid hce
 clear hho hpl hen hce
 have HK:=KG.refl k hp1
 obtain⟨_,⟨p,sl,fi,hp_,hpb,hs_,hsb,hf_,hfb⟩,_⟩:=P.hF a G hG
 have hrow:=J0 hG
 have haN:a<P.sfs.length:=(List.getElem?_eq_some_iff.1 hG).1
 have hsn:=P.hn
 have hak:HoK P (N+1000000) ((N:Int),(a:Int),-1):=⟨N,a,G,rfl,by omega,rfl,hG,Or.inl (by show(-1:Int)<0;decide)⟩
 obtain⟨gp_,gs_,gf_,gw_,gc_⟩:=G
 simp only at hp_ hs_ hf_
 subst hp_ hs_ hf_
 rw[Ha] at hrow
 have hge: ∀(h:a<P.sfs.length),(P.sfs[a]).row=[iz p,iz sl,iz fi,bz gw_,.sl false 4 (gc_.map Si.row)]:=fun h=>by have h3:=hrow;simp[h] at h3;exact h3
 have ha1:(a:Int)<P.sfs.length:=by omega
 have HG:=Lib.hid hG
 have HSN:=Lib.hid hsn
 clear hG hsn
 repeat' (first|((with_reducible apply A7);(apply Ao (ps:=[(0,5),(1,5),(2,5),(3,5),(4,5),(0,6),(1,6),(2,6),(3,6),(4,6),(0,9),(1,9),(2,9),(3,9),(4,9),(5,9),(6,9),(7,9),(8,9)]));kernel_rfl;(iterate 10 refine Zk ?_);(iterate 9 refine Zs ?_);(exact Zz))|(refine Z1 ?_)|(refine Z2 ?_ ?_)|(intro h h';try simp[*,-h] at h'))
 refine Ah (n:=p) (fun s0 m z=> ∃(j g3 g4:Nat),p - j<=m/\j<=p/\z.fr 0= .ptr ⟨0,29,0⟩ 1 0/\z.fr 3= .ptr ⟨k+1,3,0⟩ g3 0/\z.fr 4= .ptr ⟨k+1,4,0⟩ g4 0/\z.fr 16=iv p/\z.fr 17=iv j/\GT P fn dep dn (N+2*j) (N+2*j) z.hp/\KG k hp1 z.hp/\z.hp ⟨k+1,3,0⟩= .box g3 [iv op,iv a,iv b,uv n] false/\z.hp ⟨k+1,4,0⟩= .box g4 [iv p,iv sl,iv fi,bz gw_,.sl false 4 (gc_.map Si.row)] false) ⟨0,(hp1 ⟨k+1,3,0⟩).gen+1,(hp1 ⟨k+1,4,0⟩).gen+1,by omega,by omega,by simp,by simp,by simp,by simp,by simp,GT.congr hcs (fun i c h=>by simp),(fun d i c hd n1=>by have hd2:d≠k+1:=(by omega);simp[hd2]),by simp,by simp⟩ ?_
 clear HK hcs hcN hhl b0 b3 b4 b5 b7 b8 b10 q0 tkc
 rintro m ⟨fr,hp⟩ ⟨j,g3,g4,hm,hj,f0,f3,f4,f16,f17,hcs,HK,b3,b4⟩
 simp only at f0 f3 f4 f16 f17 hcs HK b3 b4
 by_cases hlt:j<p
 ·have e1:(j:Int)<p:=by omega
  have hwj:IntKind.i64.wrap ((j:Int)+1)=(j:Int)+1:=wrapN (by omega)
  repeat' (first|refine ZN ?_|refine Z2 ?_ ?_|(intro h h';try simp[*,-h] at h')|((with_reducible apply Aa (f:=184));(iterate 5 exact Z5);(apply Ci);exact hfn;(focus (refine GT.congr hcs ?_;intro i c hi;simp));(focus (first|omega|((try simp);omega)));rotate_left;(rintro _ _ h;exact h.elim);(rintro _ hp2 ⟨rfl,hcn,hk2⟩;have HKn:=KG.step HK hk2 (by omega) (fun d i c hd=>by simp[Zl hd]);have hO2:=hk2.own (by omega);clear hcs HK;have hcs:=hcn;have HK:=HKn;clear hcn HKn hk2))|((with_reducible apply Aa (f:=123));(iterate 5 exact Z5);(apply Bm);(focus (refine GT.congr hcs ?_;intro i c hi;simp));(focus (first|omega|((try simp);omega)));rotate_left;(rintro _ _ h;exact h.elim);(rintro _ hp2 ⟨rfl,hcn,hk2⟩;have HKn:=KG.step HK hk2 (by omega) (fun d i c hd=>by simp[Zl hd]);have hO2:=hk2.own (by omega);clear hcs HK;have hcs:=hcn;have HK:=HKn;clear hcn HKn hk2))|fail)
  exact⟨p - (j+1),by omega,j+1,g3,g4,by omega,by omega,by simp[*],by simp[*],by simp[*],by simp[*],by simp[*],by simpa[Nat.mul_add,Nat.add_assoc] using hcs,HK,by simp[*],by simp[*]⟩
 have e1: ¬(j:Int)<p:=by omega
 cases gw_
 ·repeat' (first|refine ZN ?_|refine Z2 ?_ ?_|(intro h h';try simp[*,-h] at h')|((with_reducible apply Aa (f:=190));(iterate 5 exact Z5);(apply Lk);(focus (refine GT.congr hcs ?_;intro i c hi;simp));(focus (first|omega|((try simp);omega)));(focus (exact⟨_,a,_,rfl,by omega,rfl,HG.out,Or.inl (by show(-1:Int)<0;decide)⟩));rotate_left;(rintro _ _ h;exact h.elim);(rintro _ hp2 ⟨rfl,hcn,hk2⟩;have HKn:=KG.step HK hk2 (by omega) (fun d i c hd=>by simp[Zl hd]);have hO2:=hk2.own (by omega);clear hcs HK;have hcs:=hcn;have HK:=HKn;clear hcn HKn hk2))|fail)
  exact⟨rfl,⟨_,by omega,by omega,hcs⟩,HK⟩
 ·repeat' (first|refine ZN ?_|refine Z2 ?_ ?_|(intro h h';try simp[*,-h] at h')|((with_reducible apply Aa (f:=190));(iterate 5 exact Z5);(apply Lk);(focus (refine GT.congr hcs ?_;intro i c hi;simp));(focus (first|omega|((try simp);omega)));(focus (exact⟨_,a,_,rfl,by omega,rfl,HG.out,Or.inl (by show(-1:Int)<0;decide)⟩));rotate_left;(rintro _ _ h;exact h.elim);(rintro _ hp2 ⟨rfl,hcn,hk2⟩;have HKn:=KG.step HK hk2 (by omega) (fun d i c hd=>by simp[Zl hd]);have hO2:=hk2.own (by omega);clear hcs HK;have hcs:=hcn;have HK:=HKn;clear hcn HKn hk2))|((with_reducible apply Aa (f:=181));(iterate 5 exact Z5);(apply Ce);exact hfn;(focus (refine GT.congr hcs ?_;intro i c hi;simp));(focus (first|omega|((try simp);omega)));rotate_left;(rintro _ _ h;exact h.elim);(rintro _ hp2 ⟨rfl,hcn,hk2⟩;have HKn:=KG.step HK hk2 (by omega) (fun d i c hd=>by simp[Zl hd]);have hO2:=hk2.own (by omega);clear hcs HK;have hcs:=hcn;have HK:=HKn;clear hcn HKn hk2))|fail)
  exact⟨rfl,⟨_,by omega,by omega,hcs⟩,HK⟩
theorem H3a {d k N fn:Nat}{hp1:Hp}{P:GP}{dep:Int}{dn:Nat->Prop}(hfn:fn<P.n)(hcs:GT P fn dep dn N N hp1)(hN:N<=3800000000000):HB Tryz.prog E47 (Lm X47) k d 195 [.ptr ⟨0,29,0⟩ 1 0] hp1 (fun v hp2=>v= .tup []/\(∃N2,N+0<=N2/\N2<=N+10/\GT P fn dep dn N2 N2 hp2)/\KG k hp1 hp2) (fun _ _=>False):=by
 refine Af (k1:=k+1) (PR:=fun _ _=>False) rfl Tryz.func195 (Ak (by decide)) rfl Wm rfl rvs_195 ?_
 have hcs0:=hcs
 obtain⟨gc,gh,c,hl,en,cells,hcN,hhl,hen,hce,hho,b0,b3,b4,b5,b7,b8,b10,q0,hpl⟩:=hcs0
 have tkc:=Bl hcN
 have HHO:=Lib.hid hho
 have HPL:=Lib.hid hpl
 have HEN:=Lib.hid hen
 have HCE:=Lib.hid hce
 clear hho hpl hen hce
 have HK:=KG.refl k hp1
 have hsn:=P.hn
 have hn1:=P.n1
 have hn2:=P.n2
 have hw:IntKind.i64.wrap ((P.n:Int) - 1)=(P.n:Int) - 1:=Ag (by omega) (by omega)
 by_cases hl:fn+1=P.n
 ·have e1:(fn:Int)=(P.n:Int) - 1:=by omega
  repeat' (first|((with_reducible apply Bf (d:=2));exact rfl;(apply Ao (ps:=[(0,4),(1,4),(2,4),(3,4),(0,5),(1,5),(2,5),(3,5),(0,6),(1,6),(2,6),(3,6),(0,7),(1,7),(2,7),(3,7),(0,8),(1,8),(2,8),(3,8),(0,9),(1,9),(2,9),(3,9),(0,10),(1,10),(2,10),(3,10)]));kernel_rfl;(iterate 28 refine Zk ?_);(exact Zz))|(refine Z1 ?_)|(refine Z2 ?_ ?_)|(intro h h';try simp[*,-h] at h')|((with_reducible apply Aa (f:=123));(iterate 5 exact Z5);(apply Bm);(focus (refine GT.congr hcs ?_;intro i c hi;simp));(focus (first|omega|((try simp);omega)));rotate_left;(rintro _ _ h;exact h.elim);(rintro _ hp2 ⟨rfl,hcn,hk2⟩;have HKn:=KG.step HK hk2 (by omega) (fun d i c hd=>by simp[Zl hd]);have hO2:=hk2.own (by omega);clear hcs HK;have hcs:=hcn;have HK:=HKn;clear hcn HKn hk2))|fail)
  exact⟨rfl,⟨_,by omega,by omega,hcs⟩,HK⟩
 have e1: ¬(fn:Int)=(P.n:Int) - 1:=by omega
 obtain⟨G,hG⟩: ∃G,P.sfs[fn]?=some G:=⟨_,List.getElem?_eq_getElem (by omega)⟩
 have hrow:=J0 hG
 obtain⟨gp_,gs_,gf_,gw_,gc_⟩:=G
 rw[Ha] at hrow
 have hge: ∀(h:fn<P.sfs.length),(P.sfs[fn]).row=[iz gp_,iz gs_,iz gf_,bz gw_,.sl false 4 (gc_.map Si.row)]:=fun h=>by have h3:=hrow;simp[h] at h3;exact h3
 clear hG
 cases gw_
 ·repeat' (first|((with_reducible apply Bf (d:=2));exact rfl;(apply Ao (ps:=[(0,4),(1,4),(2,4),(3,4),(0,5),(1,5),(2,5),(3,5),(0,6),(1,6),(2,6),(3,6),(0,7),(1,7),(2,7),(3,7),(0,8),(1,8),(2,8),(3,8),(0,9),(1,9),(2,9),(3,9),(0,10),(1,10),(2,10),(3,10)]));kernel_rfl;(iterate 28 refine Zk ?_);(exact Zz))|((with_reducible apply Bf (d:=16));exact rfl;(apply Ao (ps:=[(0,5),(1,5),(2,5),(3,5),(4,5),(0,6),(1,6),(2,6),(3,6),(4,6),(0,7),(1,7),(2,7),(3,7),(4,7),(0,8),(1,8),(2,8),(3,8),(4,8)]));kernel_rfl;(iterate 20 refine Zk ?_);(exact Zz))|(refine Z1 ?_)|(refine Z2 ?_ ?_)|(intro h h';try simp[*,-h] at h'))
  obtain⟨kv,hkv⟩: ∃kv,P.bk[fn]?=some kv:=⟨_,List.getElem?_eq_getElem (by have:=P.hk;omega)⟩
  have hkg:=B4 hkv
  have hkl:(ir P.bk).length=P.n:=by simp[P.hk]
  have hkge: ∀(h:fn<(ir P.bk).length),(ir P.bk)[fn]=[iv kv]:=fun h=>by have h3:=hkg;rw[List.getElem?_eq_getElem h] at h3;exact Option.some.inj h3
  have hf1:(fn:Int)<P.n:=by omega
  generalize hS:ir P.bk=S at*
  clear hkv hS
  have hpX:=Bm (d:=42) (k:=k+1) (a:=16) (b:=14) (x:=0) (y:=kv) hcs (by omega)
  rcases hpX with⟨v,hp2,hcall,rfl,hcn,hk2⟩|⟨_,_,_,_,h⟩
  rotate_left
  ·exact h.elim
  repeat' (first|((with_reducible apply Bf (d:=30));exact rfl;(apply Ao (ps:=[(0,1),(0,2),(0,3),(0,4),(0,5),(0,6),(1,6),(2,6),(3,6),(4,6),(5,6),(0,7),(1,7),(2,7),(3,7),(4,7),(5,7),(0,8),(1,8),(2,8),(3,8),(4,8),(5,8),(0,9),(1,9),(2,9),(3,9),(4,9),(5,9),(0,10),(0,11)]));kernel_rfl;(iterate 31 refine Zk ?_);(exact Zz))|(refine Z1 ?_)|(refine Z2 ?_ ?_)|(intro h h';try simp[*,-h] at h'))
  have HKn:=KG.step HK hk2 (by omega) (fun d i c hd=>by simp[Zl hd]);have hO2:=hk2.own (by omega);clear hcs HK;have hcs:=hcn;have HK:=HKn;clear hcn HKn hk2
  repeat' (first|refine ZN ?_|refine Z2 ?_ ?_|(intro h h';try simp[*,-h] at h')|((with_reducible apply Aa (f:=123));(iterate 5 exact Z5);(apply Bm);(focus (refine GT.congr hcs ?_;intro i c hi;simp));(focus (first|omega|((try simp);omega)));rotate_left;(rintro _ _ h;exact h.elim);(rintro _ hp2 ⟨rfl,hcn,hk2⟩;have HKn:=KG.step HK hk2 (by omega) (fun d i c hd=>by simp[Zl hd]);have hO2:=hk2.own (by omega);clear hcs HK;have hcs:=hcn;have HK:=HKn;clear hcn HKn hk2))|fail)
  exact⟨rfl,⟨_,by omega,by omega,hcs⟩,HK⟩
 ·repeat' (first|((with_reducible apply Bf (d:=2));exact rfl;(apply Ao (ps:=[(0,4),(1,4),(2,4),(3,4),(0,5),(1,5),(2,5),(3,5),(0,6),(1,6),(2,6),(3,6),(0,7),(1,7),(2,7),(3,7),(0,8),(1,8),(2,8),(3,8),(0,9),(1,9),(2,9),(3,9),(0,10),(1,10),(2,10),(3,10)]));kernel_rfl;(iterate 28 refine Zk ?_);(exact Zz))|((with_reducible apply Bf (d:=16));exact rfl;(apply Ao (ps:=[(0,5),(1,5),(2,5),(3,5),(4,5),(0,6),(1,6),(2,6),(3,6),(4,6),(0,7),(1,7),(2,7),(3,7),(4,7),(0,8),(1,8),(2,8),(3,8),(4,8)]));kernel_rfl;(iterate 20 refine Zk ?_);(exact Zz))|(refine Z1 ?_)|(refine Z2 ?_ ?_)|(intro h h';try simp[*,-h] at h')|((with_reducible apply Aa (f:=184));(iterate 5 exact Z5);(apply Ci);exact hfn;(focus (refine GT.congr hcs ?_;intro i c hi;simp));(focus (first|omega|((try simp);omega)));rotate_left;(rintro _ _ h;exact h.elim);(rintro _ hp2 ⟨rfl,hcn,hk2⟩;have HKn:=KG.step HK hk2 (by omega) (fun d i c hd=>by simp[Zl hd]);have hO2:=hk2.own (by omega);clear hcs HK;have hcs:=hcn;have HK:=HKn;clear hcn HKn hk2))|fail)
  have hcs0:=hcs
  obtain⟨gc,gh,c,hl,en,cells,hcN,hhl,hen,hce,hho,b0,b3,b4,b5,b7,b8,b10,q0,hpl⟩:=hcs0
  have tkc:=Bl hcN
  have HHO:=Lib.hid hho
  have HPL:=Lib.hid hpl
  have HEN:=Lib.hid hen
  have HCE:=Lib.hid hce
  clear hho hpl hen hce
  obtain⟨kv,hkv⟩: ∃kv,P.bk[fn]?=some kv:=⟨_,List.getElem?_eq_getElem (by have:=P.hk;omega)⟩
  have hkg:=B4 hkv
  have hkl:(ir P.bk).length=P.n:=by simp[P.hk]
  have hkge: ∀(h:fn<(ir P.bk).length),(ir P.bk)[fn]=[iv kv]:=fun h=>by have h3:=hkg;rw[List.getElem?_eq_getElem h] at h3;exact Option.some.inj h3
  have hf1:(fn:Int)<P.n:=by omega
  generalize hS:ir P.bk=S at*
  clear hkv hS
  have hpX:=Bm (d:=42) (k:=k+1) (a:=16) (b:=14) (x:=0) (y:=kv) hcs (by omega)
  rcases hpX with⟨v,hp2,hcall,rfl,hcn,hk2⟩|⟨_,_,_,_,h⟩
  rotate_left
  ·exact h.elim
  repeat' (first|((with_reducible apply Bf (d:=30));exact rfl;(apply Ao (ps:=[(0,1),(0,2),(0,3),(0,4),(0,5),(0,6),(1,6),(2,6),(3,6),(4,6),(5,6),(0,7),(1,7),(2,7),(3,7),(4,7),(5,7),(0,8),(1,8),(2,8),(3,8),(4,8),(5,8),(0,9),(1,9),(2,9),(3,9),(4,9),(5,9),(0,10),(0,11)]));kernel_rfl;(iterate 31 refine Zk ?_);(exact Zz))|(refine Z1 ?_)|(refine Z2 ?_ ?_)|(intro h h';try simp[*,-h] at h'))
  have HKn:=KG.step HK hk2 (by omega) (fun d i c hd=>by simp[Zl hd]);have hO2:=hk2.own (by omega);clear hcs HK;have hcs:=hcn;have HK:=HKn;clear hcn HKn hk2
  repeat' (first|refine ZN ?_|refine Z2 ?_ ?_|(intro h h';try simp[*,-h] at h')|((with_reducible apply Aa (f:=123));(iterate 5 exact Z5);(apply Bm);(focus (refine GT.congr hcs ?_;intro i c hi;simp));(focus (first|omega|((try simp);omega)));rotate_left;(rintro _ _ h;exact h.elim);(rintro _ hp2 ⟨rfl,hcn,hk2⟩;have HKn:=KG.step HK hk2 (by omega) (fun d i c hd=>by simp[Zl hd]);have hO2:=hk2.own (by omega);clear hcs HK;have hcs:=hcn;have HK:=HKn;clear hcn HKn hk2))|fail)
  exact⟨rfl,⟨_,by omega,by omega,hcs⟩,HK⟩
end Go.Proofs.YtpmoibjpjlhcgaaGreatDoor
namespace Go.Proofs.YtpmoibjpjlhcgaaGreatDoor
open Go Go.Ab Go.Ab.Sy
theorem em1_w {d k N fn:Nat}{hp1:Hp}{P:GP}{dep:Int}{dn:Nat->Prop}{o a b n:Int}(hfn:fn<P.n)(hcs:GT P fn dep dn N N hp1)(hN:N<=3700000000000):HB Tryz.prog E47 (Lm X47) k d 179 [.ptr ⟨0,29,0⟩ 1 0,.agg [iv o,iv a,iv b,uv n]] hp1 (fun v hp2=>v= .tup []/\(∃N2,N+0<=N2/\N2<=N+2600/\GT P fn dep dn N2 N2 hp2)/\KG k hp1 hp2) (fun _ _=>False):=by
 refine Af (k1:=k+1) (PR:=fun _ _=>False) rfl Tryz.func179 (Ak (by decide)) rfl W9 rfl rvs_179 ?_
 have HK:=KG.refl k hp1
 repeat' (first|refine ZN ?_|refine Z2 ?_ ?_|(intro h h';try simp[*,-h] at h')|((with_reducible apply Aa (f:=123));(iterate 5 exact Z5);(apply Bm);(focus (refine GT.congr hcs ?_;intro i c hi;simp));(focus (first|omega|((try simp);omega)));rotate_left;(rintro _ _ h;exact h.elim);(rintro _ hp2 ⟨rfl,hcn,hk2⟩;have HKn:=KG.step HK hk2 (by omega) (fun d i c hd=>by simp[Zl hd]);have hO2:=hk2.own (by omega);clear hcs HK;have hcs:=hcn;have HK:=HKn;clear hcn HKn hk2))|((with_reducible apply Aa (f:=184));(iterate 5 exact Z5);(apply Ci);exact hfn;(focus (refine GT.congr hcs ?_;intro i c hi;simp));(focus (first|omega|((try simp);omega)));rotate_left;(rintro _ _ h;exact h.elim);(rintro _ hp2 ⟨rfl,hcn,hk2⟩;have HKn:=KG.step HK hk2 (by omega) (fun d i c hd=>by simp[Zl hd]);have hO2:=hk2.own (by omega);clear hcs HK;have hcs:=hcn;have HK:=HKn;clear hcn HKn hk2))|((with_reducible apply Aa (f:=181));(iterate 5 exact Z5);(apply Ce);exact hfn;(focus (refine GT.congr hcs ?_;intro i c hi;simp));(focus (first|omega|((try simp);omega)));rotate_left;(rintro _ _ h;exact h.elim);(rintro _ hp2 ⟨rfl,hcn,hk2⟩;have HKn:=KG.step HK hk2 (by omega) (fun d i c hd=>by simp[Zl hd]);have hO2:=hk2.own (by omega);clear hcs HK;have hcs:=hcn;have HK:=HKn;clear hcn HKn hk2))|((with_reducible apply Aa (f:=180));(iterate 5 exact Z5);(apply B9);(focus (refine GT.congr hcs ?_;intro i c hi;simp));(focus (first|omega|((try simp);omega)));rotate_left;(rintro _ _ h;exact h.elim);(rintro _ hp2 ⟨rfl,⟨N2,hN1,hN2,hcn⟩,hk2⟩;have HKn:=KG.step HK hk2 (by omega) (fun d i c hd=>by simp[Zl hd]);have hO2:=hk2.own (by omega);clear hcs HK;have hcs:=hcn;have HK:=HKn;clear hcn HKn hk2))|fail)
 all_goals exact⟨rfl,⟨_,by omega,by omega,hcs⟩,HK⟩
theorem em2_w {d k N fn:Nat}{hp1:Hp}{P:GP}{dep:Int}{dn:Nat->Prop}{o a b n:Int}(hfn:fn<P.n)(hcs:GT P fn dep dn N N hp1)(hN:N<=3700000000000):HB Tryz.prog E47 (Lm X47) k d 182 [.ptr ⟨0,29,0⟩ 1 0,.agg [iv o,iv a,iv b,uv n]] hp1 (fun v hp2=>v= .tup []/\(∃N2,N+0<=N2/\N2<=N+2600/\GT P fn dep dn N2 N2 hp2)/\KG k hp1 hp2) (fun _ _=>False):=by
 refine Af (k1:=k+1) (PR:=fun _ _=>False) rfl Tryz.func182 (Ak (by decide)) rfl W6 rfl rvs_182 ?_
 have HK:=KG.refl k hp1
 repeat' (first|refine ZN ?_|refine Z2 ?_ ?_|(intro h h';try simp[*,-h] at h')|((with_reducible apply Aa (f:=123));(iterate 5 exact Z5);(apply Bm);(focus (refine GT.congr hcs ?_;intro i c hi;simp));(focus (first|omega|((try simp);omega)));rotate_left;(rintro _ _ h;exact h.elim);(rintro _ hp2 ⟨rfl,hcn,hk2⟩;have HKn:=KG.step HK hk2 (by omega) (fun d i c hd=>by simp[Zl hd]);have hO2:=hk2.own (by omega);clear hcs HK;have hcs:=hcn;have HK:=HKn;clear hcn HKn hk2))|((with_reducible apply Aa (f:=184));(iterate 5 exact Z5);(apply Ci);exact hfn;(focus (refine GT.congr hcs ?_;intro i c hi;simp));(focus (first|omega|((try simp);omega)));rotate_left;(rintro _ _ h;exact h.elim);(rintro _ hp2 ⟨rfl,hcn,hk2⟩;have HKn:=KG.step HK hk2 (by omega) (fun d i c hd=>by simp[Zl hd]);have hO2:=hk2.own (by omega);clear hcs HK;have hcs:=hcn;have HK:=HKn;clear hcn HKn hk2))|((with_reducible apply Aa (f:=181));(iterate 5 exact Z5);(apply Ce);exact hfn;(focus (refine GT.congr hcs ?_;intro i c hi;simp));(focus (first|omega|((try simp);omega)));rotate_left;(rintro _ _ h;exact h.elim);(rintro _ hp2 ⟨rfl,hcn,hk2⟩;have HKn:=KG.step HK hk2 (by omega) (fun d i c hd=>by simp[Zl hd]);have hO2:=hk2.own (by omega);clear hcs HK;have hcs:=hcn;have HK:=HKn;clear hcn HKn hk2))|((with_reducible apply Aa (f:=180));(iterate 5 exact Z5);(apply B9);(focus (refine GT.congr hcs ?_;intro i c hi;simp));(focus (first|omega|((try simp);omega)));rotate_left;(rintro _ _ h;exact h.elim);(rintro _ hp2 ⟨rfl,⟨N2,hN1,hN2,hcn⟩,hk2⟩;have HKn:=KG.step HK hk2 (by omega) (fun d i c hd=>by simp[Zl hd]);have hO2:=hk2.own (by omega);clear hcs HK;have hcs:=hcn;have HK:=HKn;clear hcn HKn hk2))|fail)
 all_goals exact⟨rfl,⟨_,by omega,by omega,hcs⟩,HK⟩
theorem em3_w {d k N fn:Nat}{hp1:Hp}{P:GP}{dep:Int}{dn:Nat->Prop}{o a b n:Int}(hfn:fn<P.n)(hcs:GT P fn dep dn N N hp1)(hN:N<=3700000000000):HB Tryz.prog E47 (Lm X47) k d 183 [.ptr ⟨0,29,0⟩ 1 0,.agg [iv o,iv a,iv b,uv n]] hp1 (fun v hp2=>v= .tup []/\(∃N2,N+0<=N2/\N2<=N+2600/\GT P fn dep dn N2 N2 hp2)/\KG k hp1 hp2) (fun _ _=>False):=by
 refine Af (k1:=k+1) (PR:=fun _ _=>False) rfl Tryz.func183 (Ak (by decide)) rfl W5 rfl rvs_183 ?_
 have HK:=KG.refl k hp1
 repeat' (first|refine ZN ?_|refine Z2 ?_ ?_|(intro h h';try simp[*,-h] at h')|((with_reducible apply Aa (f:=123));(iterate 5 exact Z5);(apply Bm);(focus (refine GT.congr hcs ?_;intro i c hi;simp));(focus (first|omega|((try simp);omega)));rotate_left;(rintro _ _ h;exact h.elim);(rintro _ hp2 ⟨rfl,hcn,hk2⟩;have HKn:=KG.step HK hk2 (by omega) (fun d i c hd=>by simp[Zl hd]);have hO2:=hk2.own (by omega);clear hcs HK;have hcs:=hcn;have HK:=HKn;clear hcn HKn hk2))|((with_reducible apply Aa (f:=184));(iterate 5 exact Z5);(apply Ci);exact hfn;(focus (refine GT.congr hcs ?_;intro i c hi;simp));(focus (first|omega|((try simp);omega)));rotate_left;(rintro _ _ h;exact h.elim);(rintro _ hp2 ⟨rfl,hcn,hk2⟩;have HKn:=KG.step HK hk2 (by omega) (fun d i c hd=>by simp[Zl hd]);have hO2:=hk2.own (by omega);clear hcs HK;have hcs:=hcn;have HK:=HKn;clear hcn HKn hk2))|((with_reducible apply Aa (f:=181));(iterate 5 exact Z5);(apply Ce);exact hfn;(focus (refine GT.congr hcs ?_;intro i c hi;simp));(focus (first|omega|((try simp);omega)));rotate_left;(rintro _ _ h;exact h.elim);(rintro _ hp2 ⟨rfl,hcn,hk2⟩;have HKn:=KG.step HK hk2 (by omega) (fun d i c hd=>by simp[Zl hd]);have hO2:=hk2.own (by omega);clear hcs HK;have hcs:=hcn;have HK:=HKn;clear hcn HKn hk2))|((with_reducible apply Aa (f:=180));(iterate 5 exact Z5);(apply B9);(focus (refine GT.congr hcs ?_;intro i c hi;simp));(focus (first|omega|((try simp);omega)));rotate_left;(rintro _ _ h;exact h.elim);(rintro _ hp2 ⟨rfl,⟨N2,hN1,hN2,hcn⟩,hk2⟩;have HKn:=KG.step HK hk2 (by omega) (fun d i c hd=>by simp[Zl hd]);have hO2:=hk2.own (by omega);clear hcs HK;have hcs:=hcn;have HK:=HKn;clear hcn HKn hk2))|fail)
 all_goals exact⟨rfl,⟨_,by omega,by omega,hcs⟩,HK⟩
theorem em4_w {d k N fn:Nat}{hp1:Hp}{P:GP}{dep:Int}{dn:Nat->Prop}{o a b n:Int}(hfn:fn<P.n)(hcs:GT P fn dep dn N N hp1)(hN:N<=3700000000000):HB Tryz.prog E47 (Lm X47) k d 185 [.ptr ⟨0,29,0⟩ 1 0,.agg [iv o,iv a,iv b,uv n]] hp1 (fun v hp2=>v= .tup []/\(∃N2,N+0<=N2/\N2<=N+2600/\GT P fn dep dn N2 N2 hp2)/\KG k hp1 hp2) (fun _ _=>False):=by
 refine Af (k1:=k+1) (PR:=fun _ _=>False) rfl Tryz.func185 (Ak (by decide)) rfl W0 rfl rvs_185 ?_
 have HK:=KG.refl k hp1
 repeat' (first|refine ZN ?_|refine Z2 ?_ ?_|(intro h h';try simp[*,-h] at h')|((with_reducible apply Aa (f:=123));(iterate 5 exact Z5);(apply Bm);(focus (refine GT.congr hcs ?_;intro i c hi;simp));(focus (first|omega|((try simp);omega)));rotate_left;(rintro _ _ h;exact h.elim);(rintro _ hp2 ⟨rfl,hcn,hk2⟩;have HKn:=KG.step HK hk2 (by omega) (fun d i c hd=>by simp[Zl hd]);have hO2:=hk2.own (by omega);clear hcs HK;have hcs:=hcn;have HK:=HKn;clear hcn HKn hk2))|((with_reducible apply Aa (f:=184));(iterate 5 exact Z5);(apply Ci);exact hfn;(focus (refine GT.congr hcs ?_;intro i c hi;simp));(focus (first|omega|((try simp);omega)));rotate_left;(rintro _ _ h;exact h.elim);(rintro _ hp2 ⟨rfl,hcn,hk2⟩;have HKn:=KG.step HK hk2 (by omega) (fun d i c hd=>by simp[Zl hd]);have hO2:=hk2.own (by omega);clear hcs HK;have hcs:=hcn;have HK:=HKn;clear hcn HKn hk2))|((with_reducible apply Aa (f:=181));(iterate 5 exact Z5);(apply Ce);exact hfn;(focus (refine GT.congr hcs ?_;intro i c hi;simp));(focus (first|omega|((try simp);omega)));rotate_left;(rintro _ _ h;exact h.elim);(rintro _ hp2 ⟨rfl,hcn,hk2⟩;have HKn:=KG.step HK hk2 (by omega) (fun d i c hd=>by simp[Zl hd]);have hO2:=hk2.own (by omega);clear hcs HK;have hcs:=hcn;have HK:=HKn;clear hcn HKn hk2))|((with_reducible apply Aa (f:=180));(iterate 5 exact Z5);(apply B9);(focus (refine GT.congr hcs ?_;intro i c hi;simp));(focus (first|omega|((try simp);omega)));rotate_left;(rintro _ _ h;exact h.elim);(rintro _ hp2 ⟨rfl,⟨N2,hN1,hN2,hcn⟩,hk2⟩;have HKn:=KG.step HK hk2 (by omega) (fun d i c hd=>by simp[Zl hd]);have hO2:=hk2.own (by omega);clear hcs HK;have hcs:=hcn;have HK:=HKn;clear hcn HKn hk2))|fail)
 all_goals exact⟨rfl,⟨_,by omega,by omega,hcs⟩,HK⟩
theorem em5_w {d k N fn:Nat}{hp1:Hp}{P:GP}{dep:Int}{dn:Nat->Prop}{o a b n:Int}(hfn:fn<P.n)(hcs:GT P fn dep dn N N hp1)(hN:N<=3700000000000):HB Tryz.prog E47 (Lm X47) k d 186 [.ptr ⟨0,29,0⟩ 1 0,.agg [iv o,iv a,iv b,uv n]] hp1 (fun v hp2=>v= .tup []/\(∃N2,N+0<=N2/\N2<=N+2600/\GT P fn dep dn N2 N2 hp2)/\KG k hp1 hp2) (fun _ _=>False):=by
 refine Af (k1:=k+1) (PR:=fun _ _=>False) rfl Tryz.func186 (Ak (by decide)) rfl Wz rfl rvs_186 ?_
 have HK:=KG.refl k hp1
 repeat' (first|refine ZN ?_|refine Z2 ?_ ?_|(intro h h';try simp[*,-h] at h')|((with_reducible apply Aa (f:=123));(iterate 5 exact Z5);(apply Bm);(focus (refine GT.congr hcs ?_;intro i c hi;simp));(focus (first|omega|((try simp);omega)));rotate_left;(rintro _ _ h;exact h.elim);(rintro _ hp2 ⟨rfl,hcn,hk2⟩;have HKn:=KG.step HK hk2 (by omega) (fun d i c hd=>by simp[Zl hd]);have hO2:=hk2.own (by omega);clear hcs HK;have hcs:=hcn;have HK:=HKn;clear hcn HKn hk2))|((with_reducible apply Aa (f:=184));(iterate 5 exact Z5);(apply Ci);exact hfn;(focus (refine GT.congr hcs ?_;intro i c hi;simp));(focus (first|omega|((try simp);omega)));rotate_left;(rintro _ _ h;exact h.elim);(rintro _ hp2 ⟨rfl,hcn,hk2⟩;have HKn:=KG.step HK hk2 (by omega) (fun d i c hd=>by simp[Zl hd]);have hO2:=hk2.own (by omega);clear hcs HK;have hcs:=hcn;have HK:=HKn;clear hcn HKn hk2))|((with_reducible apply Aa (f:=181));(iterate 5 exact Z5);(apply Ce);exact hfn;(focus (refine GT.congr hcs ?_;intro i c hi;simp));(focus (first|omega|((try simp);omega)));rotate_left;(rintro _ _ h;exact h.elim);(rintro _ hp2 ⟨rfl,hcn,hk2⟩;have HKn:=KG.step HK hk2 (by omega) (fun d i c hd=>by simp[Zl hd]);have hO2:=hk2.own (by omega);clear hcs HK;have hcs:=hcn;have HK:=HKn;clear hcn HKn hk2))|((with_reducible apply Aa (f:=180));(iterate 5 exact Z5);(apply B9);(focus (refine GT.congr hcs ?_;intro i c hi;simp));(focus (first|omega|((try simp);omega)));rotate_left;(rintro _ _ h;exact h.elim);(rintro _ hp2 ⟨rfl,⟨N2,hN1,hN2,hcn⟩,hk2⟩;have HKn:=KG.step HK hk2 (by omega) (fun d i c hd=>by simp[Zl hd]);have hO2:=hk2.own (by omega);clear hcs HK;have hcs:=hcn;have HK:=HKn;clear hcn HKn hk2))|fail)
 all_goals exact⟨rfl,⟨_,by omega,by omega,hcs⟩,HK⟩
theorem em6_w {d k N fn:Nat}{hp1:Hp}{P:GP}{dep:Int}{dn:Nat->Prop}{o a b n:Int}(hfn:fn<P.n)(hcs:GT P fn dep dn N N hp1)(hN:N<=3700000000000):HB Tryz.prog E47 (Lm X47) k d 187 [.ptr ⟨0,29,0⟩ 1 0,.agg [iv o,iv a,iv b,uv n]] hp1 (fun v hp2=>v= .tup []/\(∃N2,N+0<=N2/\N2<=N+2600/\GT P fn dep dn N2 N2 hp2)/\KG k hp1 hp2) (fun _ _=>False):=by
 refine Af (k1:=k+1) (PR:=fun _ _=>False) rfl Tryz.func187 (Ak (by decide)) rfl Wy rfl rvs_187 ?_
 have HK:=KG.refl k hp1
 repeat' (first|refine ZN ?_|refine Z2 ?_ ?_|(intro h h';try simp[*,-h] at h')|((with_reducible apply Aa (f:=123));(iterate 5 exact Z5);(apply Bm);(focus (refine GT.congr hcs ?_;intro i c hi;simp));(focus (first|omega|((try simp);omega)));rotate_left;(rintro _ _ h;exact h.elim);(rintro _ hp2 ⟨rfl,hcn,hk2⟩;have HKn:=KG.step HK hk2 (by omega) (fun d i c hd=>by simp[Zl hd]);have hO2:=hk2.own (by omega);clear hcs HK;have hcs:=hcn;have HK:=HKn;clear hcn HKn hk2))|((with_reducible apply Aa (f:=184));(iterate 5 exact Z5);(apply Ci);exact hfn;(focus (refine GT.congr hcs ?_;intro i c hi;simp));(focus (first|omega|((try simp);omega)));rotate_left;(rintro _ _ h;exact h.elim);(rintro _ hp2 ⟨rfl,hcn,hk2⟩;have HKn:=KG.step HK hk2 (by omega) (fun d i c hd=>by simp[Zl hd]);have hO2:=hk2.own (by omega);clear hcs HK;have hcs:=hcn;have HK:=HKn;clear hcn HKn hk2))|((with_reducible apply Aa (f:=181));(iterate 5 exact Z5);(apply Ce);exact hfn;(focus (refine GT.congr hcs ?_;intro i c hi;simp));(focus (first|omega|((try simp);omega)));rotate_left;(rintro _ _ h;exact h.elim);(rintro _ hp2 ⟨rfl,hcn,hk2⟩;have HKn:=KG.step HK hk2 (by omega) (fun d i c hd=>by simp[Zl hd]);have hO2:=hk2.own (by omega);clear hcs HK;have hcs:=hcn;have HK:=HKn;clear hcn HKn hk2))|((with_reducible apply Aa (f:=180));(iterate 5 exact Z5);(apply B9);(focus (refine GT.congr hcs ?_;intro i c hi;simp));(focus (first|omega|((try simp);omega)));rotate_left;(rintro _ _ h;exact h.elim);(rintro _ hp2 ⟨rfl,⟨N2,hN1,hN2,hcn⟩,hk2⟩;have HKn:=KG.step HK hk2 (by omega) (fun d i c hd=>by simp[Zl hd]);have hO2:=hk2.own (by omega);clear hcs HK;have hcs:=hcn;have HK:=HKn;clear hcn HKn hk2))|fail)
 all_goals exact⟨rfl,⟨_,by omega,by omega,hcs⟩,HK⟩
theorem em7_w {d k N fn:Nat}{hp1:Hp}{P:GP}{dep:Int}{dn:Nat->Prop}{o a b n:Int}(hfn:fn<P.n)(hcs:GT P fn dep dn N N hp1)(hN:N<=3700000000000):HB Tryz.prog E47 (Lm X47) k d 188 [.ptr ⟨0,29,0⟩ 1 0,.agg [iv o,iv a,iv b,uv n]] hp1 (fun v hp2=>v= .tup []/\(∃N2,N+0<=N2/\N2<=N+2600/\GT P fn dep dn N2 N2 hp2)/\KG k hp1 hp2) (fun _ _=>False):=by
 refine Af (k1:=k+1) (PR:=fun _ _=>False) rfl Tryz.func188 (Ak (by decide)) rfl Wx rfl rvs_188 ?_
 have HK:=KG.refl k hp1
 repeat' (first|refine ZN ?_|refine Z2 ?_ ?_|(intro h h';try simp[*,-h] at h')|((with_reducible apply Aa (f:=123));(iterate 5 exact Z5);(apply Bm);(focus (refine GT.congr hcs ?_;intro i c hi;simp));(focus (first|omega|((try simp);omega)));rotate_left;(rintro _ _ h;exact h.elim);(rintro _ hp2 ⟨rfl,hcn,hk2⟩;have HKn:=KG.step HK hk2 (by omega) (fun d i c hd=>by simp[Zl hd]);have hO2:=hk2.own (by omega);clear hcs HK;have hcs:=hcn;have HK:=HKn;clear hcn HKn hk2))|((with_reducible apply Aa (f:=184));(iterate 5 exact Z5);(apply Ci);exact hfn;(focus (refine GT.congr hcs ?_;intro i c hi;simp));(focus (first|omega|((try simp);omega)));rotate_left;(rintro _ _ h;exact h.elim);(rintro _ hp2 ⟨rfl,hcn,hk2⟩;have HKn:=KG.step HK hk2 (by omega) (fun d i c hd=>by simp[Zl hd]);have hO2:=hk2.own (by omega);clear hcs HK;have hcs:=hcn;have HK:=HKn;clear hcn HKn hk2))|((with_reducible apply Aa (f:=181));(iterate 5 exact Z5);(apply Ce);exact hfn;(focus (refine GT.congr hcs ?_;intro i c hi;simp));(focus (first|omega|((try simp);omega)));rotate_left;(rintro _ _ h;exact h.elim);(rintro _ hp2 ⟨rfl,hcn,hk2⟩;have HKn:=KG.step HK hk2 (by omega) (fun d i c hd=>by simp[Zl hd]);have hO2:=hk2.own (by omega);clear hcs HK;have hcs:=hcn;have HK:=HKn;clear hcn HKn hk2))|((with_reducible apply Aa (f:=180));(iterate 5 exact Z5);(apply B9);(focus (refine GT.congr hcs ?_;intro i c hi;simp));(focus (first|omega|((try simp);omega)));rotate_left;(rintro _ _ h;exact h.elim);(rintro _ hp2 ⟨rfl,⟨N2,hN1,hN2,hcn⟩,hk2⟩;have HKn:=KG.step HK hk2 (by omega) (fun d i c hd=>by simp[Zl hd]);have hO2:=hk2.own (by omega);clear hcs HK;have hcs:=hcn;have HK:=HKn;clear hcn HKn hk2))|fail)
 all_goals exact⟨rfl,⟨_,by omega,by omega,hcs⟩,HK⟩
theorem em12_w {d k N fn:Nat}{hp1:Hp}{P:GP}{dep:Int}{dn:Nat->Prop}{o a b n:Int}(hfn:fn<P.n)(hcs:GT P fn dep dn N N hp1)(hN:N<=3700000000000):HB Tryz.prog E47 (Lm X47) k d 196 [.ptr ⟨0,29,0⟩ 1 0,.agg [iv o,iv a,iv b,uv n]] hp1 (fun v hp2=>v= .tup []/\(∃N2,N+0<=N2/\N2<=N+2600/\GT P fn dep dn N2 N2 hp2)/\KG k hp1 hp2) (fun _ _=>False):=by
 refine Af (k1:=k+1) (PR:=fun _ _=>False) rfl Tryz.func196 (Ak (by decide)) rfl Wl rfl rvs_196 ?_
 have HK:=KG.refl k hp1
 repeat' (first|refine ZN ?_|refine Z2 ?_ ?_|(intro h h';try simp[*,-h] at h')|((with_reducible apply Aa (f:=123));(iterate 5 exact Z5);(apply Bm);(focus (refine GT.congr hcs ?_;intro i c hi;simp));(focus (first|omega|((try simp);omega)));rotate_left;(rintro _ _ h;exact h.elim);(rintro _ hp2 ⟨rfl,hcn,hk2⟩;have HKn:=KG.step HK hk2 (by omega) (fun d i c hd=>by simp[Zl hd]);have hO2:=hk2.own (by omega);clear hcs HK;have hcs:=hcn;have HK:=HKn;clear hcn HKn hk2))|((with_reducible apply Aa (f:=184));(iterate 5 exact Z5);(apply Ci);exact hfn;(focus (refine GT.congr hcs ?_;intro i c hi;simp));(focus (first|omega|((try simp);omega)));rotate_left;(rintro _ _ h;exact h.elim);(rintro _ hp2 ⟨rfl,hcn,hk2⟩;have HKn:=KG.step HK hk2 (by omega) (fun d i c hd=>by simp[Zl hd]);have hO2:=hk2.own (by omega);clear hcs HK;have hcs:=hcn;have HK:=HKn;clear hcn HKn hk2))|((with_reducible apply Aa (f:=181));(iterate 5 exact Z5);(apply Ce);exact hfn;(focus (refine GT.congr hcs ?_;intro i c hi;simp));(focus (first|omega|((try simp);omega)));rotate_left;(rintro _ _ h;exact h.elim);(rintro _ hp2 ⟨rfl,hcn,hk2⟩;have HKn:=KG.step HK hk2 (by omega) (fun d i c hd=>by simp[Zl hd]);have hO2:=hk2.own (by omega);clear hcs HK;have hcs:=hcn;have HK:=HKn;clear hcn HKn hk2))|((with_reducible apply Aa (f:=180));(iterate 5 exact Z5);(apply B9);(focus (refine GT.congr hcs ?_;intro i c hi;simp));(focus (first|omega|((try simp);omega)));rotate_left;(rintro _ _ h;exact h.elim);(rintro _ hp2 ⟨rfl,⟨N2,hN1,hN2,hcn⟩,hk2⟩;have HKn:=KG.step HK hk2 (by omega) (fun d i c hd=>by simp[Zl hd]);have hO2:=hk2.own (by omega);clear hcs HK;have hcs:=hcn;have HK:=HKn;clear hcn HKn hk2))|fail)
 all_goals exact⟨rfl,⟨_,by omega,by omega,hcs⟩,HK⟩
theorem em13_w {d k N fn:Nat}{hp1:Hp}{P:GP}{dep:Int}{dn:Nat->Prop}{o a b n:Int}(hfn:fn<P.n)(hcs:GT P fn dep dn N N hp1)(hN:N<=3700000000000):HB Tryz.prog E47 (Lm X47) k d 197 [.ptr ⟨0,29,0⟩ 1 0,.agg [iv o,iv a,iv b,uv n]] hp1 (fun v hp2=>v= .tup []/\(∃N2,N+0<=N2/\N2<=N+2600/\GT P fn dep dn N2 N2 hp2)/\KG k hp1 hp2) (fun _ _=>False):=by
 refine Af (k1:=k+1) (PR:=fun _ _=>False) rfl Tryz.func197 (Ak (by decide)) rfl Wk rfl rvs_197 ?_
 have HK:=KG.refl k hp1
 repeat' (first|refine ZN ?_|refine Z2 ?_ ?_|(intro h h';try simp[*,-h] at h')|((with_reducible apply Aa (f:=123));(iterate 5 exact Z5);(apply Bm);(focus (refine GT.congr hcs ?_;intro i c hi;simp));(focus (first|omega|((try simp);omega)));rotate_left;(rintro _ _ h;exact h.elim);(rintro _ hp2 ⟨rfl,hcn,hk2⟩;have HKn:=KG.step HK hk2 (by omega) (fun d i c hd=>by simp[Zl hd]);have hO2:=hk2.own (by omega);clear hcs HK;have hcs:=hcn;have HK:=HKn;clear hcn HKn hk2))|((with_reducible apply Aa (f:=184));(iterate 5 exact Z5);(apply Ci);exact hfn;(focus (refine GT.congr hcs ?_;intro i c hi;simp));(focus (first|omega|((try simp);omega)));rotate_left;(rintro _ _ h;exact h.elim);(rintro _ hp2 ⟨rfl,hcn,hk2⟩;have HKn:=KG.step HK hk2 (by omega) (fun d i c hd=>by simp[Zl hd]);have hO2:=hk2.own (by omega);clear hcs HK;have hcs:=hcn;have HK:=HKn;clear hcn HKn hk2))|((with_reducible apply Aa (f:=181));(iterate 5 exact Z5);(apply Ce);exact hfn;(focus (refine GT.congr hcs ?_;intro i c hi;simp));(focus (first|omega|((try simp);omega)));rotate_left;(rintro _ _ h;exact h.elim);(rintro _ hp2 ⟨rfl,hcn,hk2⟩;have HKn:=KG.step HK hk2 (by omega) (fun d i c hd=>by simp[Zl hd]);have hO2:=hk2.own (by omega);clear hcs HK;have hcs:=hcn;have HK:=HKn;clear hcn HKn hk2))|((with_reducible apply Aa (f:=180));(iterate 5 exact Z5);(apply B9);(focus (refine GT.congr hcs ?_;intro i c hi;simp));(focus (first|omega|((try simp);omega)));rotate_left;(rintro _ _ h;exact h.elim);(rintro _ hp2 ⟨rfl,⟨N2,hN1,hN2,hcn⟩,hk2⟩;have HKn:=KG.step HK hk2 (by omega) (fun d i c hd=>by simp[Zl hd]);have hO2:=hk2.own (by omega);clear hcs HK;have hcs:=hcn;have HK:=HKn;clear hcn HKn hk2))|fail)
 all_goals exact⟨rfl,⟨_,by omega,by omega,hcs⟩,HK⟩
theorem em10_w {d k N fn:Nat}{hp1:Hp}{P:GP}{dep:Int}{dn:Nat->Prop}{o b n:Int}{a:Nat}{G:Sf}(hG:P.sfs[a]?=some G)(hfn:fn<P.n)(hcs:GT P fn dep dn N N hp1)(hN:N<=3700000000000):HB Tryz.prog E47 (Lm X47) k d 192 [.ptr ⟨0,29,0⟩ 1 0,.agg [iv o,iv a,iv b,uv n]] hp1 (fun v hp2=>v= .tup []/\(∃N2,N+0<=N2/\N2<=N+2600/\GT P fn dep dn N2 N2 hp2)/\KG k hp1 hp2) (fun _ _=>False):=by
 refine Af (k1:=k+1) (PR:=fun _ _=>False) rfl Tryz.func192 (Ak (by decide)) rfl Wt rfl rvs_192 ?_
 have HK:=KG.refl k hp1
 have HG:=Lib.hid hG
 clear hG
 repeat' (first|refine ZN ?_|refine Z2 ?_ ?_|(intro h h';try simp[*,-h] at h')|((with_reducible apply Aa (f:=193));(iterate 5 exact Z5);(apply(ecall_w HG.out hfn));(focus (refine GT.congr hcs ?_;intro i c hi;simp));(focus (first|omega|((try simp);omega)));rotate_left;(rintro _ _ h;exact h.elim);(rintro _ hp2 ⟨rfl,⟨N2,hN1,hN2,hcn⟩,hk2⟩;have HKn:=KG.step HK hk2 (by omega) (fun d i c hd=>by simp[Zl hd]);have hO2:=hk2.own (by omega);clear hcs HK;have hcs:=hcn;have HK:=HKn;clear hcn HKn hk2))|fail)
 exact⟨rfl,⟨_,by omega,by omega,hcs⟩,HK⟩
theorem em11_w {d k N fn:Nat}{hp1:Hp}{P:GP}{dep:Int}{dn:Nat->Prop}{o a b n:Int}(hfn:fn<P.n)(hcs:GT P fn dep dn N N hp1)(hN:N<=3700000000000):HB Tryz.prog E47 (Lm X47) k d 194 [.ptr ⟨0,29,0⟩ 1 0,.agg [iv o,iv a,iv b,uv n]] hp1 (fun v hp2=>v= .tup []/\(∃N2,N+0<=N2/\N2<=N+2600/\GT P fn dep dn N2 N2 hp2)/\KG k hp1 hp2) (fun _ _=>False):=by
 refine Af (k1:=k+1) (PR:=fun _ _=>False) rfl Tryz.func194 (Ak (by decide)) rfl Wn rfl rvs_194 ?_
 have HK:=KG.refl k hp1
 repeat' (first|refine ZN ?_|refine Z2 ?_ ?_|(intro h h';try simp[*,-h] at h')|((with_reducible apply Aa (f:=195));(iterate 5 exact Z5);(apply(H3a hfn));(focus (refine GT.congr hcs ?_;intro i c hi;simp));(focus (first|omega|((try simp);omega)));rotate_left;(rintro _ _ h;exact h.elim);(rintro _ hp2 ⟨rfl,⟨N2,hN1,hN2,hcn⟩,hk2⟩;have HKn:=KG.step HK hk2 (by omega) (fun d i c hd=>by simp[Zl hd]);have hO2:=hk2.own (by omega);clear hcs HK;have hcs:=hcn;have HK:=HKn;clear hcn HKn hk2))|fail)
 exact⟨rfl,⟨_,by omega,by omega,hcs⟩,HK⟩
theorem em8_w {d k N fn:Nat}{hp1:Hp}{P:GP}{dep:Int}{dn:Nat->Prop}{o b n:Int}{q:Nat}{F:Sf}(hF:P.sfs[fn]?=some F)(hq:q<F.code.length)(hfn:fn<P.n)(hcs:GT P fn dep dn N N hp1)(hN:N<=3700000000000):HB Tryz.prog E47 (Lm X47) k d 189 [.ptr ⟨0,29,0⟩ 1 0,.agg [iv o,iv q,iv b,uv n]] hp1 (fun v hp2=>v= .tup []/\(∃N2,N+0<=N2/\N2<=N+2600/\GT P fn dep dn N2 N2 hp2)/\KG k hp1 hp2) (fun _ _=>False):=by
 refine Af (k1:=k+1) (PR:=fun _ _=>False) rfl Tryz.func189 (Ak (by decide)) rfl Ww rfl rvs_189 ?_
 have hcs0:=hcs
 obtain⟨gc,gh,c,hl,en,cells,hcN,hhl,hen,hce,hho,b0,b3,b4,b5,b7,b8,b10,q0,hpl⟩:=hcs0
 have tkc:=Bl hcN
 have HHO:=Lib.hid hho
 have HPL:=Lib.hid hpl
 have HEN:=Lib.hid hen
 have HCE:=Lib.hid hce
 clear hho hpl hen hce
 have HK:=KG.refl k hp1
 have hho: ∀M:Nat,HoK P (M+1) ((M:Int),(fn:Int),(q:Int)):=fun M=>⟨M,fn,F,rfl,by omega,rfl,hF,Or.inr ⟨q,rfl,hq⟩⟩
 have HOK:=Lib.hid hho
 clear hho hF hq
 repeat' (first|refine ZN ?_|refine Z2 ?_ ?_|(intro h h';try simp[*,-h] at h'))
 have hpX:=Lk (d:=11) (k:=k+1) (op:=18) (r:=0) (fh:=fn) (pl:=q) (hp1:=(upd hp1 ⟨k+1,3,0⟩ (.box ((hp1 ⟨k+1,3,0⟩).gen+1) [iv o,iv q,iv b,uv n] false))) (GT.congr hcs (fun i c h=>by simp)) (by omega) (HOK.out N)
 rcases hpX with⟨v,hp2,hcall,rfl,hcn,hk2⟩|⟨_,_,_,_,h⟩
 rotate_left
 ·exact h.elim
 repeat' (first|((with_reducible apply Bf (d:=4));exact rfl;(apply Ao (ps:=[(0,1),(0,2),(0,3),(0,4),(0,5),(1,5),(2,5),(3,5),(4,5),(0,6),(1,6),(2,6),(3,6),(4,6)]));kernel_rfl;(iterate 14 refine Zk ?_);(exact Zz))|(refine Z1 ?_)|(refine Z2 ?_ ?_)|(intro h h';try simp[*,-h] at h'))
 have HKn:=KG.step HK hk2 (by omega) (fun d i c hd=>by simp[Zl hd]);have hO2:=hk2.own (by omega);clear hcs HK;have hcs:=hcn;have HK:=HKn;clear hcn HKn hk2
 exact⟨rfl,⟨_,by omega,by omega,hcs⟩,HK⟩
theorem em9_w {d k N fn:Nat}{hp1:Hp}{P:GP}{dep:Int}{dn:Nat->Prop}{o b n:Int}{q:Nat}{F:Sf}(hF:P.sfs[fn]?=some F)(hq:q<F.code.length)(hfn:fn<P.n)(hcs:GT P fn dep dn N N hp1)(hN:N<=3700000000000):HB Tryz.prog E47 (Lm X47) k d 191 [.ptr ⟨0,29,0⟩ 1 0,.agg [iv o,iv q,iv b,uv n]] hp1 (fun v hp2=>v= .tup []/\(∃N2,N+0<=N2/\N2<=N+2600/\GT P fn dep dn N2 N2 hp2)/\KG k hp1 hp2) (fun _ _=>False):=by
 refine Af (k1:=k+1) (PR:=fun _ _=>False) rfl Tryz.func191 (Ak (by decide)) rfl Wu rfl rvs_191 ?_
 have HK:=KG.refl k hp1
 have hho: ∀M:Nat,HoK P (M+1) ((M:Int),(fn:Int),(q:Int)):=fun M=>⟨M,fn,F,rfl,by omega,rfl,hF,Or.inr ⟨q,rfl,hq⟩⟩
 have HOK:=Lib.hid hho
 clear hho hF hq
 repeat' (first|refine ZN ?_|refine Z2 ?_ ?_|(intro h h';try simp[*,-h] at h')|((with_reducible apply Aa (f:=184));(iterate 5 exact Z5);(apply Ci);exact hfn;(focus (refine GT.congr hcs ?_;intro i c hi;simp));(focus (first|omega|((try simp);omega)));rotate_left;(rintro _ _ h;exact h.elim);(rintro _ hp2 ⟨rfl,hcn,hk2⟩;have HKn:=KG.step HK hk2 (by omega) (fun d i c hd=>by simp[Zl hd]);have hO2:=hk2.own (by omega);clear hcs HK;have hcs:=hcn;have HK:=HKn;clear hcn HKn hk2))|fail)
 have hcs0:=hcs
 obtain⟨gc,gh,c,hl,en,cells,hcN,hhl,hen,hce,hho,b0,b3,b4,b5,b7,b8,b10,q0,hpl⟩:=hcs0
 have tkc:=Bl hcN
 have HHO:=Lib.hid hho
 have HPL:=Lib.hid hpl
 have HEN:=Lib.hid hen
 have HCE:=Lib.hid hce
 clear hho hpl hen hce
 have hpX:=Lk (d:=13) (k:=k+1) (op:=19) (r:=1) (fh:=fn) (pl:=q) hcs (by omega) (HOK.out (N+1))
 rcases hpX with⟨v,hp2,hcall,rfl,hcn,hk2⟩|⟨_,_,_,_,h⟩
 rotate_left
 ·exact h.elim
 repeat' (first|((with_reducible apply Bf (d:=6));exact rfl;(apply Ao (ps:=[(0,1),(0,2),(0,3),(0,4),(0,5),(1,5),(2,5),(3,5),(4,5),(0,6),(1,6),(2,6),(3,6),(4,6)]));kernel_rfl;(iterate 14 refine Zk ?_);(exact Zz))|(refine Z1 ?_)|(refine Z2 ?_ ?_)|(intro h h';try simp[*,-h] at h'))
 have HKn:=KG.step HK hk2 (by omega) (fun d i c hd=>by simp[Zl hd]);have hO2:=hk2.own (by omega);clear hcs HK;have hcs:=hcn;have HK:=HKn;clear hcn HKn hk2
 exact⟨rfl,⟨_,by omega,by omega,hcs⟩,HK⟩
end Go.Proofs.YtpmoibjpjlhcgaaGreatDoor
namespace Go.Proofs.YtpmoibjpjlhcgaaGreatDoor
open Go Go.Ab Go.Ab.Sy
abbrev MM :AV:= .dmp false [.int .i64 1,.int .i64 2,.int .i64 3,.int .i64 4,.int .i64 5,.int .i64 6,.int .i64 7,.int .i64 8,.int .i64 9,.int .i64 10,.int .i64 11,.int .i64 12,.int .i64 13] [[.fn 179 []],[.fn 182 []],[.fn 183 []],[.fn 185 []],[.fn 186 []],[.fn 187 []],[.fn 188 []],[.fn 189 []],[.fn 191 []],[.fn 192 []],[.fn 194 []],[.fn 196 []],[.fn 197 []]]
theorem Tt : ∃rs,(Lm X47).dat 122 []=some rs/\rs=[MM]:=by
 refine fnR (P:=Tryz.prog) (E:=E47) (X:=X47) (R:=fun rs=>rs=[MM]) Tryz.func122 (An _ _) rfl Yb rfl Fya rvs_122 ?_
 all_goals exact ZS
theorem Wo_gen {P:Program}{E:Cfg}{k:Nat}{call:Orc}{all:Array Oper}{os}{fr:Nat->AV}{hp:Hp}{Q PQ}(h: ∀hp':Hp,hp'=hp->Wo P E k call all os ⟨fr,hp'⟩ Q PQ):Wo P E k call all os ⟨fr,hp⟩ Q PQ:=h _ rfl
theorem W_gen {P:Program}{E:Cfg}{k:Nat}{call:Orc}{c:Code}{fr:Nat->AV}{hp:Hp}{Q}(h: ∀hp':Hp,hp'=hp->W P E k call c ⟨fr,hp'⟩ Q):W P E k call c ⟨fr,hp⟩ Q:=h _ rfl
theorem W_cut {P:Program}{E:Cfg}{k:Nat}{call:Orc}{a b:Code}{st}{Q}(M:AS->Prop)(h1:W P E k call a st (fun e s=>e=Ab.Ex.normal/\M s))(h2: ∀s,M s->W P E k call b s Q):W P E k call (.seq a b) st Q:=Ey (h1.mono (fun e s ⟨he,hm⟩=>by subst he;exact Di (h2 s hm)))
theorem K2 {d k N fn:Nat}{hp1:Hp}{P:GP}{f0 dep:Int}{dn:Nat->Prop}(hfn:fn<P.n)(hcs:GT P f0 dep dn N N hp1)(hN:N<=3600000000000):HB Tryz.prog E47 (Lm X47) k d 124 [.ptr ⟨0,29,0⟩ 1 0,iv fn,MM] hp1 (fun v hp2=>v= .tup []/\(∃(N2:Nat) (dep2:Int),N<=N2/\N2<=N+1400000000/\GT P fn dep2 (fun i=>dn i\/i=fn) N2 N2 hp2)/\KG k hp1 hp2) (fun _ _=>False):=by
 refine Af (k1:=k+1) (PR:=fun _ _=>False) rfl Tryz.func124 (Ak (by decide)) rfl X9 rfl rvs_124 ?_
 obtain⟨gc,gh,c,hl,en,cells,hcN,hhl,hen,hce,hho,b0,b3,b4,b5,b7,b8,b10,q0,hpl⟩:=hcs
 have tkc:=Bl hcN
 have HHO:=Lib.hid hho
 have HPL:=Lib.hid hpl
 have HEN:=Lib.hid hen
 have HCE:=Lib.hid hce
 clear hho hpl hen hce
 have HK:=KG.refl k hp1
 have hsn:=P.hn
 have hn1:=P.n1
 have hn2:=P.n2
 have hw:IntKind.i64.wrap ((P.n:Int) - 1)=(P.n:Int) - 1:=Ag (by omega) (by omega)
 obtain⟨F,hF⟩: ∃F,P.sfs[fn]?=some F:=⟨_,List.getElem?_eq_getElem (by omega)⟩
 obtain⟨hcl,⟨p,sl,fi,hp_,hpb,hs_,hsb,hf_,hfb⟩,⟨ds,hds,hdl⟩,hins⟩:=P.hF fn F hF
 have hrow:=J0 hF
 obtain⟨gp_,gs_,gf_,gw_,gc_⟩:=F
 simp only at hp_ hs_ hf_ hcl hdl
 subst hp_ hs_ hf_
 rw[Ha] at hrow
 have hge: ∀(h:fn<P.sfs.length),(P.sfs[fn]).row=[iz p,iz sl,iz fi,bz gw_,.sl false 4 (gc_.map Si.row)]:=fun h=>by have h3:=hrow;simp[h] at h3;exact h3
 have hf1:(fn:Int)<P.n:=by omega
 have hel:(ir en).length=P.n:=by simp[HEN.out]
 obtain⟨ev,hev⟩: ∃ev,en[fn]?=some ev:=⟨_,List.getElem?_eq_getElem (by have:=HEN.out;omega)⟩
 have hes:=Mt en fn N
 have heg:=B4 hev
 generalize hR:ir en=R at*
 have hege: ∀(h:fn<R.length),R[fn]=[iv ev]:=fun h=>by have h3:=heg;rw[List.getElem?_eq_getElem h] at h3;exact Option.some.inj h3
 generalize hR2:ir (en.set fn N)=R2 at*
 have HR2:=Lib.hid hR2
 clear hev hR hR2
 have hw1:IntKind.i64.wrap ((fi:Int)+p)=((fi+p:Nat):Int):=Ag (by omega) (by omega)
 have hw2:IntKind.i64.wrap ((fi:Int)+sl)=((fi+sl:Nat):Int):=Ag (by omega) (by omega)
 obtain⟨L,hL⟩: ∃L,gc_.length=L:=⟨_,rfl⟩
 rw[hL] at hcl hdl
 have hmk:(L:Int)*8<=140737488355328:=by omega
 have hmk2:(L:Int)<=9223372036854775807:=by omega
 have hmk3:L*8<=140737488355328:=by omega
 have hmk4:L<=9223372036854775807:=by omega
 have hf2:fn+1<=P.n:=hfn
 have HF:=Lib.hid hF
 have HDS:=Lib.hid hds
 have HIN:=Lib.hid hins
 have hrow2:(hp1 ⟨k+1,6,0⟩).gen=(hp1 ⟨k+1,6,0⟩).gen:=rfl
 clear hF hds hins hrow2
 repeat' (first
  |((with_reducible apply Bf (d:=21));exact rfl;(apply Ao (ps:=[(0,4),(1,4),(2,4),(3,4),(0,5),(1,5),(2,5),(3,5),(4,5),(0,6),(1,6),(2,6),(3,6),(4,6),(0,7),(1,7),(2,7),(3,7),(4,7),(0,8),(1,8),(2,8),(3,8),(4,8),(0,9),(1,9),(2,9),(3,9),(4,9)]));kernel_rfl;(iterate 29 refine Zk ?_);(exact Zz))
  |((with_reducible first|apply Wo_u|apply Wo_n|apply ex2|apply W_c|apply Wd_u|apply Wd_n|apply ex4|apply Df|apply EndQ_normal|apply Dg|apply Bt|apply Cq|apply EndBZ_normal);exact Zc)
  |(with_reducible first|apply Gn|apply W_ss|apply K9|apply W_rl|apply Dd|apply Do|apply El|apply Fj|apply Gp|apply Ju|apply Em|apply Fk|apply Di|apply Ec|apply Ee|apply Ed|apply Kv|apply Ks|apply Kw|apply Kt|apply panW|apply panB|apply Fw|apply Fv)
  |((with_reducible apply K6);exact rfl;exact Zc;exact Zc)
  |((with_reducible apply K7);exact rfl;exact Zc;(exact rfl))
  |((with_reducible apply K5);exact rfl;(exact Zc))
  |((with_reducible apply K8);exact rfl;(exact Zc))
  |((with_reducible apply Qe);exact rfl;(exact Zc))
  |((with_reducible apply Qf);exact rfl;(exact Zc))
  |((with_reducible apply Qg);exact rfl;(exact Zc))
  |((with_reducible apply Qh);exact rfl;(exact Zc))
  |((with_reducible first|apply Cu|apply Hh);kernel_rfl)
  |((with_reducible apply A7);kernel_rfl)
  |((with_reducible apply Ku);rotate_left;exact rfl)
  |((with_reducible apply Dc);exact Zc)
  |(intro h h';try simp[*,-h] at h')
  |fail)
 refine W_cut (fun z=> ∃(N2 g6:Nat),N<=N2/\N2<=N+11/\z.fr 0= .ptr ⟨0,29,0⟩ 1 0/\z.fr 1=iv fn/\z.fr 2=MM/\z.fr 6= .ptr ⟨k+1,6,0⟩ g6 0/\GT P fn dep dn N2 N2 z.hp/\KG k hp1 z.hp/\z.hp ⟨k+1,6,0⟩= .box g6 [iv p,iv sl,iv fi,bv gw_,.sl false 4 (gc_.map Si.row)] false) ?_ ?_
 ·by_cases hlast:fn+1=P.n
  ·have e1:(P.n:Int) - 1=fn:=by omega
   rw[e1] at hw
   clear hlast
   repeat' (first|refine ZN ?_|refine Z2 ?_ ?_|(intro h h';try simp[*,-h] at h'))
   refine⟨rfl,N,(hp1 ⟨k+1,6,0⟩).gen+1,by omega,by omega,by simp,by simp,by simp,by simp,⟨gc,gh,c,hl,en.set fn N,cells,hcN,hhl,by simp[HEN.out],HCE.out,HHO.out,by simp[*],by simp[*],by simp[*],by simp[*],by simp[*],by rw[HR2.out];simp[*],by simp[*],by simp[*],?_⟩,fun d i c hd n1=>?_,by simp⟩
   ·intro i F hF hd
    obtain⟨g,l,h1,h2,h3⟩:=HPL.out i F hF hd
    exact⟨g,l,h1,h2,by simp[*]⟩
   ·have hd2:d≠k+1:=by omega
    by_cases hd0:d=0
    ·subst hd0
     have n2:i≠29:=by omega
     simp[n2]
    ·simp[hd0,hd2]
  ·have e1: ¬(fn:Int)=(P.n:Int) - 1:=by omega
   obtain⟨kv,hkv⟩: ∃kv,P.bk[fn]?=some kv:=⟨_,List.getElem?_eq_getElem (by have:=P.hk;omega)⟩
   have hkg:=B4 hkv
   have hkl:(ir P.bk).length=P.n:=by simp[P.hk]
   have hkge: ∀(h:fn<(ir P.bk).length),(ir P.bk)[fn]=[iv kv]:=fun h=>by have h3:=hkg;rw[List.getElem?_eq_getElem h] at h3;exact Option.some.inj h3
   generalize hS:ir P.bk=S at*
   have HKV:=Lib.hid hkv
   have HS:=Lib.hid hS
   clear hkv hS
   repeat' (first|refine ZN ?_|refine Z2 ?_ ?_|(intro h h';try simp[*,-h] at h')|((with_reducible apply Aa (f:=123));(iterate 5 exact Z5);(apply(Bm (N:=N) (P:=P) (f:=fn) (dep:=dep) (dn:=dn)));(focus (refine⟨gc,gh,c,hl,en.set fn N,cells,by simp[*],hhl,by simp[HEN.out],HCE.out,HHO.out,by simp[*],by simp[*],by rw[HS.out];simp[*],by simp[*],by simp[*],by rw[HR2.out];simp[*],by simp[*],by simp[*],?_⟩;(focus (intro i F hF hd;obtain⟨g,l,h1,h2,h3⟩:=HPL.out i F hF hd;exact⟨g,l,h1,h2,by simp[*]⟩))));(focus (first|omega|((try simp);omega)));rotate_left;(rintro _ _ h;exact h.elim);(rintro _ hp2 ⟨rfl,hcn,hk2⟩;have HKn:KG k hp1 hp2:=fun d i c hd n1=>(hk2 d i c (by omega) n1).trans (by have hd2:d≠k+1:=(by omega);by_cases hd0:d=0;(focus (subst hd0;have n2:i≠29:=(by omega);have n3:i≠27:=(by omega);simp[n2,n3]));(simp[hd0,hd2]));have hO2:=hk2.own (by omega);clear HK;have hcs:=hcn;have HK:=HKn;clear hcn HKn hk2))|fail)
   repeat' (first|refine ZN ?_|refine Z2 ?_ ?_|(intro h h';try simp[*,-h] at h')|((with_reducible apply Aa (f:=198));(iterate 5 exact Z5);(apply(H6a (by omega) (by omega)));(focus (refine GT.congr hcs ?_;intro i c hi;simp));(focus (first|omega|((try simp);omega)));rotate_left;(rintro _ _ h;exact h.elim);(rintro _ hp2 ⟨rfl,⟨N2,hN1,hN2,hcn⟩,hk2⟩;have HKn:=KG.step HK hk2 (by omega) (fun d i c hd=>by simp[Zl hd]);have hO2:=hk2.own (by omega);clear hcs HK;have hcs:=hcn;have HK:=HKn;clear hcn HKn hk2))|fail)
   exact⟨rfl,_,(hp1 ⟨k+1,6,0⟩).gen+1,by omega,by omega,by simp,by simp,by simp,by simp,hcs,HK,by simp[*]⟩
 clear hcN hhl b0 b3 b4 b5 b7 b8 b10 q0 tkc
 clear HK
 rintro⟨fr,hp⟩ ⟨N2,g6,hN1,hN2,f0,f1,f2,f6,hcs,HK,b6⟩
 simp only at f0 f1 f2 f6 hcs HK b6
 obtain⟨gc,gh,c,hl,en,cells,hcN,hhl,hen,hce,hho,b0,b3,b4,b5,b7,b8,b10,q0,hpl⟩:=hcs
 have tkc:=Bl hcN
 have HHO:=Lib.hid hho
 have HPL:=Lib.hid hpl
 have HEN:=Lib.hid hen
 have HCE:=Lib.hid hce
 clear hho hpl hen hce
 have hce2:=HCE.out
 repeat' (first|((with_reducible apply Bf (d:=63));exact rfl;(apply Ao (ps:=[(0,4),(1,4),(2,4),(3,4),(0,5),(1,5),(2,5),(3,5),(4,5),(0,6),(1,6),(2,6),(3,6),(4,6),(0,7),(1,7),(2,7),(3,7),(4,7),(0,8),(1,8),(2,8),(3,8),(4,8)]));kernel_rfl;(iterate 19 refine Zk ?_);(iterate 5 refine Zs ?_);(exact Zz))|(refine Z1 ?_)|(refine Z2 ?_ ?_)|(intro h h';try simp[*,-h] at h'))
 refine W_gen fun hpE hE=>?_
 have hcs:GT P fn dep (fun i=>dn i\/i=fn) N2 N2 hpE:=by
  refine⟨gc,gh,c,hl,en,cells.set fn (.own ⟨0,27,fn+1⟩ ((hp ⟨0,27,fn+1⟩).gen+1) L),hcN,hhl,HEN.out,by simp[HCE.out],HHO.out,by rw[hE];simp[*],by rw[hE];simp[*],by rw[hE];simp[*],by rw[hE];simp[*],by rw[hE];simp[*],by rw[hE];simp[*],by rw[hE];simp[*],by rw[hE];simp[*],?_⟩
  intro i G hG hd
  by_cases hif:i=fn
  ·subst hif
   have hG2:=HF.out
   rw[hG] at hG2
   cases hG2
   refine⟨(hp ⟨0,27,i+1⟩).gen+1,List.replicate L 0,by simp[*],by simp[*],by rw[hE];simp[*]⟩
  ·obtain⟨g',l',h1,h2,h3⟩:=HPL.out i G hG (hd.resolve_right hif)
   exact⟨g',l',by rw[List.getElem?_set_ne (by omega)];exact h1,h2,by rw[hE];simp[*]⟩
 have HKE:KG k hp1 hpE:=fun d i c hd n1=>by
  refine Eq.trans ?_ (HK d i c hd n1)
  have hd2:d≠k+1:=by omega
  by_cases hd0:d=0
  ·subst hd0
   have n2:i≠29:=by omega
   have n3:i≠27:=by omega
   rw[hE]
   simp[n2,n3]
  ·rw[hE]
   simp[hd0,hd2]
 clear HK hE
 obtain⟨SS,hSS⟩: ∃SS,gc_.map Si.row=SS:=⟨_,rfl⟩
 refine Ah (n:=L) (fun s0 m z=> ∃(j N3:Nat) (dep3:Int),L - j<=m/\j<=L/\N<=N3/\N3<=N+11+2600*j/\z.fr 0= .ptr ⟨0,29,0⟩ 1 0/\z.fr 1=iv fn/\z.fr 2=MM/\z.fr 74= .sl false 4 SS/\z.fr 75=iv L/\z.fr 76=iv j/\GT P fn dep3 (fun i=>dn i\/i=fn) N3 N3 z.hp/\KG k hp1 z.hp) ⟨0,N2,dep,by omega,by omega,by omega,by omega,by simp[*],by simp[*],by simp[*],by simp[*],by simp[*],by simp[*],hcs,HKE⟩ ?_
 clear HKE hcs hcN hhl b0 b3 b4 b5 b7 b8 b10 q0 tkc hce2 f0 f1 f2 f6 b6 hrow hge
 rintro m ⟨fr,hp⟩ ⟨j,N3,dep3,hm,hj,hN3,hN4,f0,f1,f2,f74,f75,f76,hcs,HK⟩
 simp only at f0 f1 f2 f74 f75 f76 hcs HK
 by_cases hlt:j<L
 ·have e1:(j:Int)<L:=by omega
  have hwj:IntKind.i64.wrap ((j:Int)+1)=(j:Int)+1:=wrapN (by omega)
  obtain⟨c0,hc0⟩: ∃c0,gc_[j]?=some c0:=⟨_,List.getElem?_eq_getElem (by omega)⟩
  have hio:=HIN.out j c0 hc0
  have hci:=si_get hc0
  rw[hSS] at hci
  obtain⟨co,ca,cb,cn⟩:=c0
  simp only at hci
  have hsl:SS.length=L:=by rw[<-hSS];simp[hL]
  have hcge: ∀(h:j<SS.length),SS[j]=[iz co,iz ca,iz cb,uz cn]:=fun h=>by have h3:=hci;rw[List.getElem?_eq_getElem h] at h3;exact Option.some.inj h3
  obtain⟨gc,gh,c,hl,en,cells,hcN,hhl,hen,hce,hho,b0,b3,b4,b5,b7,b8,b10,q0,hpl⟩:=hcs
  have tkc:=Bl hcN
  have HHO:=Lib.hid hho
  have hpl0:=hpl fn _ HF.out (Or.inr rfl)
  have HPL:=Lib.hid hpl
  have HEN:=Lib.hid hen
  have HCE:=Lib.hid hce
  clear hho hpl hen hce
  obtain⟨gq,l,hq1,hq2,hq3⟩:=hpl0
  simp only at hq1 hq2
  rw[hL] at hq1 hq2
  have hce2:=HCE.out
  have hq1e: ∀(h:fn<cells.length),cells[fn]= .own ⟨0,27,fn+1⟩ gq L:=fun h=>by have h3:=hq1;rw[List.getElem?_eq_getElem h] at h3;exact Option.some.inj h3
  obtain⟨x,hx⟩: ∃x,l[j]?=some x:=⟨_,List.getElem?_eq_getElem (by omega)⟩
  have hxg:=B4 hx
  have hxs:=Mt l j N3
  have hxl:(ir l).length=L:=by simp[hq2]
  obtain⟨y,hy⟩: ∃y,ds[j]?=some y:=⟨_,List.getElem?_eq_getElem (by omega)⟩
  have hyg:=B4 hy
  have hyl:(ir ds).length=L:=by simp[hdl]
  have hdr:(dr P.dss)[fn]?=some [.sl false 1 (ir ds)]:=by simp[HDS.out]
  have hdn:(dr P.dss).length=P.n:=by simp[P.hd]
  generalize hQ:ir l=Q at*
  generalize hQ2:ir (l.set j N3)=Q2 at*
  generalize hDD:ir ds=DD at*
  generalize hDR:dr P.dss=DR at*
  have hxge: ∀(h:j<Q.length),Q[j]=[iv x]:=fun h=>by have h3:=hxg;rw[List.getElem?_eq_getElem h] at h3;exact Option.some.inj h3
  have hyge: ∀(h:j<DD.length),DD[j]=[iv y]:=fun h=>by have h3:=hyg;rw[List.getElem?_eq_getElem h] at h3;exact Option.some.inj h3
  have hdge: ∀(h:fn<DR.length),DR[fn]=[.sl false 1 DD]:=fun h=>by have h3:=hdr;rw[List.getElem?_eq_getElem h] at h3;exact Option.some.inj h3
  have HQ2:=Lib.hid hQ2
  have HDR:=Lib.hid hDR
  have HL2:=Lib.hid hq2
  have HIO:=Lib.hid hio
  clear hx hy hQ hQ2 hDD hDR hc0 hio hq2 hSS
  by_cases hy0:0<=y
  ·repeat' (first|((with_reducible apply Bf (d:=81));exact rfl;(apply Ao (ps:=[(0,4),(1,4),(2,4),(3,4),(0,7),(1,7),(2,7),(3,7),(4,7),(5,7),(6,7),(0,8),(1,8),(2,8),(3,8),(4,8),(5,8),(6,8),(7,8),(0,9),(1,9),(2,9),(3,9),(4,9),(5,9),(6,9),(7,9),(0,10),(1,10),(2,10),(3,10),(4,10),(5,10),(6,10),(7,10),(0,11),(1,11),(2,11),(3,11),(4,11),(5,11),(6,11),(7,11),(0,12),(1,12),(2,12),(3,12),(4,12),(5,12),(6,12),(7,12)]));kernel_rfl;(iterate 51 refine Zk ?_);(exact Zz))|(refine Z1 ?_)|(refine Z2 ?_ ?_)|(intro h h';try simp[*,-h] at h'))
   refine Wo_gen fun hpE hE=>?_
   have hb8:hpE ⟨k+1,8,0⟩= .box ((hp ⟨k+1,8,0⟩).gen+1) [iv co,iv ca,iv cb,uv cn] false:=by rw[hE];simp
   have hcs:GT P fn y (fun i=>dn i\/i=fn) N3 N3 hpE:=by
    refine⟨gc,gh,c,hl,en,cells,hcN,hhl,HEN.out,HCE.out,HHO.out,by rw[hE];simp[*],by rw[HDR.out];rw[hE];simp[*],by rw[hE];simp[*],by rw[hE];simp[*],by rw[hE];simp[*],by rw[hE];simp[*],by rw[hE];simp[*],by rw[hE];simp[*],?_⟩
    intro i G hG hd
    by_cases hif:i=fn
    ·subst hif
     have hG2:=HF.out
     rw[hG] at hG2
     cases hG2
     refine⟨gq,l.set j N3,by simp[*],by simp[HL2.out,hL],by rw[HQ2.out];rw[hE];simp[*]⟩
    ·obtain⟨g',l',h1,h2,h3⟩:=HPL.out i G hG hd
     exact⟨g',l',h1,h2,by rw[hE];simp[*]⟩
   have HKE:KG k hp1 hpE:=fun d i c hd n1=>by
    refine Eq.trans ?_ (HK d i c hd n1)
    have hd2:d≠k+1:=by omega
    by_cases hd0:d=0
    ·subst hd0
     have n2:i≠29:=by omega
     have n3:i≠27:=by omega
     rw[hE];simp[n2,n3]
    ·rw[hE];simp[hd0,hd2]
   clear HK hE hcN hhl b0 b3 b4 b5 b7 b8 b10 q0 tkc
   have HK:=HKE
   clear HKE
   obtain⟨⟨o,ho,ho1,ho2⟩,hi10,hi89⟩:=HIO.out
   simp only at ho hi10 hi89
   have ho3:o=1\/o=2\/o=3\/o=4\/o=5\/o=6\/o=7\/o=8\/o=9\/o=10\/o=11\/o=12\/o=13:=by omega
   subst ho
   rcases ho3 with rfl|rfl|rfl|rfl|rfl|rfl|rfl|rfl|rfl|rfl|rfl|rfl|rfl
   ·clear hi10 hi89
    repeat' (first|refine ZN ?_|refine Z2 ?_ ?_|(intro h h';try simp[*,-h] at h')|((with_reducible apply Aa (f:=179));(iterate 5 exact Z5);(apply(em1_w hfn));(focus (refine GT.congr hcs ?_;intro i c hi;simp));(focus (first|omega|((try simp);omega)));rotate_left;(rintro _ _ h;exact h.elim);(rintro _ hp2 ⟨rfl,⟨N2,hN1,hN2,hcn⟩,hk2⟩;have HKn:=KG.step HK hk2 (by omega) (fun d i c hd=>by simp[Zl hd]);have hO2:=hk2.own (by omega);clear hcs HK;have hcs:=hcn;have HK:=HKn;clear hcn HKn hk2))|fail)
    exact⟨L - (j+1),by omega,j+1,_,y,by omega,by omega,by omega,by omega,by simp[*],by simp[*],by simp[*],by simp[*],by simp[*],by simp[*],hcs,HK⟩
   ·clear hi10 hi89
    repeat' (first|refine ZN ?_|refine Z2 ?_ ?_|(intro h h';try simp[*,-h] at h')|((with_reducible apply Aa (f:=182));(iterate 5 exact Z5);(apply(em2_w hfn));(focus (refine GT.congr hcs ?_;intro i c hi;simp));(focus (first|omega|((try simp);omega)));rotate_left;(rintro _ _ h;exact h.elim);(rintro _ hp2 ⟨rfl,⟨N2,hN1,hN2,hcn⟩,hk2⟩;have HKn:=KG.step HK hk2 (by omega) (fun d i c hd=>by simp[Zl hd]);have hO2:=hk2.own (by omega);clear hcs HK;have hcs:=hcn;have HK:=HKn;clear hcn HKn hk2))|fail)
    exact⟨L - (j+1),by omega,j+1,_,y,by omega,by omega,by omega,by omega,by simp[*],by simp[*],by simp[*],by simp[*],by simp[*],by simp[*],hcs,HK⟩
   ·clear hi10 hi89
    repeat' (first|refine ZN ?_|refine Z2 ?_ ?_|(intro h h';try simp[*,-h] at h')|((with_reducible apply Aa (f:=183));(iterate 5 exact Z5);(apply(em3_w hfn));(focus (refine GT.congr hcs ?_;intro i c hi;simp));(focus (first|omega|((try simp);omega)));rotate_left;(rintro _ _ h;exact h.elim);(rintro _ hp2 ⟨rfl,⟨N2,hN1,hN2,hcn⟩,hk2⟩;have HKn:=KG.step HK hk2 (by omega) (fun d i c hd=>by simp[Zl hd]);have hO2:=hk2.own (by omega);clear hcs HK;have hcs:=hcn;have HK:=HKn;clear hcn HKn hk2))|fail)
    exact⟨L - (j+1),by omega,j+1,_,y,by omega,by omega,by omega,by omega,by simp[*],by simp[*],by simp[*],by simp[*],by simp[*],by simp[*],hcs,HK⟩
   ·clear hi10 hi89
    repeat' (first|refine ZN ?_|refine Z2 ?_ ?_|(intro h h';try simp[*,-h] at h')|((with_reducible apply Aa (f:=185));(iterate 5 exact Z5);(apply(em4_w hfn));(focus (refine GT.congr hcs ?_;intro i c hi;simp));(focus (first|omega|((try simp);omega)));rotate_left;(rintro _ _ h;exact h.elim);(rintro _ hp2 ⟨rfl,⟨N2,hN1,hN2,hcn⟩,hk2⟩;have HKn:=KG.step HK hk2 (by omega) (fun d i c hd=>by simp[Zl hd]);have hO2:=hk2.own (by omega);clear hcs HK;have hcs:=hcn;have HK:=HKn;clear hcn HKn hk2))|fail)
    exact⟨L - (j+1),by omega,j+1,_,y,by omega,by omega,by omega,by omega,by simp[*],by simp[*],by simp[*],by simp[*],by simp[*],by simp[*],hcs,HK⟩
   ·clear hi10 hi89
    repeat' (first|refine ZN ?_|refine Z2 ?_ ?_|(intro h h';try simp[*,-h] at h')|((with_reducible apply Aa (f:=186));(iterate 5 exact Z5);(apply(em5_w hfn));(focus (refine GT.congr hcs ?_;intro i c hi;simp));(focus (first|omega|((try simp);omega)));rotate_left;(rintro _ _ h;exact h.elim);(rintro _ hp2 ⟨rfl,⟨N2,hN1,hN2,hcn⟩,hk2⟩;have HKn:=KG.step HK hk2 (by omega) (fun d i c hd=>by simp[Zl hd]);have hO2:=hk2.own (by omega);clear hcs HK;have hcs:=hcn;have HK:=HKn;clear hcn HKn hk2))|fail)
    exact⟨L - (j+1),by omega,j+1,_,y,by omega,by omega,by omega,by omega,by simp[*],by simp[*],by simp[*],by simp[*],by simp[*],by simp[*],hcs,HK⟩
   ·clear hi10 hi89
    repeat' (first|refine ZN ?_|refine Z2 ?_ ?_|(intro h h';try simp[*,-h] at h')|((with_reducible apply Aa (f:=187));(iterate 5 exact Z5);(apply(em6_w hfn));(focus (refine GT.congr hcs ?_;intro i c hi;simp));(focus (first|omega|((try simp);omega)));rotate_left;(rintro _ _ h;exact h.elim);(rintro _ hp2 ⟨rfl,⟨N2,hN1,hN2,hcn⟩,hk2⟩;have HKn:=KG.step HK hk2 (by omega) (fun d i c hd=>by simp[Zl hd]);have hO2:=hk2.own (by omega);clear hcs HK;have hcs:=hcn;have HK:=HKn;clear hcn HKn hk2))|fail)
    exact⟨L - (j+1),by omega,j+1,_,y,by omega,by omega,by omega,by omega,by simp[*],by simp[*],by simp[*],by simp[*],by simp[*],by simp[*],hcs,HK⟩
   ·clear hi10 hi89
    repeat' (first|refine ZN ?_|refine Z2 ?_ ?_|(intro h h';try simp[*,-h] at h')|((with_reducible apply Aa (f:=188));(iterate 5 exact Z5);(apply(em7_w hfn));(focus (refine GT.congr hcs ?_;intro i c hi;simp));(focus (first|omega|((try simp);omega)));rotate_left;(rintro _ _ h;exact h.elim);(rintro _ hp2 ⟨rfl,⟨N2,hN1,hN2,hcn⟩,hk2⟩;have HKn:=KG.step HK hk2 (by omega) (fun d i c hd=>by simp[Zl hd]);have hO2:=hk2.own (by omega);clear hcs HK;have hcs:=hcn;have HK:=HKn;clear hcn HKn hk2))|fail)
    exact⟨L - (j+1),by omega,j+1,_,y,by omega,by omega,by omega,by omega,by simp[*],by simp[*],by simp[*],by simp[*],by simp[*],by simp[*],hcs,HK⟩
   ·obtain⟨q,rfl,hqq⟩:=hi89 (by decide)
    have HQQ:=Lib.hid hqq
    clear hqq hi10 hi89
    repeat' (first|refine ZN ?_|refine Z2 ?_ ?_|(intro h h';try simp[*,-h] at h')|((with_reducible apply Aa (f:=189));(iterate 5 exact Z5);(apply(em8_w HF.out HQQ.out hfn));(focus (refine GT.congr hcs ?_;intro i c hi;simp));(focus (first|omega|((try simp);omega)));rotate_left;(rintro _ _ h;exact h.elim);(rintro _ hp2 ⟨rfl,⟨N2,hN1,hN2,hcn⟩,hk2⟩;have HKn:=KG.step HK hk2 (by omega) (fun d i c hd=>by simp[Zl hd]);have hO2:=hk2.own (by omega);clear hcs HK;have hcs:=hcn;have HK:=HKn;clear hcn HKn hk2))|fail)
    exact⟨L - (j+1),by omega,j+1,_,y,by omega,by omega,by omega,by omega,by simp[*],by simp[*],by simp[*],by simp[*],by simp[*],by simp[*],hcs,HK⟩
   ·obtain⟨q,rfl,hqq⟩:=hi89 (by decide)
    have HQQ:=Lib.hid hqq
    clear hqq hi10 hi89
    repeat' (first|refine ZN ?_|refine Z2 ?_ ?_|(intro h h';try simp[*,-h] at h')|((with_reducible apply Aa (f:=191));(iterate 5 exact Z5);(apply(em9_w HF.out HQQ.out hfn));(focus (refine GT.congr hcs ?_;intro i c hi;simp));(focus (first|omega|((try simp);omega)));rotate_left;(rintro _ _ h;exact h.elim);(rintro _ hp2 ⟨rfl,⟨N2,hN1,hN2,hcn⟩,hk2⟩;have HKn:=KG.step HK hk2 (by omega) (fun d i c hd=>by simp[Zl hd]);have hO2:=hk2.own (by omega);clear hcs HK;have hcs:=hcn;have HK:=HKn;clear hcn HKn hk2))|fail)
    exact⟨L - (j+1),by omega,j+1,_,y,by omega,by omega,by omega,by omega,by simp[*],by simp[*],by simp[*],by simp[*],by simp[*],by simp[*],hcs,HK⟩
   ·obtain⟨a,G,rfl,hGG⟩:=hi10 (by decide)
    have HGG:=Lib.hid hGG
    clear hGG hi10 hi89
    repeat' (first|refine ZN ?_|refine Z2 ?_ ?_|(intro h h';try simp[*,-h] at h')|((with_reducible apply Aa (f:=192));(iterate 5 exact Z5);(apply(em10_w HGG.out hfn));(focus (refine GT.congr hcs ?_;intro i c hi;simp));(focus (first|omega|((try simp);omega)));rotate_left;(rintro _ _ h;exact h.elim);(rintro _ hp2 ⟨rfl,⟨N2,hN1,hN2,hcn⟩,hk2⟩;have HKn:=KG.step HK hk2 (by omega) (fun d i c hd=>by simp[Zl hd]);have hO2:=hk2.own (by omega);clear hcs HK;have hcs:=hcn;have HK:=HKn;clear hcn HKn hk2))|fail)
    exact⟨L - (j+1),by omega,j+1,_,y,by omega,by omega,by omega,by omega,by simp[*],by simp[*],by simp[*],by simp[*],by simp[*],by simp[*],hcs,HK⟩
   ·clear hi10 hi89
    repeat' (first|refine ZN ?_|refine Z2 ?_ ?_|(intro h h';try simp[*,-h] at h')|((with_reducible apply Aa (f:=194));(iterate 5 exact Z5);(apply(em11_w hfn));(focus (refine GT.congr hcs ?_;intro i c hi;simp));(focus (first|omega|((try simp);omega)));rotate_left;(rintro _ _ h;exact h.elim);(rintro _ hp2 ⟨rfl,⟨N2,hN1,hN2,hcn⟩,hk2⟩;have HKn:=KG.step HK hk2 (by omega) (fun d i c hd=>by simp[Zl hd]);have hO2:=hk2.own (by omega);clear hcs HK;have hcs:=hcn;have HK:=HKn;clear hcn HKn hk2))|fail)
    exact⟨L - (j+1),by omega,j+1,_,y,by omega,by omega,by omega,by omega,by simp[*],by simp[*],by simp[*],by simp[*],by simp[*],by simp[*],hcs,HK⟩
   ·clear hi10 hi89
    repeat' (first|refine ZN ?_|refine Z2 ?_ ?_|(intro h h';try simp[*,-h] at h')|((with_reducible apply Aa (f:=196));(iterate 5 exact Z5);(apply(em12_w hfn));(focus (refine GT.congr hcs ?_;intro i c hi;simp));(focus (first|omega|((try simp);omega)));rotate_left;(rintro _ _ h;exact h.elim);(rintro _ hp2 ⟨rfl,⟨N2,hN1,hN2,hcn⟩,hk2⟩;have HKn:=KG.step HK hk2 (by omega) (fun d i c hd=>by simp[Zl hd]);have hO2:=hk2.own (by omega);clear hcs HK;have hcs:=hcn;have HK:=HKn;clear hcn HKn hk2))|fail)
    exact⟨L - (j+1),by omega,j+1,_,y,by omega,by omega,by omega,by omega,by simp[*],by simp[*],by simp[*],by simp[*],by simp[*],by simp[*],hcs,HK⟩
   ·clear hi10 hi89
    repeat' (first|refine ZN ?_|refine Z2 ?_ ?_|(intro h h';try simp[*,-h] at h')|((with_reducible apply Aa (f:=197));(iterate 5 exact Z5);(apply(em13_w hfn));(focus (refine GT.congr hcs ?_;intro i c hi;simp));(focus (first|omega|((try simp);omega)));rotate_left;(rintro _ _ h;exact h.elim);(rintro _ hp2 ⟨rfl,⟨N2,hN1,hN2,hcn⟩,hk2⟩;have HKn:=KG.step HK hk2 (by omega) (fun d i c hd=>by simp[Zl hd]);have hO2:=hk2.own (by omega);clear hcs HK;have hcs:=hcn;have HK:=HKn;clear hcn HKn hk2))|fail)
    exact⟨L - (j+1),by omega,j+1,_,y,by omega,by omega,by omega,by omega,by simp[*],by simp[*],by simp[*],by simp[*],by simp[*],by simp[*],hcs,HK⟩
  ·repeat' (first|((with_reducible apply Bf (d:=81));exact rfl;(apply Ao (ps:=[(0,4),(1,4),(2,4),(3,4),(0,7),(1,7),(2,7),(3,7),(4,7),(5,7),(6,7),(0,8),(1,8),(2,8),(3,8),(4,8),(5,8),(6,8),(7,8),(0,9),(1,9),(2,9),(3,9),(4,9),(5,9),(6,9),(7,9),(0,10),(1,10),(2,10),(3,10),(4,10),(5,10),(6,10),(7,10),(0,11),(1,11),(2,11),(3,11),(4,11),(5,11),(6,11),(7,11),(0,12),(1,12),(2,12),(3,12),(4,12),(5,12),(6,12),(7,12)]));kernel_rfl;(iterate 51 refine Zk ?_);(exact Zz))|(refine Z1 ?_)|(refine Z2 ?_ ?_)|(intro h h';try simp[*,-h] at h'))
   refine⟨L - (j+1),by omega,j+1,N3,y,by omega,by omega,by omega,by omega,by simp[*],by simp[*],by simp[*],by simp[*],by simp[*],by simp[*],?_,?_⟩
   ·refine⟨gc,gh,c,hl,en,cells,hcN,hhl,HEN.out,HCE.out,HHO.out,by simp[*],by rw[HDR.out];simp[*],by simp[*],by simp[*],by simp[*],by simp[*],by simp[*],by simp[*],?_⟩
    intro i G hG hd
    by_cases hif:i=fn
    ·subst hif
     have hG2:=HF.out
     rw[hG] at hG2
     cases hG2
     refine⟨gq,l.set j N3,by simp[*],by simp[HL2.out,hL],by rw[HQ2.out];simp[*]⟩
    ·obtain⟨g',l',h1,h2,h3⟩:=HPL.out i G hG hd
     exact⟨g',l',h1,h2,by simp[*]⟩
   ·intro d i c hd n1
    refine Eq.trans ?_ (HK d i c hd n1)
    have hd2:d≠k+1:=by omega
    by_cases hd0:d=0
    ·subst hd0
     have n2:i≠29:=by omega
     have n3:i≠27:=by omega
     simp[n2,n3]
    ·simp[hd0,hd2]
 have e1: ¬(j:Int)<L:=by omega
 repeat' (first|refine ZN ?_|refine Z2 ?_ ?_|(intro h h';try simp[*,-h] at h'))
 exact⟨rfl,⟨N3,dep3,by omega,by omega,hcs⟩,HK⟩
end Go.Proofs.YtpmoibjpjlhcgaaGreatDoor
namespace Go.Proofs.YtpmoibjpjlhcgaaGreatDoor
open Go Go.Ab Go.Ab.Sy
theorem GT.sub {P:GP}{f dep:Int}{dn dn':Nat->Prop}{N M:Nat}{hp:Hp}(h:GT P f dep dn N M hp)(hd: ∀i,dn' i->dn i):GT P f dep dn' N M hp:=by
 obtain⟨gc,gh,c,hl,en,cells,hcN,hhl,hen,hce,hho,b0,b3,b4,b5,b7,b8,b10,q0,hpl⟩:=h
 exact⟨gc,gh,c,hl,en,cells,hcN,hhl,hen,hce,hho,b0,b3,b4,b5,b7,b8,b10,q0,fun i F hF hi=>hpl i F hF (hd i hi)⟩
theorem Hta {d k:Nat}{hp1:Hp}{P:GP}{f0 dep:Int}(hcs:GT P f0 dep (fun _=>False) 0 0 hp1):HB Tryz.prog E47 (Lm X47) k d 86 [.ptr ⟨0,29,0⟩ 1 0] hp1 (fun v hp2=> ∃(N g:Nat) (cc:List I4),cc.length=N/\N<=2000000000000/\v= .own ⟨k,d,0⟩ g N/\hp2 ⟨k,d,0⟩= .arr g 4 118 (inr cc) false/\ ∀d2 i c,d2<=k->(d2≠0\/(i≠27/\i≠29))->(⟨d2,i,c⟩:Nm)≠⟨k,d,0⟩->hp2 ⟨d2,i,c⟩=hp1 ⟨d2,i,c⟩) (fun _ _=>False):=by
 refine Af (k1:=k+1) (PR:=fun _ _=>False) rfl Tryz.func86 (Ak (by decide)) rfl Cva rfl rvs_86 ?_
 have hcs0:=hcs
 obtain⟨gc,gh,c,hl,en,cells,hcN,hhl,hen,hce,hho,b0,b3,b4,b5,b7,b8,b10,q0,hpl⟩:=hcs0
 have tkc:=Bl hcN
 have HHO:=Lib.hid hho
 have HPL:=Lib.hid hpl
 have HEN:=Lib.hid hen
 have HCE:=Lib.hid hce
 clear hho hpl hen hce
 have HK:=KG.refl k hp1
 have hn1:=P.n1
 have hn2:=P.n2
 have hsn:=P.hn
 obtain⟨rs,hme,rfl⟩:=Tt
 obtain⟨n,hn⟩: ∃n,P.n=n+1:=⟨P.n - 1,by omega⟩
 have hw:IntKind.i64.wrap (n:Int)=(n:Int):=Ag (by omega) (by omega)
 repeat' (first|refine ZN ?_|refine Z2 ?_ ?_|(intro h h';try simp[*,-h] at h')|((with_reducible apply Aa (f:=123));(iterate 5 exact Z5);(apply Bm);(focus (refine GT.congr hcs ?_;intro i c hi;simp));(focus (first|omega|((try simp);omega)));rotate_left;(rintro _ _ h;exact h.elim);(rintro _ hp2 ⟨rfl,hcn,hk2⟩;have HKn:=KG.step HK hk2 (by omega) (fun d i c hd=>by simp[Zl hd]);have hO2:=hk2.own (by omega);clear hcs HK;have hcs:=hcn;have HK:=HKn;clear hcn HKn hk2))|((with_reducible apply Aa (f:=124));(iterate 5 exact Z5);(apply(K2 (P:=P)));(focus omega);(focus (refine GT.congr hcs ?_;intro i c hi;simp));(focus (first|omega|((try simp);omega)));rotate_left;(rintro _ _ h;exact h.elim);(rintro _ hp2 ⟨rfl,⟨N2,dep2,hN1,hN2,hcn⟩,hk2⟩;have HKn:=KG.step HK hk2 (by omega) (fun d i c hd=>by simp[Zl hd]);have hO2:=hk2.own (by omega);clear hcs HK;have hcs:=hcn;have HK:=HKn;clear hcn HKn hk2))|fail)
 refine Ah (n:=n) (fun s0 m z=> ∃(j N3:Nat) (f3 dep3:Int),n - j<=m/\j<=n/\N3<=1400000000*j+1400000001/\z.fr 0= .ptr ⟨0,29,0⟩ 1 0/\z.fr 3=MM/\z.fr 23=iv n/\z.fr 24=iv j/\GT P f3 dep3 (fun i=>i=n\/i<j) N3 N3 z.hp/\KG k hp1 z.hp) ⟨0,_,_,dep2,by omega,by omega,by omega,by simp,by simp,by simp,by simp,hcs.sub (fun i hi=>by omega),HK⟩ ?_
 clear HK hcs hcN hhl b0 b3 b4 b5 b7 b8 b10 q0 tkc
 rintro m ⟨fr,hp⟩ ⟨j,N3,f3,dep3,hm,hj,hN3,f0,f3_,f23,f24,hcs,HK⟩
 simp only at f0 f3_ f23 f24 hcs HK
 by_cases hlt:j<n
 ·have e1:(j:Int)<n:=by omega
  have hwj:IntKind.i64.wrap ((j:Int)+1)=(j:Int)+1:=wrapN (by omega)
  have hj9:j<=999:=by omega
  have hNb:N3<=2000000000000:=by omega
  have HN3:=Lib.hid hN3
  clear hN3
  repeat' (first|refine ZN ?_|refine Z2 ?_ ?_|(intro h h';try simp[*,-h] at h')|((with_reducible apply Aa (f:=124));(iterate 5 exact Z5);(apply(K2 (P:=P)));(focus omega);(focus (refine GT.congr hcs ?_;intro i c hi;simp));(focus (first|omega|((try simp);omega)));rotate_left;(rintro _ _ h;exact h.elim);(rintro _ hp2 ⟨rfl,⟨N2,dep2,hN1,hN2,hcn⟩,hk2⟩;have HKn:=KG.step HK hk2 (by omega) (fun d i c hd=>by simp[Zl hd]);have hO2:=hk2.own (by omega);clear hcs HK;have hcs:=hcn;have HK:=HKn;clear hcn HKn hk2))|fail)
  have hN3:=HN3.out
  exact⟨n - (j+1),by omega,j+1,_,_,_,by omega,by omega,by omega,by simp[*],by simp[*],by simp[*],by simp[*],hcs.sub (fun i hi=>by omega),HK⟩
 have e1: ¬(j:Int)<n:=by omega
 have hj9:j<=999:=by omega
 have hNb:N3<=2000000000000:=by omega
 have hmk:(N3:Int)*32<=140737488355328:=by omega
 have hmk2:(N3:Int)<=9223372036854775807:=by omega
 have hmk3:N3*32<=140737488355328:=by omega
 have hmk4:N3<=9223372036854775807:=by omega
 clear hN3
 have hcs0:=hcs
 obtain⟨gc,gh,c,hl,en,cells,hcN,hhl,hen,hce,hho,b0,b3,b4,b5,b7,b8,b10,q0,hpl⟩:=hcs0
 have tkc:=Bl hcN
 have HHO:=Lib.hid hho
 have HPL:=Lib.hid hpl
 have HEN:=Lib.hid hen
 have HCE:=Lib.hid hce
 clear hho hpl hen hce
 repeat' (first|refine ZN ?_|refine Z2 ?_ ?_|(intro h h';try simp[*,-h] at h'))
 have hor1:(hor hl).length=hl.length:=by simp
 have her1:(ir en).length=P.n:=by simp[HEN.out]
 have hhb:hl.length<=2000000000000:=by omega
 refine Ah (n:=hl.length) (fun s0 m z=> ∃(i:Nat) (cc:List I4),hl.length - i<=m/\i<=hl.length/\cc.length=N3/\z.fr 0= .ptr ⟨0,29,0⟩ 1 0/\z.fr 6= .own ⟨k+1,37,0⟩ ((hp ⟨k+1,37,0⟩).gen+1) N3/\z.fr 47= .own ⟨0,29,10⟩ gh hl.length/\z.fr 48=iv hl.length/\z.fr 49=iv i/\z.hp ⟨k+1,37,0⟩= .arr ((hp ⟨k+1,37,0⟩).gen+1) 4 118 (inr cc) false/\(∀i c,z.hp ⟨0,i,c⟩=hp ⟨0,i,c⟩)/\(∀d i c,d<=k->z.hp ⟨d,i,c⟩=hp ⟨d,i,c⟩)) ⟨0,c,by omega,by omega,hcN,by simp[*],by simp[*],by simp[*],by simp[*],by simp[*],by simp[*],fun i c=>by simp,fun d i c hd=>by have hd2:d≠k+1:=(by omega);simp[hd2]⟩ ?_
 obtain⟨g37,hg37⟩: ∃g,(hp ⟨k+1,37,0⟩).gen+1=g:=⟨_,rfl⟩
 rw[hg37]
 clear f0 f3_ f23 f24 hg37 tkc
 have HK2:=Lib.hid HK
 have HN:=Lib.hid hn
 clear HK hcs hn hw
 rintro m2 ⟨fr2,hp2⟩ ⟨i,cc,hm2,hi,hcc,f0,f6,f47,f48,f49,b37,hz0,hzd⟩
 simp only at f0 f6 f47 f48 f49 b37 hz0 hzd
 have HZD:=Lib.hid hzd
 clear hzd
 by_cases hlt:i<hl.length
 ·have e2:(i:Int)<hl.length:=by omega
  have hwi:IntKind.i64.wrap ((i:Int)+1)=(i:Int)+1:=wrapN (by omega)
  obtain⟨⟨xa,xf,xp⟩,hx⟩: ∃x,hl[i]?=some x:=⟨_,List.getElem?_eq_getElem hlt⟩
  obtain⟨a,f,F,ha,haN,hf,hF,hq⟩:=HHO.out _ (List.mem_of_getElem? hx)
  simp only at ha hf hq
  subst ha hf
  have hhg:(hor hl)[i]?=some [iv a,iv f,iv xp]:=by simp[hx]
  have hfP:f<P.n:=by have:=(List.getElem?_eq_some_iff.1 hF).1;omega
  have hfi:(f:Int)<P.n:=by omega
  have hai:(a:Int)<N3:=by omega
  obtain⟨e,he⟩: ∃e,en[f]?=some e:=⟨_,List.getElem?_eq_getElem (by have:=HEN.out;omega)⟩
  have heg:=B4 he
  obtain⟨⟨w1,w2,w3,w4⟩,hw_⟩: ∃x,cc[a]?=some x:=⟨_,List.getElem?_eq_getElem (by omega)⟩
  have hcg:(inr cc)[a]?=some [iv w1,iv w2,iv w3,iv w4]:=by simp[hw_]
  have hcl:(inr cc).length=N3:=by simp[hcc]
  have hset:(inr cc).set a [iv w1,iv w2,iv w3,iv e]=inr (cc.set a (w1,w2,w3,e)):=by simp[List.map_set]
  have hcg1:(inr (cc.set a (w1,w2,w3,e)))[a]?=some [iv w1,iv w2,iv w3,iv e]:=by rw[<-hset,List.getElem?_set_self (by omega)]
  have hcl1:(inr (cc.set a (w1,w2,w3,e))).length=N3:=by simp[hcc]
  obtain⟨ga,l,hp1_,hp2_,hp3_⟩:=HPL.out f F hF (by have:=HN.out;omega)
  generalize hH:hor hl=H at*
  generalize hR:ir en=R at*
  generalize hC:inr cc=C0 at*
  generalize hC1:inr (cc.set a (w1,w2,w3,e))=C1 at*
  have hhge: ∀(h:i<H.length),H[i]=[iv a,iv f,iv xp]:=fun h=>by have h3:=hhg;rw[List.getElem?_eq_getElem h] at h3;exact Option.some.inj h3
  have hege: ∀(h:f<R.length),R[f]=[iv e]:=fun h=>by have h3:=heg;rw[List.getElem?_eq_getElem h] at h3;exact Option.some.inj h3
  have hcge: ∀(h:a<C0.length),C0[a]=[iv w1,iv w2,iv w3,iv w4]:=fun h=>by have h3:=hcg;rw[List.getElem?_eq_getElem h] at h3;exact Option.some.inj h3
  have hcge1: ∀(h:a<C1.length),C1[a]=[iv w1,iv w2,iv w3,iv e]:=fun h=>by have h3:=hcg1;rw[List.getElem?_eq_getElem h] at h3;exact Option.some.inj h3
  have HCC:=Lib.hid hcc
  have HC1:=Lib.hid hC1
  clear hx hF he hw_ hcc hH hR hC hC1
  by_cases hx0:0<=xp
  ·obtain⟨q,rfl,hqF⟩: ∃q:Nat,xp=q/\q<F.code.length:=by rcases hq with h|h;(exact absurd h (by omega));exact h
   obtain⟨v,hv⟩: ∃v,l[q]?=some v:=⟨_,List.getElem?_eq_getElem (by omega)⟩
   have hvg:=B4 hv
   have hvl:(ir l).length=F.code.length:=by simp[hp2_]
   have hqi:(q:Int)<F.code.length:=by omega
   have hset2:C1.set a [iv w1,iv w2,iv w3,iv v]=inr (cc.set a (w1,w2,w3,v)):=by rw[<-HC1.out];simp[List.map_set]
   have hce2:=HCE.out
   have hf2:f+1<=P.n:=hfP
   have hpe: ∀(h:f<cells.length),cells[f]= .own ⟨0,27,f+1⟩ ga F.code.length:=fun h=>by have h3:=hp1_;rw[List.getElem?_eq_getElem h] at h3;exact Option.some.inj h3
   generalize hQ:ir l=Q at*
   have hvge: ∀(h:q<Q.length),Q[q]=[iv v]:=fun h=>by have h3:=hvg;rw[List.getElem?_eq_getElem h] at h3;exact Option.some.inj h3
   generalize hC2:inr (cc.set a (w1,w2,w3,v))=C2 at*
   have HC2:=Lib.hid hC2
   clear hv hQ hC2 hp2_ hq
   repeat' (first|((with_reducible apply Bf (d:=53));exact rfl;(apply Ao (ps:=[(0,1),(0,2),(0,3),(1,3),(2,3),(0,4),(1,4),(2,4),(0,5),(1,5),(2,5),(0,6),(1,6),(2,6),(0,7),(1,7),(2,7),(3,7),(4,7),(5,7),(6,7),(0,8),(1,8),(2,8),(3,8),(4,8),(5,8),(6,8),(0,9),(1,9),(2,9),(0,10),(1,10),(2,10)]));kernel_rfl;(iterate 34 refine Zk ?_);(exact Zz))|((with_reducible apply Bf (d:=69));exact rfl;(apply Ao (ps:=[(0,1),(0,2),(0,3),(1,3),(2,3),(0,4),(1,4),(2,4),(0,5),(1,5),(2,5),(0,6),(1,6),(2,6),(0,7),(1,7),(2,7),(3,7),(4,7),(5,7),(6,7),(0,8),(1,8),(2,8),(3,8),(4,8),(5,8),(6,8),(0,9),(1,9),(2,9),(0,10),(1,10),(2,10),(0,11),(1,11),(2,11),(3,11),(4,11),(5,11),(6,11),(7,11),(8,11),(9,11),(10,11),(0,12),(1,12),(2,12),(3,12),(4,12),(5,12),(6,12),(7,12),(8,12),(9,12),(10,12),(0,13),(1,13),(2,13),(0,14),(1,14),(2,14)]));kernel_rfl;(iterate 62 refine Zk ?_);(exact Zz))|(refine Z1 ?_)|(refine Z2 ?_ ?_)|(intro h h';try simp[*,-h] at h'))
   exact⟨hl.length - (i+1),by omega,i+1,cc.set a (w1,w2,w3,v),by omega,by omega,by simp[HCC.out],by simp[*],by simp[*],by simp[*],by simp[*],by simp[*],by rw[HC2.out];simp[*],fun i c=>by simp[*],fun d i c hd=>by have hd2:d≠k+1:=(by omega);have h9:=HZD.out d i c hd;simp[hd2,h9]⟩
  ·clear hq hp2_
   repeat' (first|((with_reducible apply Bf (d:=53));exact rfl;(apply Ao (ps:=[(0,1),(0,2),(0,3),(1,3),(2,3),(0,4),(1,4),(2,4),(0,5),(1,5),(2,5),(0,6),(1,6),(2,6),(0,7),(1,7),(2,7),(3,7),(4,7),(5,7),(6,7),(0,8),(1,8),(2,8),(3,8),(4,8),(5,8),(6,8),(0,9),(1,9),(2,9),(0,10),(1,10),(2,10)]));kernel_rfl;(iterate 34 refine Zk ?_);(exact Zz))|(refine Z1 ?_)|(refine Z2 ?_ ?_)|(intro h h';try simp[*,-h] at h'))
   exact⟨hl.length - (i+1),by omega,i+1,cc.set a (w1,w2,w3,e),by omega,by omega,by simp[HCC.out],by simp[*],by simp[*],by simp[*],by simp[*],by simp[*],by rw[HC1.out];simp[*],fun i c=>by simp[*],fun d i c hd=>by have hd2:d≠k+1:=(by omega);have h9:=HZD.out d i c hd;simp[hd2,h9]⟩
 have e2: ¬(i:Int)<hl.length:=by omega
 have hnk:(k+1<=k)=False:=by simp
 repeat' (first|refine ZN ?_|refine Z2 ?_ ?_|(intro h h';try simp[*,-h] at h'))
 refine⟨N3,_,cc,hcc,hNb,rfl,by simp,fun d2 i c hd n1 n2=>?_⟩
 have hd2:d2≠k+1:=by omega
 have h8:=HK2.out d2 i c hd n1
 have h9:=HZD.out d2 i c hd
 simp[n2,hd2,h9,h8]
end Go.Proofs.YtpmoibjpjlhcgaaGreatDoor
