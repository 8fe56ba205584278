/- A part of the proof: Ld, Le, Lf, Da, Db, Dc, Dd, Ea, Eb, Ec. -/
import Derived.Test.YtpmoibjpjlhcgaaGreatDoorT14
set_option linter.unusedSimpArgs false
set_option linter.unusedVariables false
set_option maxRecDepth 200000
set_option maxHeartbeats 8000000
namespace Go.Proofs.YtpmoibjpjlhcgaaGreatDoor
section
open Go Go.Ab Go.Ab.Sy
theorem Sm {sg:List (Nat×Bool)}: ∀{l:List Cx} {j:Nat} {e:Cx},gEs sg l=true->l[j]?=some e->gE sg e=true
 |[],j,e,_,h=>by simp at h
 |x::l,0,e,hg,h=>by
  simp only[List.getElem?_cons_zero,Option.some.injEq] at h
  subst h
  simp only[Dg,Bool.and_eq_true] at hg
  exact hg.1
 |x::l,j+1,e,hg,h=>by
  simp only[Dg,Bool.and_eq_true] at hg
  exact Sm hg.2 (by simpa using h)
theorem gE_mk (sg:List (Nat×Bool))(k o n s z:Int)(l:List Cx):gE sg (.mk k o n s z l)=(gEs sg l&&(if k=1\/k=2\/k=5 then l.length==0 else if k=3\/k=7 then l.length==1 else if k=6\/k=8\/k=9 then l.length==2
   else if k=4 then Hh sg s l.length true else false)):=by rw[gE]
theorem gE_kind {sg:List (Nat×Bool)}{k o n s z:Int}{l:List Cx}(h:gE sg (.mk k o n s z l)=true):gEs sg l=true/\(k=1\/k=2\/k=3\/k=4\/k=5\/k=6\/k=7\/(k=8/\l.length=2)\/(k=9/\l.length=2)):=by
 rw[gE_mk] at h
 simp only[Bool.and_eq_true] at h
 refine⟨h.1,?_⟩
 have h2:=h.2
 by_cases h8:k=8
 ·subst h8;simp at h2;simp[h2]
 by_cases h9:k=9
 ·subst h9;simp at h2;simp[h2]
 by_cases h17:k=1\/k=2\/k=3\/k=4\/k=5\/k=6\/k=7
 ·omega
 ·exfalso
  rw[if_neg Zo,if_neg Zo,if_neg Zo,if_neg Zo] at h2
  cases h2
theorem expr_s {sg:List (Nat×Bool)}(N:Nat)(ih: ∀e:Cx,e.size<N->gE sg e=true->LXl 255 (.dp e.row 0) (fun _ p=>lE p e) (6*e.size))(e:Cx)(he:e.size<=N)(hge0:gE sg e=true):LXl 255 (.dp e.row 0) (fun _ p=>lE p e) (6*e.size):=by
 obtain⟨ek,eo,en,es,ez,l⟩:=e
 obtain⟨hge,hk⟩:=gE_kind hge0
 rw[Pn] at he
 rw[Cd,Pn]
 intro d k hp1 w c hcs hlen
 refine Af (k1:=k+1) (PR:=fun _ _=>False) rfl Tryz.func255 (Aj Zd) rfl Ym rfl rvs_255 ?_
 have HK:=KL.refl k hp1
 have hll:l.length<=1048576:=by have:=J5 l;omega
 by_cases h8:ek=8\/ek=9
 ·have hl2:l.length=2:=Zo
  obtain⟨a,b,rfl⟩:=two_of hl2
  simp only[Dg,Cra,Bool.and_eq_true] at hge
  simp only[Di,J4] at he hlen⊢
  rcases h8 with rfl|rfl
  ·have ei:=L7a eo en es ez a b (ih a Zo hge.1) (ih b Zo hge.2.1)
   repeat' (first|refine ZN ?_|refine Z2 ?_ ?_|(intro h h';try simp[*,-h] at h')|((with_reducible apply Ap (f:=294));exact Zv;(apply(ei _ (k+1) _ _ _));exact ZL;exact ZU;(rintro _ hp2 ⟨rfl,⟨x,hx,hlx,hcn⟩,hk2⟩;have Hx:=Lib.hid hx;clear hx;have HKn:=KL.step HK hk2 Zo (fun d i c hd=>by simp[Zl hd]);have hO2:=hk2.own Zo;clear hcs HK;have hcs:=hcn;have HK:=HKn;clear hcn HKn hk2))|fail)
   have hx:=Hx.out
   simp only at hx
   refine⟨rfl,⟨x,?_,Zo,hcs⟩,HK⟩
   show x=lE c.length (.mk 8 eo en es ez [a,b])
   rw[hx,Ku,if_pos Zi]
  ·have ei:=L6a eo en es ez a b (ih a Zo hge.1) (ih b Zo hge.2.1)
   repeat' (first|refine ZN ?_|refine Z2 ?_ ?_|(intro h h';try simp[*,-h] at h')|((with_reducible apply Ap (f:=294));exact Zv;(apply(ei _ (k+1) _ _ _));exact ZL;exact ZU;(rintro _ hp2 ⟨rfl,⟨x,hx,hlx,hcn⟩,hk2⟩;have Hx:=Lib.hid hx;clear hx;have HKn:=KL.step HK hk2 Zo (fun d i c hd=>by simp[Zl hd]);have hO2:=hk2.own Zo;clear hcs HK;have hcs:=hcn;have HK:=HKn;clear hcn HKn hk2))|fail)
   have hx:=Hx.out
   simp only at hx
   refine⟨rfl,⟨x,?_,Zo,hcs⟩,HK⟩
   show x=lE c.length (.mk 9 eo en es ez [a,b])
   rw[hx,Ku,if_pos Zi]
 obtain⟨n8,n9⟩:ek≠8/\ek≠9:=Zo
 clear h8
 repeat' (first|refine ZN ?_|refine Z2 ?_ ?_|(intro h h';try simp[*,-h] at h'))
 refine Ag (n:=l.length) (fun s0 m z=> ∃(j:Nat) (x:List Si),l.length - j<=m/\j<=l.length/\z.fr 0= .ptr ⟨0,3,0⟩ 1 0/\z.fr 1= .dp [iz ek,iz eo,uz en,iz es,iz ez,.sl false 6 (cxRows l)] 0/\z.fr 24=iv l.length/\z.fr 25=iv j/\x=lEs c.length (l.take j)/\x.length<=6*cxSize (l.take j)/\LT w (c++x) z.hp/\KL k hp1 z.hp) ⟨0,[],Zo,Zo,Zi,Zi,Zi,Zi,Zi,Zi,by simpa using hcs,HK⟩ ?_
 rintro m ⟨fr,hp⟩ ⟨j,x,hm,hj,f0,f1,f24,f25,hx,hxl,hcs,HK⟩
 simp only at f0 f1 f24 f25 hcs HK
 have Hx:=Lib.hid hx
 clear hx
 by_cases hlt:j<l.length
 ·have e1:(j:Int)<l.length:=Zo
  have hg:l[j]?=some l[j]:=List.getElem?_eq_getElem hlt
  have hwj:IntKind.i64.wrap ((j:Int)+1)=(j:Int)+1:=wrapN Zo
  generalize l[j]=e at*
  have hgt:=cx_get hg
  have hsp:=K0 hg
  have hsp2:=Ey l j
  have htk:=Vm hg c.length
  have ihx:=ih e Zo (Sm hge hg)
  have hst:=Ey l (j+1)
  have hst2:cxSize (l.take (j+1))=cxSize (l.take j)+e.size:=by rw[List.take_add_one,hg];simp
  have HTk:=Lib.hid htk
  have hes:e.size<=cxSize l:=Zo
  obtain⟨xk,xo,xn,xs,xz,xl⟩:=e
  simp only[Cd] at hgt ihx
  generalize hez:(Cx.mk xk xo xn xs xz xl).size=esz at*
  clear hg hlt htk hez
  repeat' (first|refine ZN ?_|refine Z2 ?_ ?_|(intro h h';try simp[*,-h] at h')|((with_reducible apply Ap (f:=255));exact Zv;(apply ihx _ (k+1) _ _ _);exact ZL;exact ZU;(rintro _ hp2 ⟨rfl,⟨xa,hxa,hlxa,hcn⟩,hk2⟩;have Hxa:=Lib.hid hxa;clear hxa;have HKn:=KL.step HK hk2 Zo (fun d i c hd=>by simp[Zl hd]);have hO2:=hk2.own Zo;clear hcs HK;have hcs:=hcn;have HK:=HKn;clear hcn HKn hk2))|fail)
  have hx:=Hx.out
  have hxa:=Hxa.out
  have htk:=HTk.out
  refine⟨l.length - (j+1),Zo,j+1,x++xa,Zo,Zo,Zm,Zm,Zm,Zm,?_,?_,by simpa using hcs,HK⟩
  ·rw[htk,<-hx,hxa]
   simp
  ·simp
   omega
 have e1: ¬(j:Int)<l.length:=Zo
 have hz:l.take j=l:=List.take_of_length_le Zo
 rw[hz] at hxl
 have hk7:ek=1\/ek=2\/ek=3\/ek=4\/ek=5\/ek=6\/ek=7:=Zo
 clear hk
 rcases hk7 with rfl|rfl|rfl|rfl|rfl|rfl|rfl
 ·repeat' (first|refine ZN ?_|refine Z2 ?_ ?_|(intro h h';try simp[*,-h] at h')|((with_reducible apply Ap (f:=203));exact Zv;(apply put1 (a:=⟨1,0,0,en⟩));exact ZL;exact ZU;exact Zc;(refine KL.aft HK ?_;clear hcs HK;intro hp2 hO2 hcs HK))|fail)
  have hx:=Hx.out
  refine⟨rfl,⟨x++[⟨1,0,0,en⟩],?_,by simp;omega,by simpa using hcs⟩,HK⟩
  show _=lE c.length (.mk 1 eo en es ez l)
  rw[Ku,if_neg Zd,hx,hz]
  rfl
 ·repeat' (first|refine ZN ?_|refine Z2 ?_ ?_|(intro h h';try simp[*,-h] at h')|((with_reducible apply Ap (f:=203));exact Zv;(apply put1 (a:=⟨2,es,0,0⟩));exact ZL;exact ZU;exact Zc;(refine KL.aft HK ?_;clear hcs HK;intro hp2 hO2 hcs HK))|fail)
  have hx:=Hx.out
  refine⟨rfl,⟨x++[⟨2,es,0,0⟩],?_,by simp;omega,by simpa using hcs⟩,HK⟩
  show _=lE c.length (.mk 2 eo en es ez l)
  rw[Ku,if_neg Zd,hx,hz]
  rfl
 ·have hpX:=put1 (d:=74) (k0:=k) (s0:=73) (a:=⟨4,es,ez,0⟩) (gl:=(hp ⟨k+1,73,0⟩).gen+1) (hp1:=upd hp ⟨k+1,73,0⟩ (.arr ((hp ⟨k+1,73,0⟩).gen+1) 4 315 [[iv 4,iv es,iv ez,uv 0]] false)) (LT.congr hcs (fun i c=>Zi)) (by simp;omega) (by simp;rfl)
  rcases hpX with⟨v,hp2,hcall,rfl,hcn,hk2⟩|⟨_,_,_,_,h⟩
  rotate_left
  ·exact h.elim
  repeat' (first|((with_reducible apply A6);(refine Dx [(0,10)] ?_);(refine Zs ?_);(exact Zz))|(refine Z1 ?_)|(refine Z2 ?_ ?_)|(intro h h';try simp[*,-h] at h'))
  have hx:=Hx.out
  refine⟨rfl,⟨x++[⟨4,es,ez,0⟩],?_,by simp;omega,by simpa using hcn⟩,KL.step HK hk2 Zo (fun d i c hd=>by simp[Zl hd])⟩
  show _=lE c.length (.mk 3 eo en es ez l)
  rw[Ku,if_neg Zd,hx,hz]
  rfl
 ·repeat' (first|refine ZN ?_|refine Z2 ?_ ?_|(intro h h';try simp[*,-h] at h')|((with_reducible apply Ap (f:=203));exact Zv;(apply put1 (a:=⟨10,es,0,0⟩));exact ZL;exact ZU;exact Zc;(refine KL.aft HK ?_;clear hcs HK;intro hp2 hO2 hcs HK))|fail)
  have hx:=Hx.out
  refine⟨rfl,⟨x++[⟨10,es,0,0⟩],?_,by simp;omega,by simpa using hcs⟩,HK⟩
  show _=lE c.length (.mk 4 eo en es ez l)
  rw[Ku,if_neg Zd,hx,hz]
  rfl
 ·repeat' (first|refine ZN ?_|refine Z2 ?_ ?_|(intro h h';try simp[*,-h] at h')|((with_reducible apply Ap (f:=203));exact Zv;(apply put1 (a:=⟨12,0,0,0⟩));exact ZL;exact ZU;exact Zc;(refine KL.aft HK ?_;clear hcs HK;intro hp2 hO2 hcs HK))|fail)
  have hx:=Hx.out
  refine⟨rfl,⟨x++[⟨12,0,0,0⟩],?_,by simp;omega,by simpa using hcs⟩,HK⟩
  show _=lE c.length (.mk 5 eo en es ez l)
  rw[Ku,if_neg Zd,hx,hz]
  rfl
 ·repeat' (first|refine ZN ?_|refine Z2 ?_ ?_|(intro h h';try simp[*,-h] at h')|((with_reducible apply Ap (f:=203));exact Zv;(apply put1 (a:=⟨6,eo,0,0⟩));exact ZL;exact ZU;exact Zc;(refine KL.aft HK ?_;clear hcs HK;intro hp2 hO2 hcs HK))|fail)
  have hx:=Hx.out
  refine⟨rfl,⟨x++[⟨6,eo,0,0⟩],?_,by simp;omega,by simpa using hcs⟩,HK⟩
  show _=lE c.length (.mk 6 eo en es ez l)
  rw[Ku,if_neg Zd,hx,hz]
  rfl
 ·repeat' (first|refine ZN ?_|refine Z2 ?_ ?_|(intro h h';try simp[*,-h] at h')|((with_reducible apply Ap (f:=203));exact Zv;(apply put1 (a:=sNot));exact ZL;exact ZU;exact Zc;(refine KL.aft HK ?_;clear hcs HK;intro hp2 hO2 hcs HK))|fail)
  have hx:=Hx.out
  refine⟨rfl,⟨x++[sNot],?_,by simp;omega,by simpa using hcs⟩,HK⟩
  show _=lE c.length (.mk 7 eo en es ez l)
  rw[Ku,if_neg Zd,hx,hz]
  rfl
theorem expr_n {sg:List (Nat×Bool)}: ∀N (e:Cx),e.size<=N->gE sg e=true->LXl 255 (.dp e.row 0) (fun _ p=>lE p e) (6*e.size)
 |0,e,he,hg=>by have:=e.size_pos;omega
 |N+1,e,he,hg=>expr_s (N+1) (fun e he hg=>expr_n N e Zo hg) e he hg
theorem Cja {sg:List (Nat×Bool)}(e:Cx)(hg:gE sg e=true):LXl 255 (.dp e.row 0) (fun _ p=>lE p e) (6*e.size):=expr_n e.size e (Nat.le_refl _) hg
def LY (w:Bool)(f:Nat)(arg:AV)(code:Nat->List Si)(n:Nat):Prop:= ∀(d k:Nat) (hp1:Hp) (c:List Si),LT w c hp1->c.length+n<=1000000->
 HB P0 E47 (Lm X47) k d f [.ptr ⟨0,3,0⟩ 1 0,arg] hp1 (fun v hp2=>v= .tup []/\(∃x,x=code c.length/\x.length<=n/\LT w (c++x) hp2)/\KL k hp1 hp2) (fun _ _=>False)
theorem cs_get {l:List Cs}{i:Nat}{e:Cs}(h:l[i]?=some e):(csRows l)[i]?=some e.row:=by simp[Jh,h]
theorem Laa {w:Bool}{l:List Cs}{j:Nat}{e:Cs}(h:l[j]?=some e)(p:Nat):lSs w p (l.take (j+1))=lSs w p (l.take j)++lS w (p+(lSs w p (l.take j)).length) e:=by
 rw[List.take_add_one,h]
 show lSs w p (l.take j++[e])=_
 rw[Cla]
 simp
theorem Vx (l:List Cs)(j:Nat):csSize (l.take j)<=csSize l:=by
 conv=>rhs;rw[<-List.take_append_drop j l,Oz]
 omega
theorem Po (k s z:Int)(e:List Cx)(t f:List Cs):(Cs.mk k s z e t f).size=cxSize e+csSize t+csSize f+1:=by rw[Cs.size]
theorem Cpa {sg:List (Nat×Bool)}{w:Bool}: ∀{l:List Cs} {j:Nat} {e:Cs},gSs sg w l=true->l[j]?=some e->gS sg w e=true
 |[],j,e,_,h=>by simp at h
 |x::l,0,e,hg,h=>by
  simp only[List.getElem?_cons_zero,Option.some.injEq] at h
  subst h
  simp only[Kx,Bool.and_eq_true] at hg
  exact hg.1
 |x::l,j+1,e,hg,h=>by
  simp only[Kx,Bool.and_eq_true] at hg
  exact Cpa hg.2 (by simpa using h)
theorem gS_mk (sg:List (Nat×Bool))(w:Bool)(k s z:Int)(e:List Cx)(t f:List Cs):gS sg w (.mk k s z e t f)=(gEs sg e&&gSs sg w t&&gSs sg w f&&(if k=1\/k=3\/k=4\/k=5 then e.length==1 else if k=2 then e.length==2 else if k=6 then Hh sg s e.length false
   else if k=7 then e.length==0||e.length==1&&w else false)):=by rw[gS]
theorem gS_kind {sg:List (Nat×Bool)}{w:Bool}{k s z:Int}{e:List Cx}{t f:List Cs}(h:gS sg w (.mk k s z e t f)=true):gEs sg e=true/\gSs sg w t=true/\gSs sg w f=true/\(k=1\/k=2\/k=3\/k=4\/(k=5/\e.length=1)\/k=6\/k=7):=by
 rw[gS_mk] at h
 simp only[Bool.and_eq_true] at h
 refine⟨h.1.1.1,h.1.1.2,h.1.2,?_⟩
 have h2:=h.2
 by_cases h5:k=5
 ·subst h5;simp at h2;simp[h2]
 by_cases h17:k=1\/k=2\/k=3\/k=4\/k=6\/k=7
 ·omega
 ·exfalso
  rw[if_neg Zo,if_neg Zo,if_neg Zo,if_neg Zo] at h2
  cases h2
theorem Kt (w:Bool)(p:Nat)(k s z:Int)(e:List Cx)(t f:List Cs):lS w p (.mk k s z e t f)=if k=5 then lEs p e++(⟨9,((p+(lEs p e).length+2+(lSs w (p+(lEs p e).length+1) t).length:Nat):Int),0,0⟩::(lSs w (p+(lEs p e).length+1) t++[⟨8,(p:Int),0,0⟩]))
  else if k=4 then lEs p e++(if f.length=0 then⟨9,((p+(lEs p e).length+1+(lSs w (p+(lEs p e).length+1) t).length:Nat):Int),0,0⟩::lSs w (p+(lEs p e).length+1) t
   else⟨9,((p+(lEs p e).length+2+(lSs w (p+(lEs p e).length+1) t).length:Nat):Int),0,0⟩::(lSs w (p+(lEs p e).length+1) t++
    (⟨8,((p+(lEs p e).length+2+(lSs w (p+(lEs p e).length+1) t).length+(lSs w (p+(lEs p e).length+2+(lSs w (p+(lEs p e).length+1) t).length) f).length:Nat):Int),0,0⟩::lSs w (p+(lEs p e).length+2+(lSs w (p+(lEs p e).length+1) t).length) f)))
  else lEs p e++tailS w k s z e:=by rw[lS]
theorem while_w {sg:List (Nat×Bool)}{w:Bool}(s z:Int)(e:Cx)(th el:List Cs)(hge:gE sg e=true)(ihL:LY w 126 (.sl false 6 (csRows th)) (fun p=>lSs w p th) (6*csSize th)):LY w 254 (.dp [iz 5,iz s,iz z,.sl false 6 (cxRows [e]),.sl false 6 (csRows th),.sl false 6 (csRows el)] 0) (fun p=>lS w p (.mk 5 s z [e] th el)) (6*(e.size+csSize th+csSize el+1)):=by
 intro d k hp1 c hcs hlen
 refine Af (k1:=k+1) (PR:=fun _ _=>False) rfl Tryz.func254 (Aj Zd) rfl Yn rfl rvs_254 ?_
 have HK:=KL.refl k hp1
 have h0:=hcs
 obtain⟨g,t1,t2⟩:=h0
 have ihx:=Cja e hge
 obtain⟨ak,ao,an,as_,az,al⟩:=e
 simp only[He,Fz,Cd] at ihx⊢
 generalize hez:(Cx.mk ak ao an as_ az al).size=esz at*
 repeat' (first|refine ZN ?_|refine Z2 ?_ ?_|(intro h h';try simp[*,-h] at h')|((with_reducible apply Ap (f:=255));exact Zv;(apply ihx _ (k+1) _ _ _);exact ZL;exact ZU;(rintro _ hp2 ⟨rfl,⟨xe,hxe,hlxe,hcn⟩,hk2⟩;have Hxe:=Lib.hid hxe;clear hxe;have HKn:=KL.step HK hk2 Zo (fun d i c hd=>by simp[Zl hd]);have hO2:=hk2.own Zo;clear hcs HK;have hcs:=hcn;have HK:=HKn;clear hcn HKn hk2))|fail)
 repeat' (first|refine ZN ?_|refine Z2 ?_ ?_|(intro h h';try simp[*,-h] at h')|((with_reducible apply Ap (f:=256));exact Zv;(apply Gz (d:=19) 9);exact ZL;exact ZU;(rintro _ hp2 ⟨gA,rfl,hbgA,hcn,hkA,hO2⟩;have HKn:=KL.step HK hkA Zo (fun d i c hd=>by simp[Zl hd]);clear hcs HK;have hcs:=hcn;have HK:=HKn;clear hcn HKn hkA))|fail)
 repeat' (first|refine ZN ?_|refine Z2 ?_ ?_|(intro h h';try simp[*,-h] at h')|((with_reducible apply Ap (f:=126));exact Zv;(apply ihL _ (k+1) _ _);exact ZL;exact ZU;(rintro _ hp2 ⟨rfl,⟨xt,hxt,hlxt,hcn⟩,hk2⟩;have Hxt:=Lib.hid hxt;clear hxt;have HKn:=KL.step HK hk2 Zo (fun d i c hd=>by simp[Zl hd]);have hO2:=hk2.own Zo;clear hcs HK;have hcs:=hcn;have HK:=HKn;clear hcn HKn hk2))|fail)
 repeat' (first|refine ZN ?_|refine Z2 ?_ ?_|(intro h h';try simp[*,-h] at h')|((with_reducible apply Ap (f:=203));exact Zv;(apply put1 (a:=⟨8,(c.length:Int),0,0⟩));exact ZL;exact ZU;exact Zc;(refine KL.aft HK ?_;clear hcs HK;intro hp2 hO2 hcs HK))|fail)
 repeat' (first|refine ZN ?_|refine Z2 ?_ ?_|(intro h h';try simp[*,-h] at h')|((with_reducible apply Ap (f:=295));exact Zv;(apply G9 (c1:=(c++xe)) (c2:=(xt++[Si.mk 8 (c.length:Int) 0 0])) (op:=9) (x:=0) (q:=19));(focus (have hq:=hcs;simp at hq⊢;exact LT.congr hq (fun i c=>Zi)));exact Zc;(focus ((try simp);(try omega)));(refine KL.aft HK ?_;clear hcs HK;intro hp2 hO2 hcs HK))|fail)
 have hxe:=Hxe.out
 have hxt:=Hxt.out
 simp only at hxe hxt
 have hxt2:xt=lSs w (c.length+xe.length+1) th:=by
  rw[hxt]
  congr 1
  simp;try omega
 refine⟨rfl,⟨xe++(Si.mk 9 (((c++xe)++(Si.mk 9 0 0 0)::(xt++[Si.mk 8 (c.length:Int) 0 0])).length:Nat) 0 0::(xt++[Si.mk 8 (c.length:Int) 0 0])),?_,by simp;omega,by simpa using hcs⟩,HK⟩
 show _=lS w c.length (.mk 5 s z [.mk ak ao an as_ az al] th el)
 rw[Kt,if_pos rfl]
 have h1:lEs c.length [.mk ak ao an as_ az al]=xe:=by rw[hxe];simp
 rw[h1,<-hxt2]
 simp
 try omega
theorem stmt_s {sg:List (Nat×Bool)}{w:Bool}(N:Nat)(ihL: ∀l:List Cs,csSize l<=N->gSs sg w l=true->LY w 126 (.sl false 6 (csRows l)) (fun p=>lSs w p l) (6*csSize l))(s:Cs)(he:s.size<=N+1)(hg0:gS sg w s=true):LY w 202 (.dp s.row 0) (fun p=>lS w p s) (6*s.size):=by
 obtain⟨ek,es,ez,l,th,el⟩:=s
 obtain⟨hge,hgt0,hgl,hk⟩:=gS_kind hg0
 rw[Po] at he
 rw[L1,Po]
 have iT:=ihL th Zo hgt0
 have iE:=ihL el Zo hgl
 intro d k hp1 c hcs hlen
 refine Af (k1:=k+1) (PR:=fun _ _=>False) rfl Tryz.func202 (Aj Zd) rfl Y7 rfl rvs_202 ?_
 have HK:=KL.refl k hp1
 by_cases h5:ek=5
 ·subst h5
  have hl1:l.length=1:=Zo
  obtain⟨a,rfl⟩:=one_of hl1
  simp only[Dg,Cra,Bool.and_eq_true] at hge
  simp only[Di,J4,Nat.add_zero] at hlen⊢
  have wh:=while_w es ez a th el hge.1 iT
  repeat' (first|refine ZN ?_|refine Z2 ?_ ?_|(intro h h';try simp[*,-h] at h')|((with_reducible apply Ap (f:=254));exact Zv;(apply(wh _ (k+1) _ _));exact ZL;exact ZU;(rintro _ hp2 ⟨rfl,⟨x,hx,hlx,hcn⟩,hk2⟩;have Hx:=Lib.hid hx;clear hx;have HKn:=KL.step HK hk2 Zo (fun d i c hd=>by simp[Zl hd]);have hO2:=hk2.own Zo;clear hcs HK;have hcs:=hcn;have HK:=HKn;clear hcn HKn hk2))|fail)
  have hx:=Hx.out
  simp only at hx
  exact⟨rfl,⟨x,hx,hlx,hcs⟩,HK⟩
 have hll:l.length<=1048576:=by have:=J5 l;omega
 repeat' (first|refine ZN ?_|refine Z2 ?_ ?_|(intro h h';try simp[*,-h] at h'))
 refine Ag (n:=l.length) (fun s0 m z=> ∃(j:Nat) (x:List Si),l.length - j<=m/\j<=l.length/\z.fr 0= .ptr ⟨0,3,0⟩ 1 0/\z.fr 1= .dp [iz ek,iz es,iz ez,.sl false 6 (cxRows l),.sl false 6 (csRows th),.sl false 6 (csRows el)] 0/\z.fr 19=iv l.length/\z.fr 20=iv j/\x=lEs c.length (l.take j)/\x.length<=6*cxSize (l.take j)/\LT w (c++x) z.hp/\KL k hp1 z.hp) ⟨0,[],Zo,Zo,Zi,Zi,Zi,Zi,Zi,Zi,by simpa using hcs,HK⟩ ?_
 rintro m ⟨fr,hp⟩ ⟨j,x,hm,hj,f0,f1,f19,f20,hx,hxl,hcs,HK⟩
 simp only at f0 f1 f19 f20 hcs HK
 have Hx:=Lib.hid hx
 clear hx
 by_cases hlt:j<l.length
 ·have e1:(j:Int)<l.length:=Zo
  have hg:l[j]?=some l[j]:=List.getElem?_eq_getElem hlt
  have hwj:IntKind.i64.wrap ((j:Int)+1)=(j:Int)+1:=wrapN Zo
  generalize l[j]=e at*
  have hgt:=cx_get hg
  have hsp:=K0 hg
  have hsp2:=Ey l j
  have htk:=Vm hg c.length
  have ihx:=Cja e (Sm hge hg)
  have hst2:cxSize (l.take (j+1))=cxSize (l.take j)+e.size:=by rw[List.take_add_one,hg];simp
  have HTk:=Lib.hid htk
  obtain⟨xk,xo,xn,xs,xz,xl⟩:=e
  simp only[Cd] at hgt ihx
  generalize hez:(Cx.mk xk xo xn xs xz xl).size=esz at*
  clear hg hlt htk hez
  repeat' (first|refine ZN ?_|refine Z2 ?_ ?_|(intro h h';try simp[*,-h] at h')|((with_reducible apply Ap (f:=255));exact Zv;(apply ihx _ (k+1) _ _ _);exact ZL;exact ZU;(rintro _ hp2 ⟨rfl,⟨xa,hxa,hlxa,hcn⟩,hk2⟩;have Hxa:=Lib.hid hxa;clear hxa;have HKn:=KL.step HK hk2 Zo (fun d i c hd=>by simp[Zl hd]);have hO2:=hk2.own Zo;clear hcs HK;have hcs:=hcn;have HK:=HKn;clear hcn HKn hk2))|fail)
  have hx:=Hx.out
  have hxa:=Hxa.out
  have htk:=HTk.out
  refine⟨l.length - (j+1),Zo,j+1,x++xa,Zo,Zo,Zm,Zm,Zm,Zm,?_,?_,by simpa using hcs,HK⟩
  ·rw[htk,<-hx,hxa]
   simp
  ·simp
   omega
 have e1: ¬(j:Int)<l.length:=Zo
 have hz:l.take j=l:=List.take_of_length_le Zo
 rw[hz] at hxl
 have hk7:ek=1\/ek=2\/ek=3\/ek=4\/ek=6\/ek=7:=Zo
 clear hk
 rcases hk7 with rfl|rfl|rfl|rfl|rfl|rfl
 ·repeat' (first|refine ZN ?_|refine Z2 ?_ ?_|(intro h h';try simp[*,-h] at h')|((with_reducible apply Ap (f:=203));exact Zv;(apply put1 (a:=⟨3,es,0,0⟩));exact ZL;exact ZU;exact Zc;(refine KL.aft HK ?_;clear hcs HK;intro hp2 hO2 hcs HK))|fail)
  have hx:=Hx.out
  refine⟨rfl,⟨x++[⟨3,es,0,0⟩],?_,by simp;omega,by simpa using hcs⟩,HK⟩
  show _=lS w c.length (.mk 1 es ez l th el)
  rw[Kt,if_neg Zd,if_neg Zd,hx,hz]
  rfl
 ·have hpX:=put1 (d:=59) (k0:=k) (s0:=58) (a:=⟨5,es,ez,0⟩) (gl:=(hp ⟨k+1,58,0⟩).gen+1) (hp1:=upd hp ⟨k+1,58,0⟩ (.arr ((hp ⟨k+1,58,0⟩).gen+1) 4 315 [[iv 5,iv es,iv ez,uv 0]] false)) (LT.congr hcs (fun i c=>Zi)) (by simp;omega) (by simp;rfl)
  rcases hpX with⟨v,hp2,hcall,rfl,hcn,hk2⟩|⟨_,_,_,_,h⟩
  rotate_left
  ·exact h.elim
  repeat' (first|((with_reducible apply A6);(refine Dx [(0,10)] ?_);(refine Zs ?_);(exact Zz))|(refine Z1 ?_)|(refine Z2 ?_ ?_)|(intro h h';try simp[*,-h] at h'))
  have hx:=Hx.out
  refine⟨rfl,⟨x++[⟨5,es,ez,0⟩],?_,by simp;omega,by simpa using hcn⟩,KL.step HK hk2 Zo (fun d i c hd=>by simp[Zl hd])⟩
  show _=lS w c.length (.mk 2 es ez l th el)
  rw[Kt,if_neg Zd,if_neg Zd,hx,hz]
  rfl
 ·repeat' (first|refine ZN ?_|refine Z2 ?_ ?_|(intro h h';try simp[*,-h] at h')|((with_reducible apply Ap (f:=203));exact Zv;(apply put1 (a:=⟨13,0,0,0⟩));exact ZL;exact ZU;exact Zc;(refine KL.aft HK ?_;clear hcs HK;intro hp2 hO2 hcs HK))|fail)
  have hx:=Hx.out
  refine⟨rfl,⟨x++[⟨13,0,0,0⟩],?_,by simp;omega,by simpa using hcs⟩,HK⟩
  show _=lS w c.length (.mk 3 es ez l th el)
  rw[Kt,if_neg Zd,if_neg Zd,hx,hz]
  rfl
 ·by_cases hel:el.length=0
  ·have e2:(el.length:Int)=0:=Zo
   have e3:el=[]:=List.eq_nil_of_length_eq_zero hel
   subst e3
   simp only[X0] at f1
   repeat' (first|refine ZN ?_|refine Z2 ?_ ?_|(intro h h';try simp[*,-h] at h')|((with_reducible apply Ap (f:=256));exact Zv;(apply Gz (d:=93) 9);exact ZL;exact ZU;(rintro _ hp2 ⟨gA,rfl,hbgA,hcn,hkA,hO2⟩;have HKn:=KL.step HK hkA Zo (fun d i c hd=>by simp[Zl hd]);clear hcs HK;have hcs:=hcn;have HK:=HKn;clear hcn HKn hkA))|fail)
   repeat' (first|refine ZN ?_|refine Z2 ?_ ?_|(intro h h';try simp[*,-h] at h')|((with_reducible apply Ap (f:=126));exact Zv;(apply iT _ (k+1) _ _);exact ZL;exact ZU;(rintro _ hp2 ⟨rfl,⟨xt,hxt,hlxt,hcn⟩,hk2⟩;have Hxt:=Lib.hid hxt;clear hxt;have HKn:=KL.step HK hk2 Zo (fun d i c hd=>by simp[Zl hd]);have hO2:=hk2.own Zo;clear hcs HK;have hcs:=hcn;have HK:=HKn;clear hcn HKn hk2))|fail)
   repeat' (first|refine ZN ?_|refine Z2 ?_ ?_|(intro h h';try simp[*,-h] at h')|((with_reducible apply Ap (f:=295));exact Zv;(apply G9 (c1:=(c++x)) (c2:=xt) (op:=9) (x:=0) (q:=93));(focus (have hq:=hcs;simp at hq⊢;exact LT.congr hq (fun i c=>Zi)));exact Zc;(focus ((try simp);(try omega)));(refine KL.aft HK ?_;clear hcs HK;intro hp2 hO2 hcs HK))|fail)
   have hx:=Hx.out
   have hxt:=Hxt.out
   simp only at hxt
   have hxt2:xt=lSs w (c.length+x.length+1) th:=by
    rw[hxt]
    congr 1
    simp;try omega
   refine⟨rfl,⟨x++(Si.mk 9 ((((c++x)++(Si.mk 9 0 0 0)::xt).length:Nat):Int) 0 0::xt),?_,by simp;omega,by simpa using hcs⟩,HK⟩
   show _=lS w c.length (.mk 4 es ez l th [])
   rw[Kt,if_neg Zd,if_pos rfl,if_pos (by simp:([]:List Cs).length=0)]
   have h1:lEs c.length l=x:=by rw[hx,hz]
   rw[h1,<-hxt2]
   simp
   try omega
  ·have e2: ¬(el.length:Int)=0:=Zo
   have e3:el≠[]:=fun h=>hel (by rw[h];rfl)
   repeat' (first|refine ZN ?_|refine Z2 ?_ ?_|(intro h h';try simp[*,-h] at h')|((with_reducible apply Ap (f:=256));exact Zv;(apply Gz (d:=93) 9);exact ZL;exact ZU;(rintro _ hp2 ⟨gA,rfl,hbgA,hcn,hkA,hO2⟩;have HKn:=KL.step HK hkA Zo (fun d i c hd=>by simp[Zl hd]);clear hcs HK;have hcs:=hcn;have HK:=HKn;clear hcn HKn hkA))|fail)
   repeat' (first|refine ZN ?_|refine Z2 ?_ ?_|(intro h h';try simp[*,-h] at h')|((with_reducible apply Ap (f:=126));exact Zv;(apply iT _ (k+1) _ _);exact ZL;exact ZU;(rintro _ hp2 ⟨rfl,⟨xt,hxt,hlxt,hcn⟩,hk2⟩;have Hxt:=Lib.hid hxt;clear hxt;have HKn:=KL.step HK hk2 Zo (fun d i c hd=>by simp[Zl hd]);have hO2:=hk2.own Zo;clear hcs HK;have hcs:=hcn;have HK:=HKn;clear hcn HKn hk2))|fail)
   repeat' (first|refine ZN ?_|refine Z2 ?_ ?_|(intro h h';try simp[*,-h] at h')|((with_reducible apply Ap (f:=256));exact Zv;(apply Gz (d:=109) 8);exact ZL;exact ZU;(rintro _ hp2 ⟨gB,rfl,hbgB,hcn,hkA,hO2⟩;have HKn:=KL.step HK hkA Zo (fun d i c hd=>by simp[Zl hd]);clear hcs HK;have hcs:=hcn;have HK:=HKn;clear hcn HKn hkA))|fail)
   repeat' (first|refine ZN ?_|refine Z2 ?_ ?_|(intro h h';try simp[*,-h] at h')|((with_reducible apply Ap (f:=295));exact Zv;(apply G9 (c1:=(c++x)) (c2:=(xt++[Si.mk 8 0 0 0])) (op:=9) (x:=0) (q:=93));(focus (have hq:=hcs;simp at hq⊢;exact LT.congr hq (fun i c=>Zi)));exact Zc;(focus ((try simp);(try omega)));(refine KL.aft HK ?_;clear hcs HK;intro hp2 hO2 hcs HK))|fail)
   repeat' (first|refine ZN ?_|refine Z2 ?_ ?_|(intro h h';try simp[*,-h] at h')|((with_reducible apply Ap (f:=126));exact Zv;(apply iE _ (k+1) _ _);exact ZL;exact ZU;(rintro _ hp2 ⟨rfl,⟨xe,hxe,hlxe,hcn⟩,hk2⟩;have Hxe:=Lib.hid hxe;clear hxe;have HKn:=KL.step HK hk2 Zo (fun d i c hd=>by simp[Zl hd]);have hO2:=hk2.own Zo;clear hcs HK;have hcs:=hcn;have HK:=HKn;clear hcn HKn hk2))|fail)
   repeat' (first|refine ZN ?_|refine Z2 ?_ ?_|(intro h h';try simp[*,-h] at h')|((with_reducible apply Ap (f:=295));exact Zv;(apply G9 (c1:=(c++(x++(Si.mk 9 ((((c++x)++(Si.mk 9 0 0 0)::(xt++[Si.mk 8 0 0 0])).length:Nat):Int) 0 0::xt)))) (c2:=xe) (op:=8) (x:=0) (q:=109));(focus (have hq:=hcs;simp at hq⊢;exact LT.congr hq (fun i c=>Zi)));exact Zc;(focus ((try simp);(try omega)));(refine KL.aft HK ?_;clear hcs HK;intro hp2 hO2 hcs HK))|fail)
   have hx:=Hx.out
   have hxt:=Hxt.out
   have hxe:=Hxe.out
   simp only at hxt hxe
   have hxt2:xt=lSs w (c.length+x.length+1) th:=by
    rw[hxt]
    congr 1
    simp;try omega
   have hxe2:xe=lSs w (c.length+x.length+2+xt.length) el:=by
    rw[hxe]
    congr 1
    simp;try omega
   refine⟨rfl,⟨x++(Si.mk 9 ((((c++x)++(Si.mk 9 0 0 0)::(xt++[Si.mk 8 0 0 0])).length:Nat):Int) 0 0::(xt++Si.mk 8 ((((c++(x++(Si.mk 9 ((((c++x)++(Si.mk 9 0 0 0)::(xt++[Si.mk 8 0 0 0])).length:Nat):Int) 0 0::xt)))++(Si.mk 8 0 0 0)::xe).length:Nat):Int) 0 0::xe)),?_,by simp;omega,by simpa using hcs⟩,HK⟩
   show _=lS w c.length (.mk 4 es ez l th el)
   rw[Kt,if_neg Zd,if_pos rfl,if_neg hel]
   have h1:lEs c.length l=x:=by rw[hx,hz]
   rw[h1,<-hxt2,<-hxe2]
   simp
   try omega
 ·repeat' (first|refine ZN ?_|refine Z2 ?_ ?_|(intro h h';try simp[*,-h] at h')|((with_reducible apply Ap (f:=203));exact Zv;(apply put1 (a:=⟨10,es,0,0⟩));exact ZL;exact ZU;exact Zc;(refine KL.aft HK ?_;clear hcs HK;intro hp2 hO2 hcs HK))|fail)
  have hx:=Hx.out
  refine⟨rfl,⟨x++[⟨10,es,0,0⟩],?_,by simp;omega,by simpa using hcs⟩,HK⟩
  show _=lS w c.length (.mk 6 es ez l th el)
  rw[Kt,if_neg Zd,if_neg Zd,hx,hz]
  rfl
 ·have hlw:=Ln w
  by_cases hel:l.length=0
  ·have e2: ¬(0:Int)<l.length:=Zo
   have e3:l=[]:=List.eq_nil_of_length_eq_zero hel
   subst e3
   simp only[Fz] at f1
   obtain rfl:j=0:=by have h:=hj;simp at h;exact h
   simp at f19 f20
   have hxl0:x.length<=0:=by simp only[J4] at hxl;omega
   clear e1 e2
   repeat' (first|refine ZN ?_|refine Z2 ?_ ?_|(intro h h';try simp[*,-h] at h')|((with_reducible apply Ap (f:=127));exact Zv;(apply Cka);exact ZL;exact ZU;(refine KL.aft HK ?_;clear hcs HK;intro hp2 hO2 hcs HK))|fail)
   have hx:=Hx.out
   refine⟨rfl,⟨x++leave w,?_,by simp;omega,by simpa using hcs⟩,HK⟩
   show _=lS w c.length (.mk 7 es ez [] th el)
   rw[Kt,if_neg Zd,if_neg Zd,hx,hz]
   simp[tailS]
  ·have e2:(0:Int)<l.length:=Zo
   have e3:0<l.length:=Zo
   have e4:l≠[]:=fun h=>hel (by rw[h];rfl)
   repeat' (first|refine ZN ?_|refine Z2 ?_ ?_|(intro h h';try simp[*,-h] at h')|((with_reducible apply Ap (f:=203));exact Zv;(apply put1 (a:=⟨11,0,0,0⟩));exact ZL;exact ZU;exact Zc;(refine KL.aft HK ?_;clear hcs HK;intro hp2 hO2 hcs HK))|fail)
   have hx:=Hx.out
   refine⟨rfl,⟨x++[⟨11,0,0,0⟩],?_,by simp;omega,by simpa using hcs⟩,HK⟩
   show _=lS w c.length (.mk 7 es ez l th el)
   rw[Kt,if_neg Zd,if_neg Zd,hx,hz]
   simp[tailS,e4]
theorem B0a {sg:List (Nat×Bool)}{w:Bool}(N:Nat)(hN:N<=200000)(ih: ∀s:Cs,s.size<=N->gS sg w s=true->LY w 202 (.dp s.row 0) (fun p=>lS w p s) (6*s.size))(l:List Cs)(hl:csSize l<=N)(hge:gSs sg w l=true):LY w 126 (.sl false 6 (csRows l)) (fun p=>lSs w p l) (6*csSize l):=by
 intro d k hp1 c hcs hlen
 refine Af (k1:=k+1) (PR:=fun _ _=>False) rfl Tryz.func126 (Aj Zd) rfl A7a rfl rvs_126 ?_
 have HK:=KL.refl k hp1
 have hll:l.length<=1048576:=by have:=Oy l;omega
 repeat' (first|refine ZN ?_|refine Z2 ?_ ?_|(intro h h';try simp[*,-h] at h'))
 refine Ag (n:=l.length) (fun s0 m z=> ∃(j:Nat) (x:List Si),l.length - j<=m/\j<=l.length/\z.fr 0= .ptr ⟨0,3,0⟩ 1 0/\z.fr 1= .sl false 6 (csRows l)/\z.fr 6=iv l.length/\z.fr 7=iv j/\x=lSs w c.length (l.take j)/\x.length<=6*csSize (l.take j)/\LT w (c++x) z.hp/\KL k hp1 z.hp) ⟨0,[],Zo,Zo,Zi,Zi,Zi,Zi,Zi,Zi,by simpa using hcs,HK⟩ ?_
 rintro m ⟨fr,hp⟩ ⟨j,x,hm,hj,f0,f1,f6,f7,hx,hxl,hcs,HK⟩
 simp only at f0 f1 f6 f7 hcs HK
 have Hx:=Lib.hid hx
 clear hx
 by_cases hlt:j<l.length
 ·have e1:(j:Int)<l.length:=Zo
  have hg:l[j]?=some l[j]:=List.getElem?_eq_getElem hlt
  have hwj:IntKind.i64.wrap ((j:Int)+1)=(j:Int)+1:=wrapN Zo
  generalize l[j]=e at*
  have hgt:=cs_get hg
  have hsp2:=Vx l (j+1)
  have htk:=Laa (w:=w) hg c.length
  have hes:=Xz hg
  have ihx:=ih e Zo (Cpa hge hg)
  have hst2:csSize (l.take (j+1))=csSize (l.take j)+e.size:=by rw[List.take_add_one,hg];simp
  have HTk:=Lib.hid htk
  obtain⟨xk,xs,xz,xe,xth,xel⟩:=e
  simp only[L1] at hgt ihx
  generalize hez:(Cs.mk xk xs xz xe xth xel).size=esz at*
  clear hg hlt htk hez
  repeat' (first|refine ZN ?_|refine Z2 ?_ ?_|(intro h h';try simp[*,-h] at h')|((with_reducible apply Ap (f:=202));exact Zv;(apply ihx _ (k+1) _ _);exact ZL;exact ZU;(rintro _ hp2 ⟨rfl,⟨xa,hxa,hlxa,hcn⟩,hk2⟩;have Hxa:=Lib.hid hxa;clear hxa;have HKn:=KL.step HK hk2 Zo (fun d i c hd=>by simp[Zl hd]);have hO2:=hk2.own Zo;clear hcs HK;have hcs:=hcn;have HK:=HKn;clear hcn HKn hk2))|fail)
  have hx:=Hx.out
  have hxa:=Hxa.out
  have htk:=HTk.out
  refine⟨l.length - (j+1),Zo,j+1,x++xa,Zo,Zo,Zm,Zm,Zm,Zm,?_,?_,by simpa using hcs,HK⟩
  ·rw[htk,<-hx,hxa]
   simp
  ·simp
   omega
 have e1: ¬(j:Int)<l.length:=Zo
 have hz:l.take j=l:=List.take_of_length_le Zo
 rw[hz] at hxl
 repeat' (first|refine ZN ?_|refine Z2 ?_ ?_|(intro h h';try simp[*,-h] at h'))
 have hx:=Hx.out
 refine⟨rfl,⟨x,?_,hxl,hcs⟩,HK⟩
 show x=lSs w c.length l
 rw[hx,hz]
theorem B1a {sg:List (Nat×Bool)}{w:Bool}: ∀N,N<=200000-> ∀(l:List Cs),csSize l<=N->gSs sg w l=true->LY w 126 (.sl false 6 (csRows l)) (fun p=>lSs w p l) (6*csSize l)
 |0,h,l,hl,hg=>B0a 0 h (fun s hs _=>by have:=s.size_pos;omega) l hl hg
 |N+1,h,l,hl,hg=>B0a (N+1) h (fun s hs hg=>stmt_s N (fun l hl hg=>B1a N Zo l hl hg) s hs hg) l hl hg
theorem K4a {sg:List (Nat×Bool)}{w:Bool}(l:List Cs)(hl:csSize l<=200000)(hg:gSs sg w l=true):LY w 126 (.sl false 6 (csRows l)) (fun p=>lSs w p l) (6*csSize l):=B1a 200000 (Nat.le_refl _) l hl hg
theorem lbody_w {sg:List (Nat×Bool)}(f:Cf)(hg:gSs sg f.word f.body=true)(hl:csSize f.body<=20000):(Lm X47).dat 88 [.agg [iz f.params,iz f.slots,iz f.first,bz f.word,.sl false 6 (csRows f.body)]]=some [.vec 4 ((lF f).map Si.row)]:=by
 refine fnW (P:=P0) (E:=E47) (X:=X47) Tryz.func88 (An _ _) rfl Fka rfl rtys_88 rvs_88 ?_
 have ls:=K4a (sg:=sg) f.body Zo hg
 obtain⟨p1,p2,p3,p4,p5⟩:=f
 simp only at hg hl ls⊢
 have hlw:=Ln p4
 repeat' (first|refine ZN ?_|refine Z2 ?_ ?_|(intro h h';try simp[*,-h] at h')|((with_reducible apply Ap (f:=126));exact Zv;(apply(ls _ 0 _ []));(focus exact⟨2,Zi,Zi⟩);(focus (simp;omega));(rintro _ hp2 ⟨rfl,⟨x,hx,hlx,hcn⟩,hk2⟩;have Hx:=Lib.hid hx;clear hx))|fail)
 repeat' (first|refine ZN ?_|refine Z2 ?_ ?_|(intro h h';try simp[*,-h] at h')|((with_reducible apply Ap (f:=127));exact Zv;(apply Cka (c:=x));(focus (simpa using hcn));(focus omega);(rintro _ hp3 ⟨rfl,⟨g,q1,q2⟩,hk3⟩))|fail)
 have hx:=Hx.out
 have hx2:x=lSs p4 0 p5:=hx
 rw[show lF ⟨p1,p2,p3,p4,p5⟩=x++leave p4 from by rw[hx2];rfl]
 rw[List.map_append]
def lowF (f:Cf):Sf:=⟨f.params,f.slots,f.first,f.word,lF f⟩
theorem cf_get {l:List Cf}{i:Nat}{f:Cf}(h:l[i]?=some f):(l.map Cf.row)[i]?=some f.row:=by simp[h]
theorem B2a (l:List Sf):(l.map Sf.row).take l.length=l.map Sf.row:=by rw[List.take_of_length_le Zi]
theorem lowOf_w {sg:List (Nat×Bool)}(w0:Int)(fs:List Cf)(hg: ∀f∈fs,gSs sg f.word f.body=true/\csSize f.body<=20000)(hl:fs.length<=1048576):(Lm X47).dat 53 [.agg [iz w0,.sl false 5 (fs.map Cf.row)]]=some [.agg [iz w0,.vec 5 ((fs.map lowF).map Sf.row)]]:=by
 refine fnW (P:=P0) (E:=E47) (X:=X47) Tryz.func53 (An _ _) rfl F5a rfl rtys_53 rvs_53 ?_
 repeat' (first|refine ZN ?_|refine Z2 ?_ ?_|(intro h h';try simp[*,-h] at h'))
 refine Ag (n:=fs.length) (fun s0 m z=> ∃j g:Nat,fs.length - j<=m/\j<=fs.length/\z.fr 2= .ptr ⟨0,2,0⟩ 1 0/\z.fr 3= .ptr ⟨0,3,0⟩ 1 0/\z.fr 10= .sl false 5 (fs.map Cf.row)/\z.fr 11=iv fs.length/\z.fr 12=iv j/\z.hp ⟨0,2,0⟩= .box 1 [iv 0,.own ⟨0,2,2⟩ 1 0] false/\z.hp ⟨0,2,2⟩= .arr 1 5 177 [] false/\z.hp ⟨0,3,0⟩= .box 1 [iv w0,.own ⟨0,3,2⟩ g ((fs.take j).map lowF).length] false/\z.hp ⟨0,3,2⟩= .arr g 5 177 (((fs.take j).map lowF).map Sf.row) false) ⟨0,2,Zo,Zo,Zi,Zi,Zi,Zi,Zi,Zi,Zi,Zi,Zi⟩ ?_
 rintro m ⟨fr,hp⟩ ⟨j,g,hm,hj,f2,f3,f10,f11,f12,h2,h22,h3,h32⟩
 simp only at f2 f3 f10 f11 f12 h2 h22 h3 h32
 by_cases hlt:j<fs.length
 ·have e1:(j:Int)<fs.length:=Zo
  have hgj:fs[j]?=some fs[j]:=List.getElem?_eq_getElem hlt
  have hwj:IntKind.i64.wrap ((j:Int)+1)=(j:Int)+1:=wrapN Zo
  generalize fs[j]=f at*
  have hgt:=cf_get hgj
  have hf:=hg f (List.mem_of_getElem? hgj)
  have hbw:=lbody_w f hf.1 hf.2
  have htk:(fs.take (j+1)).map lowF=(fs.take j).map lowF++[lowF f]:=by rw[List.take_add_one,hgj];simp
  have hle:((fs.take j).map lowF).length<=1048576:=by simp;omega
  generalize (fs.take j).map lowF=S at*
  obtain⟨p1,p2,p3,p4,p5⟩:=f
  simp only[Cf.row] at hgt
  simp only[lowF] at htk
  simp only at hbw
  have x1:(S.length+1)*56<=140737488355328:=Zo
  have x2:S.length<=9223372036854775806:=Zo
  have x3:=B2a S
  have x4:=Rw (lF ⟨p1,p2,p3,p4,p5⟩)
  generalize lF ⟨p1,p2,p3,p4,p5⟩=C at*
  have HT:=Lib.hid htk
  have HG:=Lib.hid hg
  clear hgj hlt htk hg hf
  repeat' (first|refine ZN ?_|refine Z2 ?_ ?_|(intro h h';try simp[*,-h] at h'))
  have htk:=HT.out
  exact⟨fs.length - (j+1),Zo,j+1,g+1,Zo,Zo,Zm,Zm,Zm,Zm,Zm,Zm,Zm,by rw[htk];simp[*],by rw[htk];simp[*,Sf.row]⟩
 have e1: ¬(j:Int)<fs.length:=Zo
 have hz:fs.take j=fs:=List.take_of_length_le Zo
 rw[hz] at h3 h32
 have x3:=B2a (fs.map lowF)
 have HG:=Lib.hid hg
 clear hg
 repeat' (first|refine ZN ?_|refine Z2 ?_ ?_|(intro h h';try simp[*,-h] at h'))
 simp[*]
def TD (q:Nat)(l:List Int)(hp:Hp):Prop:= ∃g rows,hp ⟨0,q,0⟩= .box 1 [.own ⟨0,q,1⟩ g l.length] false/\hp ⟨0,q,1⟩= .arr g 1 3 rows false/\l.length<=rows.length/\rows.take l.length=l.map fun x=>[iv x]
def KD (q:Nat)(hp1 hp2:Hp):Prop:= ∀i c,i≠q->hp2 ⟨0,i,c⟩=hp1 ⟨0,i,c⟩
theorem push_w {d q:Nat}{hp1:Hp}{l:List Int}(x:Int)(ht:TD q l hp1)(hl:l.length<=1048576):HB P0 E47 (Lm X47) 0 d 174 [.ptr ⟨0,q,0⟩ 1 0,iv x] hp1 (fun v hp2=>v= .tup []/\TD q (l++[x]) hp2/\KD q hp1 hp2) (fun _ _=>False):=by
 refine Af (k1:=1) (PR:=fun _ _=>False) rfl Tryz.func174 (Aj Zd) rfl Aka rfl rvs_174 ?_
 obtain⟨g,rows,h1,h2,h3,h4⟩:=ht
 have x1:(l.length+1)*8<=140737488355328:=Zo
 have x2:l.length<=9223372036854775806:=Zo
 by_cases hc:l.length<rows.length
 ·have hm:min l.length rows.length=l.length:=Zo
  repeat' (first|refine ZN ?_|refine Z2 ?_ ?_|(intro h h';try simp[*,-h] at h'))
  exact⟨rfl,⟨g+1+1,_,Zi,by simp;rfl,Zi,by rw[List.take_of_length_le Zi];simp⟩,fun i c hi=>by simp[hi]⟩
 ·have hrl:rows.length=l.length:=Zo
  have hrows:rows=l.map fun x=>[iv x]:=by rw[<-h4,List.take_of_length_le Zo]
  subst hrows
  clear hrl h3 h4 hc
  repeat' (first|refine ZN ?_|refine Z2 ?_ ?_|(intro h h';try simp[*,-h] at h'))
  exact⟨rfl,⟨g+1,_,Zi,by simp;rfl,Zi,by rw[List.take_of_length_le Zi];simp⟩,fun i c hi=>by simp[hi]⟩
theorem size_w {d q:Nat}{hp1:Hp}{l:List Int}(ht:TD q l hp1):HB P0 E47 (Lm X47) 0 d 175 [.ptr ⟨0,q,0⟩ 1 0] hp1 (fun v hp2=>v=iv l.length/\hp2=hp1) (fun _ _=>False):=by
 refine Af (k1:=1) (PR:=fun _ _=>False) rfl Tryz.func175 (Aj Zd) rfl Aja rfl rvs_175 ?_
 obtain⟨g,rows,h1,h2,h3,h4⟩:=ht
 repeat' (first|refine ZN ?_|refine Z2 ?_ ?_|(intro h h';try simp[*,-h] at h'))
 exact⟨rfl,rfl⟩
theorem pop_w {d q:Nat}{hp1:Hp}{l:List Int}{x:Int}(ht:TD q (l++[x]) hp1)(hl:l.length<=1048576):HB P0 E47 (Lm X47) 0 d 176 [.ptr ⟨0,q,0⟩ 1 0] hp1 (fun v hp2=>v=iv x/\TD q l hp2/\KD q hp1 hp2) (fun _ _=>False):=by
 refine Af (k1:=1) (PR:=fun _ _=>False) rfl Tryz.func176 (Aj Zd) rfl Aia rfl rvs_176 ?_
 obtain⟨g,rows,h1,h2,h3,h4⟩:=ht
 have w1:IntKind.i64.wrap (((l++[x]).length:Int) - 1)=l.length:=by rw[Ad (by simp<;>omega) (by simp<;>omega)];simp
 have hg:rows[l.length]?=some [iv x]:=by
  have h5:(rows.take (l++[x]).length)[l.length]?=some [iv x]:=by rw[h4];simp
  rw[List.getElem?_take] at h5
  simpa using h5
 have hlt:(l.length:Int)<(l.length:Int)+1:=Zo
 have wl:IntKind.i64.wrap (l.length:Int)=l.length:=Ad Zo Zo
 have hll:(l++[x]).length=l.length+1:=Zi
 rw[hll] at h1 h3 h4 w1
 repeat' (first|refine ZN ?_|refine Z2 ?_ ?_|(intro h h';try simp[*,-h] at h'))
 have h5:=congrArg (List.take l.length) h4
 rw[List.take_take,Nat.min_eq_left Zo,List.map_append,List.take_append_of_le_length Zi,List.take_of_length_le (l:=List.map _ l) Zi] at h5
 exact⟨rfl,⟨g,rows,Zi,by simp[h2],Zo,h5⟩,fun i c hi=>by simp[hi]⟩
theorem Cya (w:Bool):(Lm X47).dat 253 [bv w]=some [iv (cnt w)]:=by
 refine fnW (P:=P0) (E:=E47) (X:=X47) Tryz.func253 (An _ _) rfl Yo rfl H1a rvs_253 ?_
 cases w
 all_goals exact ZS
theorem next_w (c:Si)(p:Nat)(hp:p<=1048576):(Lm X47).dat 178 [.agg [iz c.op,iz c.a,iz c.b,uz c.n],iv p]=some [.vec 1 ((succs c p).map fun x=>[iv x])]:=by
 refine fnW (P:=P0) (E:=E47) (X:=X47) Tryz.func178 (An _ _) rfl Aga rfl H8a rvs_178 ?_
 have hw:IntKind.i64.wrap ((p:Int)+1)=(p:Int)+1:=wrapN Zo
 obtain⟨op,a,b,n⟩:=c
 simp only[succs]
 repeat' (first|refine ZN ?_|refine Z2 ?_ ?_|(intro h h';try simp[*,-h] at h'))
 all_goals simp_all
def SG (sg:List (Nat×Bool))(sfs:List Sf):Prop:= ∀(i p:Nat) (v:Bool),sg[i]?=some (p,v)-> ∃F:Sf,sfs[i]?=some F/\F.params=(p:Int)/\F.word=v
theorem two_eq {x y:Int}{b:Bool}(h:x=y)(hb:b=true):[AV.sc (.int .i64 x),AV.sc (.bool b)]=[iv y,bv true]:=by rw[h,hb]
theorem Lg {l:List Sf}{i:Nat}{f:Sf}(h:l[i]?=some f):(l.map Sf.row)[i]?=some f.row:=by simp[h]
theorem Mpa {sg:List (Nat×Bool)}(w0:Int)(sfs:List Sf)(hl:sfs.length<=1048576)(hsg:SG sg sfs)(f:Nat)(F:Sf)(hf:sfs[f]?=some F)(c:Si)(d d2:Nat)(hd:d<=1048576)(h:stepD sg F.word c d=some d2):(Lm X47).dat 177 [.agg [iz w0,.sl false 5 (sfs.map Sf.row)],iv f,.agg [iz c.op,iz c.a,iz c.b,uz c.n],iv d]=some [iv d2,bv true]:=by
 refine fnW (P:=P0) (E:=E47) (X:=X47) Tryz.func177 (An _ _) rfl Aha rfl H9a rvs_177 ?_
 have w0':IntKind.i64.wrap (d:Int)=d:=Ad Zo Zo
 have w1:IntKind.i64.wrap ((d:Int) - 1)=(d:Int) - 1:=Ad Zo Zo
 have w2:IntKind.i64.wrap ((d:Int) - 2)=(d:Int) - 2:=Ad Zo Zo
 have w3:IntKind.i64.wrap ((d:Int)+1)=(d:Int)+1:=Ad Zo Zo
 have w4:IntKind.i64.wrap ((d:Int) - 2+1)=(d:Int) - 2+1:=Ad Zo Zo
 have hfl:f<sfs.length:=(List.getElem?_eq_some_iff.1 hf).1
 have hrow:=Lg hf
 have hfi:(f:Int)<sfs.length:=Zo
 clear hf hfl
 obtain⟨F1,F2,F3,F4,F5⟩:=F
 obtain⟨op,a,b,n⟩:=c
 simp only[Sf.row] at hrow
 simp only at h⊢
 have cw:=Cya F4
 obtain(rfl|rfl|rfl|rfl|rfl|rfl|rfl|rfl|rfl|rfl|rfl|rfl|rfl|hop):op=1\/op=2\/op=3\/op=4\/op=5\/op=6\/op=7\/op=8\/op=9\/op=12\/op=13\/op=11\/op=10\/(op≠1/\op≠2/\op≠3/\op≠4/\op≠5/\op≠6/\op≠7/\op≠8/\op≠9/\op≠10/\op≠11/\op≠12/\op≠13):=Zo
 rotate_right
 ·exfalso
  unfold stepD at h
  simp only at h
  rw[if_neg Zo,if_neg Zo,if_neg Zo,if_neg Zo,if_neg Zo,if_neg Zo,if_neg Zo,if_neg Zo] at h
  cases h
 rotate_right
 ·unfold stepD at h
  simp at h
  obtain⟨ha,h⟩:=h
  obtain⟨j,rfl⟩: ∃j:Nat,a=j:=⟨a.toNat,Zo⟩
  simp only[Int.toNat_natCast] at h
  split at h
  ·rename_i ps v hj
   obtain⟨G,hG,hp1,hp2⟩:=hsg j ps v hj
   have hjl:j<sfs.length:=(List.getElem?_eq_some_iff.1 hG).1
   have hrow2:=Lg hG
   have hji:(j:Int)<sfs.length:=Zo
   have hji2: ¬(sfs.length:Int)<=j:=Zo
   obtain⟨G1,G2,G3,G4,G5⟩:=G
   simp only[Sf.row] at hrow2
   simp only at hp1 hp2
   subst hp1 hp2
   have cw2:=Cya G4
   split at h
   ·rename_i hpd
    cases h
    have hpd2:(ps:Int)<=d:=Zo
    have w5:IntKind.i64.wrap ((d:Int) - ps)=(d:Int) - ps:=Ad Zo Zo
    have w6:IntKind.i64.wrap ((d:Int) - ps+cnt G4)=(d:Int) - ps+cnt G4:=by cases G4<;>(simp[cnt];exact Ad Zo Zo)
    have hps0: ¬(ps:Int)<0:=Zo
    clear hG hjl hj hsg hpd
    repeat' (first|refine ZN ?_|refine Z2 ?_ ?_|(intro h h';try simp[*,-h] at h'))
    all_goals refine two_eq ?_ ?_
    all_goals first|rfl|(simp;omega)|(rw[w6];omega)
   ·cases h
  ·cases h
 rotate_right
 ·clear w0' w1 w2 w3 w4
  cases F4
  ·have h1:d=0/\d2=0:=by simp[stepD,cnt] at h;omega
   obtain⟨rfl,rfl⟩:=h1
   simp only[cnt] at cw
   clear h
   repeat' (first|refine ZN ?_|refine Z2 ?_ ?_|(intro h h';try simp[*,-h] at h'))
   all_goals simp
  ·have h1:d=1/\d2=0:=by simp[stepD,cnt] at h;omega
   obtain⟨rfl,rfl⟩:=h1
   simp only[cnt] at cw
   clear h
   repeat' (first|refine ZN ?_|refine Z2 ?_ ?_|(intro h h';try simp[*,-h] at h'))
   all_goals simp
 all_goals have HS:=Lib.hid h
 all_goals clear h
 repeat' (first|refine ZN ?_|refine Z2 ?_ ?_|(intro h h';try simp[*,-h] at h'))
 all_goals have h:=HS.out
 all_goals simp[stepD] at h
 all_goals refine two_eq ?_ ?_
 all_goals first
  |rfl
  |omega
  |(simp;omega)
  |((repeat rw[wrapD _ Zo Zo]);omega)
abbrev ir (l:List Int):List (List AV):=l.map fun x=>[iv x]
theorem B5 {l:List Int}{i:Nat}{x:Int}(h:l[i]?=some x):(ir l)[i]?=some [iv x]:=by simp[h]
theorem Oj (l:List Int)(i:Nat)(x:Int):(ir l).set i [iv x]=ir (l.set i x):=by simp[ir,List.map_set]
theorem Hha {sg:List (Nat×Bool)}{w:Bool}{c:Si}{d d2:Nat}(h:stepD sg w c d=some d2):d2<=d+1:=by
 unfold stepD at h
 repeat' split at h
 all_goals first
  |(cases h;done)
  |(cases h;omega)
  |(rename_i v _ _;cases h;cases v<;>simp[cnt]<;>omega)
def uns (l:List Int):Nat:=l.countP fun x=>decide (x<0)
theorem Bxa : ∀{l:List Int} {i:Nat} {x y:Int},l[i]?=some x->x<0->0<=y->uns (l.set i y)+1=uns l
 |a::l,0,x,y,h,hx,hy=>by
  simp only[List.getElem?_cons_zero,Option.some.injEq] at h
  subst h
  have h1: ¬y<0:=Zo
  simp[uns,hx,h1]
 |a::l,i+1,x,y,h,hx,hy=>by
  have:=Bxa (l:=l) (i:=i) (x:=x) (y:=y) (by simpa using h) hx hy
  simp only[uns,List.set_cons_succ,List.countP_cons] at this⊢
  omega
theorem uns_le (l:List Int):uns l<=l.length:=List.countP_le_length
structure DI (D:Nat->Nat)(n:Nat)(ds todo:List Int):Prop where
 len:ds.length=n
 val: ∀(i:Nat) (x:Int),ds[i]?=some x->x= -1\/(x=D i/\D i+uns ds<=n)
 tod: ∀t∈todo,∃i:Nat,t=i/\ds[i]?=some (D i:Int)
theorem DI.pop {D:Nat->Nat}{n:Nat}{ds l:List Int}{x:Int}(h:DI D n ds (l++[x])):DI D n ds l:=⟨h.len,h.val,fun t ht=>h.tod t (List.mem_append_left _ ht)⟩
theorem DI.add {D:Nat->Nat}{n:Nat}{ds l:List Int}{q d2:Nat}(h:DI D n ds l)(hq:ds[q]?=some (-1))(hd:D q=d2)(hu:d2+uns ds<=n+1):DI D n (ds.set q d2) (l++[(q:Int)])/\uns (ds.set q (d2:Int))+1=uns ds:=by
 have hs:=Bxa (y:=(d2:Int)) hq Zo Zo
 have hql:q<ds.length:=(List.getElem?_eq_some_iff.1 hq).1
 refine⟨⟨by rw[List.length_set];exact h.len,fun i x hi=>?_,fun t ht=>?_⟩,hs⟩
 ·rw[List.getElem?_set] at hi
  split at hi
  ·rename_i e
   subst e
   cases hi
   right
   exact⟨by rw[hd],Zo⟩
  ·rcases h.val i x hi with h1|⟨h1,h2⟩
   ·exact .inl h1
   ·exact .inr ⟨h1,Zo⟩
 ·rcases List.mem_append.1 ht with ht|ht
  ·obtain⟨i,rfl,hi⟩:=h.tod t ht
   refine⟨i,rfl,?_⟩
   rw[List.getElem?_set]
   split
   ·rename_i e
    subst e
    rw[hq] at hi
    simp at hi
   ·exact hi
  ·simp only[List.mem_singleton] at ht
   subst ht
   refine⟨q,rfl,?_⟩
   rw[List.getElem?_set,if_pos rfl,if_pos hql,hd]
theorem Dma (c:Si)(p:Nat):(succs c p).length<=2:=by
 unfold succs
 repeat' split
 all_goals simp
theorem Jo (a b c:Int)(w:Bool)(l:List Si):(Sf.mk a b c w l).row=[iz a,iz b,iz c,bz w,.sl false 4 (l.map Si.row)]:=rfl
theorem TD.congr {q:Nat}{l:List Int}{hp hp':Hp}(h:TD q l hp)(he: ∀c,hp' ⟨0,q,c⟩=hp ⟨0,q,c⟩):TD q l hp':=by
 obtain⟨g,rows,h1,h2,h3,h4⟩:=h
 exact⟨g,rows,(he _).trans h1,(he _).trans h2,h3,h4⟩
theorem si_get {l:List Si}{i:Nat}{c:Si}(h:l[i]?=some c):(l.map Si.row)[i]?=some [iz c.op,iz c.a,iz c.b,uz c.n]:=by simp[h,Si.row]
theorem M2a {sg:List (Nat×Bool)}(w0:Int)(sfs:List Sf)(hl:sfs.length<=1048576)(hsg:SG sg sfs)(f:Nat)(F1 F2 F3:Int)(fw:Bool)(code:List Si)(hf:sfs[f]?=some ⟨F1,F2,F3,fw,code⟩)(hn1:1<=code.length)(hn2:code.length<=500000)(D:Nat->Nat)(D0:D 0=0)(hD: ∀(i:Nat) (c:Si),code[i]?=some c-> ∃d2,stepD sg fw c (D i)=some d2/\ ∀j∈succs c i,∃q:Nat,j=q/\q<code.length/\D q=d2): ∃rs,(Lm X47).dat 121 [.agg [iz w0,.sl false 5 (sfs.map Sf.row)],iv f]=some rs/\ ∃ds:List Int,ds.length=code.length/\rs=[.vec 1 (ir ds),bv true]:=by
 refine fnR (P:=P0) (E:=E47) (X:=X47) (R:=fun rs=> ∃ds:List Int,ds.length=code.length/\rs=[.vec 1 (ir ds),bv true]) Tryz.func121 (An _ _) rfl Bba rfl Jpa rvs_121 ?_
 have hfl:f<sfs.length:=(List.getElem?_eq_some_iff.1 hf).1
 have hrow:=Lg hf
 have hf0: ¬(f:Int)<0:=Zo
 have hfi:(f:Int)<sfs.length:=Zo
 have hfi2: ¬(sfs.length:Int)<=f:=Zo
 rw[Jo] at hrow
 obtain⟨n,hn⟩: ∃n,code.length=n:=⟨_,rfl⟩
 rw[hn] at hn1 hn2 hD
 rw[hn]
 have hcn: ¬(n:Int)=0:=Zo
 have hcn2:n≠0:=Zo
 have hce:code≠[]:=fun h=>by rw[h] at hn;simp at hn;omega
 have hmk:(n:Int)*8<=140737488355328:=Zo
 have hmk2:(n:Int)<=9223372036854775807:=Zo
 have hmk3:n*8<=140737488355328:=Zo
 have hmk4:n<=9223372036854775807:=Zo
 have HF:=Lib.hid hf
 have HD:=Lib.hid hD
 have HSG:=Lib.hid hsg
 clear hf hfl hD hsg
 repeat' (first|refine ZN ?_|refine Z2 ?_ ?_|(intro h h';try simp[*,-h] at h'))
 refine Ag (n:=n) (fun s0 m z=> ∃(j:Nat) (ds:List Int),n - j<=m/\j<=n/\ds.length=n/\(∀k,k<j->ds[k]?=some (-1))/\z.fr 1=iv f/\z.fr 2= .ptr ⟨0,2,0⟩ 1 0/\z.fr 6= .sl false 4 (code.map Si.row)/\z.fr 7= .own ⟨0,42,0⟩ 1 n/\z.hp ⟨0,2,0⟩= .box 1 [iz w0,.sl false 5 (sfs.map Sf.row)] false/\z.fr 44=iv n/\z.fr 45=iv j/\(z.hp ⟨0,9,0⟩).gen=0/\z.hp ⟨0,42,0⟩= .arr 1 1 3 (ir ds) false) ⟨0,List.replicate n 0,Zo,Zo,Zi,fun k hk=>Zo,Zi,Zi,Zi,Zi,Zi,Zi,Zi,Zi,by simp[ir]⟩ ?_
 rintro m ⟨fr,hp⟩ ⟨j,ds,hm,hj,hds,hall,f1,f2,f6,f7,b2,f44,f45,g9,h42⟩
 simp only at f1 f2 f6 f7 b2 f44 f45 g9 h42
 by_cases hlt:j<n
 ·have e1:(j:Int)<n:=Zo
  obtain⟨x,hx⟩: ∃x,ds[j]?=some x:=⟨_,List.getElem?_eq_getElem Zo⟩
  have hwj:IntKind.i64.wrap ((j:Int)+1)=(j:Int)+1:=wrapN Zo
  have hrl:(ir ds).length=n:=by simp[hds]
  have hget:=B5 hx
  have hset:=Oj ds j (-1)
  have hge: ∀(h:j<(ir ds).length),(ir ds)[j]=[iv x]:=fun h=>by have h3:=hget;rw[List.getElem?_eq_getElem h] at h3;exact Option.some.inj h3
  have hall2: ∀k,k<j+1->(ds.set j (-1))[k]?=some (-1):=by
   intro k hk
   rw[List.getElem?_set]
   split
   ·rename_i e
    subst e
    rw[if_pos Zo]
   ·exact hall k Zo
  have hds2:(ds.set j (-1)).length=n:=by rw[List.length_set];exact hds
  have HA:=Lib.hid hall2
  have HDS:=Lib.hid hds2
  generalize hR:ir ds=R at*
  generalize hR2:ir (ds.set j (-1))=R2 at*
  clear hall hall2 hds hds2 hx
  have HR2:=Lib.hid hR2
  clear hR hR2
  repeat' (first|refine ZN ?_|refine Z2 ?_ ?_|(intro h h';try simp[*,-h] at h'))
  have hR2:=HR2.out
  exact⟨n - (j+1),Zo,j+1,ds.set j (-1),Zo,Zo,HDS.out,HA.out,Zm,Zm,Zm,Zm,Zm,Zm,Zm,Zm,by rw[hR2];simp[*]⟩
 have e1: ¬(j:Int)<n:=Zo
 obtain rfl:j=n:=Zo
 have hg0:ds[0]?=some (-1):=hall 0 Zo
 have hget:=B5 hg0
 have hset:=Oj ds 0 0
 have hrl:(ir ds).length=j:=by simp[hds]
 have hge: ∀(h:0<(ir ds).length),(ir ds)[0]=[iv (-1)]:=fun h=>by have h3:=hget;rw[List.getElem?_eq_getElem h] at h3;exact Option.some.inj h3
 have hdi0:DI D j ds []:=⟨hds,fun i x hi=> .inl (by have h1:=(List.getElem?_eq_some_iff.1 hi).1;rw[hall i Zo] at hi;cases hi;rfl),fun t ht=>by cases ht⟩
 have hul:=uns_le ds
 obtain⟨hdi,hun⟩:=hdi0.add (q:=0) (d2:=0) hg0 D0 Zo
 simp only[Int.natCast_zero,List.nil_append] at hdi hun
 have h0n:0<j:=Zo
 have h0i:(0:Int)<j:=Zo
 have HDI:=Lib.hid hdi
 have HUN:=Lib.hid hun
 have HUL:=Lib.hid hul
 have HDS:=Lib.hid hds
 clear hall hg0 hdi0 hdi hun hul hds
 generalize hR:ir ds=R at*
 generalize hR2:ir (ds.set 0 0)=R2 at*
 have HR2:=Lib.hid hR2
 clear hR hR2
 have ht: ∀(hp':Hp) (g:Nat),hp' ⟨0,9,0⟩= .box 1 [.own ⟨0,9,1⟩ g 0] false->hp' ⟨0,9,1⟩= .arr g 1 3 [] false->TD 9 [] hp':=fun hp' g h1 h2=>⟨g,[],h1,h2,Zi,Zi⟩
 repeat' (first|refine ZN ?_|refine Z2 ?_ ?_|(intro h h';try simp[*,-h] at h')|((with_reducible apply Ap (f:=174));exact Zv;(apply push_w (q:=9) (l:=[]) 0);(focus (apply ht (g:=(hp ⟨0,9,1⟩).gen+1)<;>simp[*]));(focus simp);(rintro _ hp2 ⟨rfl,ht2,hk2⟩;have hk3: ∀i c,i≠9->hp2 ⟨0,i,c⟩=_:=hk2;clear ht hk2;have ht:=ht2;clear ht2))|fail)
 have HDI:=HDI.out
 have hdi:=HDI
 have hun:=HUN.out
 have hul:=HUL.out
 rw[show([]++[0]:List Int)=[0] from rfl] at ht
 rw[<-HR2.out] at*
 have hus:uns ds<=j:=by rw[HDS.out] at hul;exact hul
 generalize hds0:ds.set 0 0=ds0 at*
 clear hget hset hrl hge HDI hds0 HUL HDS
 obtain⟨N,hN⟩: ∃N,N=j:=⟨_,rfl⟩
 subst hN
 refine Ag (n:=2*N+1) (fun s0 m z=> ∃(es todo:List Int),DI D N es todo/\2*uns es+todo.length<=m/\2*uns es+todo.length<=2*N+1/\TD 9 todo z.hp/\z.fr 1=iv f/\z.fr 2= .ptr ⟨0,2,0⟩ 1 0/\z.fr 6= .sl false 4 (code.map Si.row)/\z.fr 7= .own ⟨0,42,0⟩ 1 N/\z.hp ⟨0,2,0⟩= .box 1 [iz w0,.sl false 5 (sfs.map Sf.row)] false/\z.fr 9= .ptr ⟨0,9,0⟩ 1 0/\z.hp ⟨0,42,0⟩= .arr 1 1 3 (ir es) false) ⟨ds0,[0],hdi,by simp;omega,by simp;omega,ht,Zm,Zm,Zm,Zm,Zm,Zm,Zm⟩ ?_
 have HUN:=Lib.hid hun
 clear ht hk3 hdi hun hul f1 f2 f6 f7 b2 f44 f45 g9 h42 HR2
 rintro m' ⟨fr',hp'⟩ ⟨es,todo,hdi,hmu,hmb,ht,f1,f2,f6,f7,b2,f9,h42⟩
 simp only at ht f1 f2 f6 f7 b2 f9 h42
 have hel:=hdi.len
 rcases List.eq_nil_or_concat todo with rfl|⟨l,x,hlx⟩
 ·have hrl:(ir es).length=N:=by simp[hel]
  have x3:(ir es).take N=ir es:=by rw[List.take_of_length_le (by simp[hel])]
  have HEL:=Lib.hid hel
  have HDJ:=Lib.hid hdi
  clear hel hdi
  generalize hR:ir es=R at*
  have HR:=Lib.hid hR
  clear hR
  repeat' (first|refine ZN ?_|refine Z2 ?_ ?_|(intro h h';try simp[*,-h] at h')|((with_reducible apply Ap (f:=175));exact Zv;(apply size_w (q:=9));(exact ht);(rintro _ hpS ⟨rfl,rfl⟩))|fail)
  exact⟨es,HEL.out,by rw[HR.out]⟩
 rw[List.concat_eq_append] at hlx
 subst hlx
 obtain⟨i,rfl,hei⟩:=hdi.tod x Zi
 have hiN:i<N:=by rw[<-hel];exact(List.getElem?_eq_some_iff.1 hei).1
 obtain⟨c,hc⟩: ∃c,code[i]?=some c:=⟨_,List.getElem?_eq_getElem Zo⟩
 obtain⟨d2,hst,hsu⟩:=HD.out i c hc
 have hdb:D i+uns es<=N:=by rcases hdi.val i _ hei with h1|⟨_,h1⟩<;>omega
 have bw:=Mpa w0 sfs hl HSG.out f _ HF.out c (D i) d2 Zo hst
 have nx:=next_w c i Zo
 have hd2:=Hha hst
 have hsl:=Dma c i
 have hci:=si_get hc
 have hxi:=B5 hei
 have hii:(i:Int)<N:=Zo
 have hpos:(0:Int)<(l.length:Int)+1:=Zo
 have hul:=uns_le es
 have hlb:l.length<=1048000:=by simp at hmb;omega
 have hmu2:2*uns es+l.length+1<=m':=by simp at hmu;omega
 have hge: ∀(h:i<(ir es).length),(ir es)[i]=[iv (D i)]:=fun h=>by have h3:=hxi;rw[List.getElem?_eq_getElem h] at h3;exact Option.some.inj h3
 have hrl:(ir es).length=N:=by simp[hel]
 have hcge: ∀(h:i<(code.map Si.row).length),(code.map Si.row)[i]=[iz c.op,iz c.a,iz c.b,uz c.n]:=fun h=>by have h3:=hci;rw[List.getElem?_eq_getElem h] at h3;exact Option.some.inj h3
 generalize succs c i=ss at*
 have HDJ:=Lib.hid hdi.pop
 have HSU:=Lib.hid hsu
 have HX:=Lib.hid hdb
 have HM:=Lib.hid hmu2
 have HLI:=Lib.hid hd2
 have HEL:=Lib.hid hel
 clear hdi hsu hst hc hei hel hmu hmu2 hd2 hdb
 generalize hR:ir es=R at*
 have HR:=Lib.hid hR
 clear hR
 repeat' (first|refine ZN ?_|refine Z2 ?_ ?_|(intro h h';try simp[*,-h] at h')|((with_reducible apply Ap (f:=175));exact Zv;(apply size_w (q:=9));(exact ht);(rintro _ hpS ⟨rfl,rfl⟩))|((with_reducible apply Ap (f:=176));exact Zv;(apply pop_w (q:=9));(exact ht);(focus omega);(rintro _ hp2 ⟨rfl,ht2,hk2⟩;have hk3: ∀i c,i≠9->hp2 ⟨0,i,c⟩=_:=hk2;clear ht hk2;have ht:=ht2;clear ht2))|fail)
 generalize hg79:(hpS ⟨0,79,0⟩).gen+1=g79 at*
 clear hg79
 have hR:=HR.out
 refine Ag (n:=ss.length) (fun s0 m2 z=> ∃(k:Nat) (fs td:List Int),ss.length - k<=m2/\k<=ss.length/\DI D N fs td/\2*uns fs+td.length<=2*uns es+l.length/\uns fs<=uns es/\TD 9 td z.hp/\z.fr 1=iv f/\z.fr 2= .ptr ⟨0,2,0⟩ 1 0/\z.fr 6= .sl false 4 (code.map Si.row)/\z.fr 7= .own ⟨0,42,0⟩ 1 N/\z.hp ⟨0,2,0⟩= .box 1 [iz w0,.sl false 5 (sfs.map Sf.row)] false/\z.fr 9= .ptr ⟨0,9,0⟩ 1 0/\z.hp ⟨0,42,0⟩= .arr 1 1 3 (ir fs) false/\z.fr 11=iv d2/\z.fr 79= .own ⟨0,79,0⟩ g79 ss.length/\z.fr 80=iv ss.length/\z.fr 81=iv k/\z.hp ⟨0,79,0⟩= .arr g79 1 3 (ir ss) false) ⟨0,es,l,Zo,Zo,HDJ.out,Zo,Zo,TD.congr ht (fun c=>Zi),Zm,Zm,Zm,Zm,Zm,Zm,Zm,Zm,Zm,Zm,Zm,Zm⟩ ?_
 clear ht hk3 f1 f2 f6 f7 b2 f9 h42 hR
 rintro m2 ⟨fr2,hq⟩ ⟨k,fs,td,hm2,hk,hdi,hmu,huf,ht,f1,f2,f6,f7,b2,f9,h42,f11,f79,f80,f81,h79⟩
 simp only at ht f1 f2 f6 f7 b2 f9 h42 f11 f79 f80 f81 h79
 have hmub:2*uns es+l.length<=2*N:=by simp at hmb;omega
 by_cases hlt:k<ss.length
 ·have e2:(k:Int)<ss.length:=Zo
  obtain⟨y,hy⟩: ∃y,ss[k]?=some y:=⟨_,List.getElem?_eq_getElem hlt⟩
  obtain⟨q,rfl,hqN,hDq⟩:=HSU.out y (List.mem_of_getElem? hy)
  have hyg:=B5 hy
  have hwk:IntKind.i64.wrap ((k:Int)+1)=(k:Int)+1:=wrapN Zo
  have hssl:(ir ss).length=ss.length:=Zi
  have hsge: ∀(h:k<(ir ss).length),(ir ss)[k]=[iv q]:=fun h=>by have h3:=hyg;rw[List.getElem?_eq_getElem h] at h3;exact Option.some.inj h3
  obtain⟨v,hv⟩: ∃v,fs[q]?=some v:=⟨_,List.getElem?_eq_getElem (by rw[hdi.len];exact hqN)⟩
  have hvg:=B5 hv
  have hfl:(ir fs).length=N:=by simp[hdi.len]
  have hvge: ∀(h:q<(ir fs).length),(ir fs)[q]=[iv v]:=fun h=>by have h3:=hvg;rw[List.getElem?_eq_getElem h] at h3;exact Option.some.inj h3
  have q0: ¬(q:Int)<0:=Zo
  have q1: ¬(N:Int)<=q:=Zo
  have q2:(q:Int)<N:=Zo
  have hval:=hdi.val q v hv
  have hdu:d2+uns fs<=N+1:=by have h1:=HX.out;have h2:=HLI.out;omega
  have hfset:=Oj fs q d2
  have htl:td.length<=1048000:=Zo
  generalize hS:ir ss=SS at*
  generalize hF:ir fs=FF at*
  have HSS:=Lib.hid hS
  have HFF:=Lib.hid hF
  have HK3:=Lib.hid hdi
  have HV:=Lib.hid hv
  have HDQ:=Lib.hid hDq
  clear hS hF hdi hv hy hDq
  rcases hval with rfl|⟨rfl,_⟩
  ·obtain⟨hdn,hun⟩:=(HK3.out).add HV.out HDQ.out hdu
   have HDN:=Lib.hid hdn
   have HUN2:=Lib.hid hun
   clear hdn hun
   generalize hF2:ir (fs.set q d2)=FF2 at*
   have HFF2:=Lib.hid hF2
   clear hF2
   repeat' (first|refine ZN ?_|refine Z2 ?_ ?_|(intro h h';try simp[*,-h] at h')|((with_reducible apply Ap (f:=174));exact Zv;(apply push_w (q:=9) q);(focus (refine TD.congr ht ?_;intro c;simp));exact ZU;(rintro _ hp2 ⟨rfl,ht2,hk2⟩;have hk3: ∀i c,i≠9->hp2 ⟨0,i,c⟩=_:=hk2;clear ht hk2;have ht:=ht2;clear ht2))|fail)
   have hss:=HSS.out
   have hff:=HFF2.out
   have hun:=HUN2.out
   exact⟨ss.length - (k+1),Zo,k+1,fs.set q d2,td++[(q:Int)],Zo,Zo,HDN.out,by simp;omega,Zo,ht,Zm,Zm,Zm,Zm,Zm,Zm,Zm,Zm,Zm,Zm,Zm,Zm⟩
  ·have hdq:=HDQ.out
   have hv0: ¬((D q:Nat):Int)<0:=Zo
   have hv1:(0:Int)<=((D q:Nat):Int):=Zo
   have hv2: ¬(d2:Int)<0:=Zo
   have hv3:(0:Int)<=(d2:Int):=Zo
   repeat' (first|refine ZN ?_|refine Z2 ?_ ?_|(intro h h';try simp[*,-h] at h'))
   have hss:=HSS.out
   have hff:=HFF.out
   exact⟨ss.length - (k+1),Zo,k+1,fs,td,Zo,Zo,HK3.out,Zo,Zo,ht,Zm,Zm,Zm,Zm,Zm,Zm,Zm,Zm,Zm,Zm,Zm,Zm⟩
 have e2: ¬(k:Int)<ss.length:=Zo
 have HK3:=Lib.hid hdi
 clear hdi
 generalize hF:ir fs=FF at*
 have HFF:=Lib.hid hF
 clear hF
 repeat' (first|refine ZN ?_|refine Z2 ?_ ?_|(intro h h';try simp[*,-h] at h'))
 have hff:=HFF.out
 exact⟨2*uns es+l.length,by have h1:=HM.out;omega,fs,td,HK3.out,Zo,Zo,ht,Zm,Zm,Zm,Zm,Zm,Zm,Zm⟩
abbrev dr (l:List (List Int)):List (List AV):=l.map fun d=>[.sl false 1 (ir d)]
theorem Sk (l:List Int):(ir l).take l.length=ir l:=by rw[List.take_of_length_le Zi]
theorem dr_take (l:List (List Int)):(dr l).take l.length=dr l:=by rw[List.take_of_length_le Zi]
theorem Kba {sg:List (Nat×Bool)}(w0:Int)(sfs:List Sf)(hl:sfs.length<=1000)(hsg:SG sg sfs)(hall: ∀(i:Nat) (F:Sf),sfs[i]?=some F->1<=F.code.length/\F.code.length<=500000/\ ∃D:Nat->Nat,D 0=0/\ ∀(i:Nat) (c:Si),F.code[i]?=some c-> ∃d2,stepD sg F.word c (D i)=some d2/\ ∀j∈succs c i,∃q:Nat,j=q/\q<F.code.length/\D q=d2): ∃rs,(Lm X47).dat 85 [.agg [iz w0,.sl false 5 (sfs.map Sf.row)]]=some rs/\ ∃(dss:List (List Int)) (bk bs:List Int) (data:Int),dss.length=sfs.length/\bk.length=sfs.length/\bs.length=sfs.length/\(∀(i:Nat) (F:Sf),sfs[i]?=some F-> ∃ds,dss[i]?=some ds/\ds.length=F.code.length)/\rs=[.agg [.vec 1 (dr dss),.vec 1 (ir bk),.vec 1 (ir bs),iv data]]:=by
 refine fnR (P:=P0) (E:=E47) (X:=X47) (R:=fun rs=> ∃(dss:List (List Int)) (bk bs:List Int) (data:Int),dss.length=sfs.length/\bk.length=sfs.length/\bs.length=sfs.length/\(∀(i:Nat) (F:Sf),sfs[i]?=some F-> ∃ds,dss[i]?=some ds/\ds.length=F.code.length)/\rs=[.agg [.vec 1 (dr dss),.vec 1 (ir bk),.vec 1 (ir bs),iv data]]) Tryz.func85 (An _ _) rfl Fna rfl rtys_85 rvs_85 ?_
 obtain⟨n,hn⟩: ∃n,sfs.length=n:=⟨_,rfl⟩
 have HA:=Lib.hid hall
 have HSG:=Lib.hid hsg
 clear hall hsg
 repeat' (first|refine ZN ?_|refine Z2 ?_ ?_|(intro h h';try simp[*,-h] at h'))
 generalize IntKind.i64.wrap ((n:Int) - 1)=last at*
 refine Ag (n:=n) (fun s0 m z=> ∃(j ga gb gc:Nat) (dss:List (List Int)) (bk bs:List Int) (data:Int),n - j<=m/\j<=n/\dss.length=j/\bk.length=j/\bs.length=j/\(∀(i:Nat) (F:Sf),i<j->sfs[i]?=some F-> ∃ds,dss[i]?=some ds/\ds.length=F.code.length)/\z.fr 1= .ptr ⟨0,1,0⟩ 1 0/\z.fr 2= .ptr ⟨0,2,0⟩ 1 0/\z.fr 3= .ptr ⟨0,3,0⟩ 1 0/\z.fr 4=iv last/\z.fr 19= .sl false 5 (sfs.map Sf.row)/\z.fr 20=iv n/\z.fr 21=iv j/\z.hp ⟨0,1,0⟩= .box 1 [iz w0,.sl false 5 (sfs.map Sf.row)] false/\z.hp ⟨0,2,0⟩= .box 1 [.own ⟨0,2,1⟩ 1 0,.own ⟨0,2,2⟩ 1 0,.own ⟨0,2,3⟩ 1 0,iv 0] false/\z.hp ⟨0,2,1⟩= .arr 1 1 27 [] false/\z.hp ⟨0,2,2⟩= .arr 1 1 3 [] false/\z.hp ⟨0,2,3⟩= .arr 1 1 3 [] false/\z.hp ⟨0,3,0⟩= .box 1 [.own ⟨0,3,1⟩ ga dss.length,.own ⟨0,3,2⟩ gb bk.length,.own ⟨0,3,3⟩ gc bs.length,iv data] false/\z.hp ⟨0,3,1⟩= .arr ga 1 27 (dr dss) false/\z.hp ⟨0,3,2⟩= .arr gb 1 3 (ir bk) false/\z.hp ⟨0,3,3⟩= .arr gc 1 3 (ir bs) false) ⟨0,2,2,2,[],[],[],w0,Zo,Zo,rfl,rfl,rfl,fun i F h=>Zo,Zm,Zm,Zm,Zm,Zm,Zm,Zm,Zm,Zm,Zm,Zm,Zm,Zm,Zm,Zm,Zm⟩ ?_
 rintro m ⟨fr,hp⟩ ⟨j,ga,gb,gc,dss,bk,bs,data,hm,hj,hdl,hbk,hbs,hin,Q0,Q1,Q2,Q3,Q4,Q5,Q6,Q7,Q8,Q9,Q10,Q11,Q12,Q13,Q14,Q15⟩
 simp only at Q0 Q1 Q2 Q3 Q4 Q5 Q6 Q7 Q8 Q9 Q10 Q11 Q12 Q13 Q14 Q15
 have HIN:=Lib.hid hin
 clear hin
 by_cases hlt:j<n
 ·have e1:(j:Int)<n:=Zo
  obtain⟨F,hF⟩: ∃F,sfs[j]?=some F:=⟨_,List.getElem?_eq_getElem Zo⟩
  have hwj:IntKind.i64.wrap ((j:Int)+1)=(j:Int)+1:=wrapN Zo
  obtain⟨hc1,hc2,D,D0,hD⟩:=HA.out j F hF
  obtain⟨_,hdw,ds,hds,rfl⟩:=M2a w0 sfs Zo HSG.out j F.params F.slots F.first F.word F.code hF hc1 hc2 D D0 hD
  have x1:(dss.length+1)*24<=140737488355328:=Zo
  have x2:dss.length<=9223372036854775806:=Zo
  have x3:=dr_take dss
  have x4:=Sk ds
  have y1:(bk.length+1)*8<=140737488355328:=Zo
  have y2:bk.length<=9223372036854775806:=Zo
  have y3:=Sk bk
  have z1:(bs.length+1)*8<=140737488355328:=Zo
  have z2:bs.length<=9223372036854775806:=Zo
  have z3:=Sk bs
  have HDL:=Lib.hid hdl
  have HBK:=Lib.hid hbk
  have HBS:=Lib.hid hbs
  have hdb:ds.length<=500000:=Zo
  have HDS:=Lib.hid hds
  have HF:=Lib.hid hF
  clear hdl hbk hbs hds hF hc1 hc2 hD
  repeat' (first|refine ZN ?_|refine Z2 ?_ ?_|(intro h h';try simp[*,-h] at h'))
  ·refine Ag (n:=ds.length) (fun s0 m z=> ∃(k gl:Nat) (x:Int),ds.length - k<=m/\k<=ds.length/\z.fr 1= .ptr ⟨0,1,0⟩ 1 0/\z.fr 2= .ptr ⟨0,2,0⟩ 1 0/\z.fr 3= .ptr ⟨0,3,0⟩ 1 0/\z.fr 4=iv last/\z.fr 19= .sl false 5 (sfs.map Sf.row)/\z.fr 20=iv n/\z.fr 21=iv j/\z.hp ⟨0,1,0⟩= .box 1 [iz w0,.sl false 5 (sfs.map Sf.row)] false/\z.hp ⟨0,2,0⟩= .box 1 [.own ⟨0,2,1⟩ 1 0,.own ⟨0,2,2⟩ 1 0,.own ⟨0,2,3⟩ 1 0,iv 0] false/\z.hp ⟨0,2,1⟩= .arr 1 1 27 [] false/\z.hp ⟨0,2,2⟩= .arr 1 1 3 [] false/\z.hp ⟨0,2,3⟩= .arr 1 1 3 [] false/\z.hp ⟨0,3,0⟩= .box 1 [.own ⟨0,3,1⟩ (ga+1) (dss.length+1),.own ⟨0,3,2⟩ (gb+1) (bk.length+1),.own ⟨0,3,3⟩ (gc+1) (bs.length+1),iv (IntKind.i64.wrap (data+1))] false/\z.hp ⟨0,3,1⟩= .arr (ga+1) 1 27 (dr dss++[[.sl false 1 (ir ds)]]) false/\z.hp ⟨0,3,2⟩= .arr (gb+1) 1 3 (ir bk++[[iv data]]) false/\z.hp ⟨0,3,3⟩= .arr (gc+1) 1 3 (ir bs++[[iv (IntKind.i64.wrap (data+1))]]) false/\z.fr 8=iv x/\z.fr 57= .own ⟨0,27,1000⟩ gl ds.length/\z.fr 58=iv ds.length/\z.fr 59=iv k/\z.hp ⟨0,27,1000⟩= .arr gl 1 3 (ir ds) true) ⟨0,(hp ⟨0,27,1000⟩).gen+1,0,Zo,Zo,Zm,Zm,Zm,Zm,Zm,Zm,Zm,Zm,Zm,Zm,Zm,Zm,Zm,Zm,Zm,Zm,Zi,Zi,Zi,Zi,Zi⟩ ?_
   clear Q0 Q1 Q2 Q3 Q4 Q5 Q6 Q7 Q8 Q9 Q10 Q11 Q12 Q13 Q14 Q15
   rintro m2 ⟨fr2,hp2⟩ ⟨k,gl,x,hm2,hk,Q0,Q1,Q2,Q3,Q4,Q5,Q6,Q7,Q8,Q9,Q10,Q11,Q12,Q13,Q14,Q15,R1,R2,R3,R4,R5⟩
   simp only at Q0 Q1 Q2 Q3 Q4 Q5 Q6 Q7 Q8 Q9 Q10 Q11 Q12 Q13 Q14 Q15 R1 R2 R3 R4 R5
   by_cases hlk:k<ds.length
   ·have u1:(k:Int)<ds.length:=Zo
    obtain⟨y,hy⟩: ∃y,ds[k]?=some y:=⟨_,List.getElem?_eq_getElem hlk⟩
    have hyg:=B5 hy
    have hwk:IntKind.i64.wrap ((k:Int)+1)=(k:Int)+1:=wrapN Zo
    have hssl:(ir ds).length=ds.length:=Zi
    have hsge: ∀(h:k<(ir ds).length),(ir ds)[k]=[iv y]:=fun h=>by have h3:=hyg;rw[List.getElem?_eq_getElem h] at h3;exact Option.some.inj h3
    generalize hS:ir ds=SS at*
    have HSS:=Lib.hid hS
    clear hS hy
    repeat' (first|refine ZN ?_|refine Z2 ?_ ?_|(intro h h';try simp[*,-h] at h'))
    have hss:=HSS.out
    exact⟨ds.length - (k+1),Zo,k+1,gl,_,Zo,Zo,Zm,Zm,Zm,Zm,Zm,Zm,Zm,Zm,Zm,Zm,Zm,Zm,Zm,Zm,Zm,Zm,by simp;rfl,Zm,Zm,Zm,Zm⟩
   ·have u1: ¬(k:Int)<ds.length:=Zo
    repeat' (first|refine ZN ?_|refine Z2 ?_ ?_|(intro h h';try simp[*,-h] at h'))
    have hdl:=HDL.out
    have hbk:=HBK.out
    have hbs:=HBS.out
    refine⟨n - (j+1),Zo,j+1,ga+1,gb+1,gc+1,dss++[ds],bk++[data],bs++[(IntKind.i64.wrap (data+1))],_,Zo,Zo,by simp[hdl],by simp[hbk],by simp[hbs],?_,by first|(simp[*];done)|(simp[*];rw[Ad Zo Zo]),by first|(simp[*];done)|(simp[*];rw[Ad Zo Zo]),by first|(simp[*];done)|(simp[*];rw[Ad Zo Zo]),by first|(simp[*];done)|(simp[*];rw[Ad Zo Zo]),by first|(simp[*];done)|(simp[*];rw[Ad Zo Zo]),by first|(simp[*];done)|(simp[*];rw[Ad Zo Zo]),by first|(simp[*];done)|(simp[*];rw[Ad Zo Zo]),by first|(simp[*];done)|(simp[*];rw[Ad Zo Zo]),by first|(simp[*];done)|(simp[*];rw[Ad Zo Zo]),by first|(simp[*];done)|(simp[*];rw[Ad Zo Zo]),by first|(simp[*];done)|(simp[*];rw[Ad Zo Zo]),by first|(simp[*];done)|(simp[*];rw[Ad Zo Zo]),by simp[hdl,hbk,hbs];rfl,Zm,Zm,Zm⟩
    intro i G hi hG
    have hin:=HIN.out
    have hff:=HF.out
    have hds:=HDS.out
    rcases Nat.lt_or_ge i j with h1|h1
    ·obtain⟨d3,h3,h4⟩:=hin i G h1 hG
     exact⟨d3,by rw[List.getElem?_append_left Zo];exact h3,h4⟩
    ·have h2:i=j:=Zo
     subst h2
     rw[hff] at hG
     cases hG
     exact⟨ds,by simp[hdl],hds⟩
  ·refine Ag (n:=ds.length) (fun s0 m z=> ∃(k gl:Nat) (x:Int),ds.length - k<=m/\k<=ds.length/\z.fr 1= .ptr ⟨0,1,0⟩ 1 0/\z.fr 2= .ptr ⟨0,2,0⟩ 1 0/\z.fr 3= .ptr ⟨0,3,0⟩ 1 0/\z.fr 4=iv last/\z.fr 19= .sl false 5 (sfs.map Sf.row)/\z.fr 20=iv n/\z.fr 21=iv j/\z.hp ⟨0,1,0⟩= .box 1 [iz w0,.sl false 5 (sfs.map Sf.row)] false/\z.hp ⟨0,2,0⟩= .box 1 [.own ⟨0,2,1⟩ 1 0,.own ⟨0,2,2⟩ 1 0,.own ⟨0,2,3⟩ 1 0,iv 0] false/\z.hp ⟨0,2,1⟩= .arr 1 1 27 [] false/\z.hp ⟨0,2,2⟩= .arr 1 1 3 [] false/\z.hp ⟨0,2,3⟩= .arr 1 1 3 [] false/\z.hp ⟨0,3,0⟩= .box 1 [.own ⟨0,3,1⟩ (ga+1) (dss.length+1),.own ⟨0,3,2⟩ (gb+1) (bk.length+1),.own ⟨0,3,3⟩ (gc+1) (bs.length+1),iv data] false/\z.hp ⟨0,3,1⟩= .arr (ga+1) 1 27 (dr dss++[[.sl false 1 (ir ds)]]) false/\z.hp ⟨0,3,2⟩= .arr (gb+1) 1 3 (ir bk++[[iv data]]) false/\z.hp ⟨0,3,3⟩= .arr (gc+1) 1 3 (ir bs++[[iv data]]) false/\z.fr 8=iv x/\z.fr 57= .own ⟨0,27,1000⟩ gl ds.length/\z.fr 58=iv ds.length/\z.fr 59=iv k/\z.hp ⟨0,27,1000⟩= .arr gl 1 3 (ir ds) true) ⟨0,(hp ⟨0,27,1000⟩).gen+1,0,Zo,Zo,Zm,Zm,Zm,Zm,Zm,Zm,Zm,Zm,Zm,Zm,Zm,Zm,Zm,Zm,Zm,Zm,Zi,Zi,Zi,Zi,Zi⟩ ?_
   clear Q0 Q1 Q2 Q3 Q4 Q5 Q6 Q7 Q8 Q9 Q10 Q11 Q12 Q13 Q14 Q15
   rintro m2 ⟨fr2,hp2⟩ ⟨k,gl,x,hm2,hk,Q0,Q1,Q2,Q3,Q4,Q5,Q6,Q7,Q8,Q9,Q10,Q11,Q12,Q13,Q14,Q15,R1,R2,R3,R4,R5⟩
   simp only at Q0 Q1 Q2 Q3 Q4 Q5 Q6 Q7 Q8 Q9 Q10 Q11 Q12 Q13 Q14 Q15 R1 R2 R3 R4 R5
   by_cases hlk:k<ds.length
   ·have u1:(k:Int)<ds.length:=Zo
    obtain⟨y,hy⟩: ∃y,ds[k]?=some y:=⟨_,List.getElem?_eq_getElem hlk⟩
    have hyg:=B5 hy
    have hwk:IntKind.i64.wrap ((k:Int)+1)=(k:Int)+1:=wrapN Zo
    have hssl:(ir ds).length=ds.length:=Zi
    have hsge: ∀(h:k<(ir ds).length),(ir ds)[k]=[iv y]:=fun h=>by have h3:=hyg;rw[List.getElem?_eq_getElem h] at h3;exact Option.some.inj h3
    generalize hS:ir ds=SS at*
    have HSS:=Lib.hid hS
    clear hS hy
    repeat' (first|refine ZN ?_|refine Z2 ?_ ?_|(intro h h';try simp[*,-h] at h'))
    have hss:=HSS.out
    exact⟨ds.length - (k+1),Zo,k+1,gl,_,Zo,Zo,Zm,Zm,Zm,Zm,Zm,Zm,Zm,Zm,Zm,Zm,Zm,Zm,Zm,Zm,Zm,Zm,by simp;rfl,Zm,Zm,Zm,Zm⟩
   ·have u1: ¬(k:Int)<ds.length:=Zo
    repeat' (first|refine ZN ?_|refine Z2 ?_ ?_|(intro h h';try simp[*,-h] at h'))
    have hdl:=HDL.out
    have hbk:=HBK.out
    have hbs:=HBS.out
    refine⟨n - (j+1),Zo,j+1,ga+1,gb+1,gc+1,dss++[ds],bk++[data],bs++[data],_,Zo,Zo,by simp[hdl],by simp[hbk],by simp[hbs],?_,by first|(simp[*];done)|(simp[*];rw[Ad Zo Zo]),by first|(simp[*];done)|(simp[*];rw[Ad Zo Zo]),by first|(simp[*];done)|(simp[*];rw[Ad Zo Zo]),by first|(simp[*];done)|(simp[*];rw[Ad Zo Zo]),by first|(simp[*];done)|(simp[*];rw[Ad Zo Zo]),by first|(simp[*];done)|(simp[*];rw[Ad Zo Zo]),by first|(simp[*];done)|(simp[*];rw[Ad Zo Zo]),by first|(simp[*];done)|(simp[*];rw[Ad Zo Zo]),by first|(simp[*];done)|(simp[*];rw[Ad Zo Zo]),by first|(simp[*];done)|(simp[*];rw[Ad Zo Zo]),by first|(simp[*];done)|(simp[*];rw[Ad Zo Zo]),by first|(simp[*];done)|(simp[*];rw[Ad Zo Zo]),by simp[hdl,hbk,hbs];rfl,Zm,Zm,Zm⟩
    intro i G hi hG
    have hin:=HIN.out
    have hff:=HF.out
    have hds:=HDS.out
    rcases Nat.lt_or_ge i j with h1|h1
    ·obtain⟨d3,h3,h4⟩:=hin i G h1 hG
     exact⟨d3,by rw[List.getElem?_append_left Zo];exact h3,h4⟩
    ·have h2:i=j:=Zo
     subst h2
     rw[hff] at hG
     cases hG
     exact⟨ds,by simp[hdl],hds⟩
 have e1: ¬(j:Int)<n:=Zo
 obtain rfl:j=n:=Zo
 repeat' (first|refine ZN ?_|refine Z2 ?_ ?_|(intro h h';try simp[*,-h] at h'))
 refine⟨dss,bk,bs,data,Zo,Zo,Zo,fun i F hF=>?_,rfl⟩
 exact HIN.out i F (by rw[<-hn];exact(List.getElem?_eq_some_iff.1 hF).1) hF
abbrev I4 :=Int×Int×Int×Int
abbrev I3 :=Int×Int×Int
abbrev inr (l:List I4):List (List AV):=l.map fun x=>[iv x.1,iv x.2.1,iv x.2.2.1,iv x.2.2.2]
abbrev hor (l:List I3):List (List AV):=l.map fun x=>[iv x.1,iv x.2.1,iv x.2.2]
theorem Bd {P:Program}{E:Cfg}{k:Nat}{call:Orc}{all:Array Oper}{st}{fs:List Foot}{Q}{d:Nat}(hg:all[0]?.bind (·.dst)=some d)(hf:Ge all fs.reverse=true)(q:Q st):Wd P E k call all [] st fs Q:=A6 hf q
theorem Bj {l:List I4}{n:Nat}(h:l.length=n):(inr l).take n=inr l:=by subst h;rw[List.take_of_length_le Zi]
theorem Lla (l:List I3):(hor l).take l.length=hor l:=by rw[List.take_of_length_le Zi]
def InsOk (sfs:List Sf)(F:Sf)(c:Si):Prop:=(∃o:Nat,c.op=o/\1<=o/\o<=13)/\(c.op=10-> ∃(a:Nat) (G:Sf),c.a=a/\sfs[a]?=some G)/\(c.op=8\/c.op=9-> ∃q:Nat,c.a=q/\q<F.code.length)
structure GP where
 w:Int
 n:Nat
 sfs:List Sf
 dss:List (List Int)
 bk:List Int
 bs:List Int
 data:Int
 g1:Nat
 g2:Nat
 g3:Nat
 ge:Nat
 gp:Nat
 hn:sfs.length=n
 hd:dss.length=n
 hk:bk.length=n
 hs:bs.length=n
 n1:1<=n
 n2:n<=1000
 hF: ∀(i:Nat) (F:Sf),sfs[i]?=some F->F.code.length<=500000/\(∃p s fi:Nat,F.params=p/\p<=1000/\F.slots=s/\s<=1000000000/\F.first=fi/\fi<=1000000000)/\(∃ds,dss[i]?=some ds/\ds.length=F.code.length)/\ ∀(j:Nat) (c:Si),F.code[j]?=some c->InsOk sfs F c
def HoK (P:GP)(N:Nat)(x:I3):Prop:= ∃(a f:Nat) (F:Sf),x.1=a/\a<N/\x.2.1=f/\P.sfs[f]?=some F/\(x.2.2<0\/ ∃q:Nat,x.2.2=q/\q<F.code.length)
theorem HoK.mono {P:GP}{N M:Nat}{x:I3}(h:HoK P N x)(hm:N<=M):HoK P M x:=by
 obtain⟨a,f,F,h1,h2,h3,h4,h5⟩:=h
 exact⟨a,f,F,h1,Zo,h3,h4,h5⟩
def GT (P:GP)(f dep:Int)(dn:Nat->Prop)(N M:Nat)(hp:Hp):Prop:= ∃(gc gh:Nat) (c:List I4) (hl:List I3) (en:List Int) (cells:List AV),c.length=N/\hl.length<=M/\en.length=P.n/\cells.length=P.n/\(∀x∈hl,HoK P M x)/\
 hp ⟨0,29,0⟩= .box 1 [iv P.w,.sl false 5 (P.sfs.map Sf.row),.own ⟨0,29,3⟩ P.g1 P.n,.own ⟨0,29,4⟩ P.g2 P.n,.own ⟨0,29,5⟩ P.g3 P.n,iv P.data,.own ⟨0,29,7⟩ gc N,.own ⟨0,29,8⟩ P.ge P.n,.bsl ⟨0,27,0⟩ P.gp 1 0 P.n,.own ⟨0,29,10⟩ gh hl.length,iv f,iv dep] false/\hp ⟨0,29,3⟩= .arr P.g1 1 27 (dr P.dss) false/\hp ⟨0,29,4⟩= .arr P.g2 1 3 (ir P.bk) false/\hp ⟨0,29,5⟩= .arr P.g3 1 3 (ir P.bs) false/\
 hp ⟨0,29,7⟩= .arr gc 4 118 (inr c) false/\hp ⟨0,29,8⟩= .arr P.ge 1 3 (ir en) false/\hp ⟨0,29,10⟩= .arr gh 3 230 (hor hl) false/\hp ⟨0,27,0⟩= .box P.gp cells false/\
 ∀(i:Nat) (F:Sf),P.sfs[i]?=some F->dn i-> ∃(g:Nat) (l:List Int),cells[i]?=some (.own ⟨0,27,i+1⟩ g F.code.length)/\l.length=F.code.length/\hp ⟨0,27,i+1⟩= .arr g 1 3 (ir l) false
def KG (D:Nat)(hp1 hp2:Hp):Prop:= ∀d i c,d<=D->(d≠0\/(i≠27/\i≠29))->hp2 ⟨d,i,c⟩=hp1 ⟨d,i,c⟩
theorem GT.congr {P:GP}{f dep:Int}{dn:Nat->Prop}{N M:Nat}{hp hp':Hp}(h:GT P f dep dn N M hp)(he: ∀i c,i=27\/i=29->hp' ⟨0,i,c⟩=hp ⟨0,i,c⟩):GT P f dep dn N M hp':=by
 obtain⟨gc,gh,c,hl,en,cells,hcN,hhl,hen,hce,hho,b0,b3,b4,b5,b7,b8,b10,q0,hpl⟩:=h
 refine⟨gc,gh,c,hl,en,cells,hcN,hhl,hen,hce,hho,?_,?_,?_,?_,?_,?_,?_,?_,fun i F hF hd=>?_⟩
 all_goals first
  |(rw[he _ _ Zi];assumption)
  |(obtain⟨g,l,h1,h2,h3⟩:=hpl i F hF hd;exact⟨g,l,h1,h2,by rw[he _ _ Zi];exact h3⟩)
theorem GT.up {P:GP}{f dep:Int}{dn:Nat->Prop}{N M M':Nat}{hp:Hp}(h:GT P f dep dn N M hp)(hm:M<=M'):GT P f dep dn N M' hp:=by
 obtain⟨gc,gh,c,hl,en,cells,hcN,hhl,hen,hce,hho,b0,b3,b4,b5,b7,b8,b10,q0,hpl⟩:=h
 exact⟨gc,gh,c,hl,en,cells,hcN,Zo,hen,hce,fun x hx=>(hho x hx).mono hm,b0,b3,b4,b5,b7,b8,b10,q0,hpl⟩
theorem KG.refl (D:Nat)(hp:Hp):KG D hp hp:=fun _ _ _ _ _=>rfl
theorem KG.step {D D':Nat}{hp1 hpA hpB hp2:Hp}(h:KG D hp1 hpA)(h2:KG D' hpB hp2)(hd:D<=D')(he: ∀d i c,d<=D->hpB ⟨d,i,c⟩=hpA ⟨d,i,c⟩):KG D hp1 hp2:=fun d i c hd' n1=>(h2 d i c Zo n1).trans ((he d i c hd').trans (h d i c hd' n1))
theorem KG.own {D:Nat}{hp1 hp2:Hp}(h:KG D hp1 hp2)(hD:D≠0): ∀i c,hp2 ⟨D,i,c⟩=hp1 ⟨D,i,c⟩:=fun i c=>h D i c (Nat.le_refl _) (Or.inl hD)
theorem KG.aft {D D':Nat}{hp1 hpA hpB:Hp}{A:Hp->Prop}{u:AV}{Q:AV->Hp->Prop}(HK:KG D hp1 hpA)(hn: ∀hp2,(∀i c,hp2 ⟨D',i,c⟩=hpB ⟨D',i,c⟩)->A hp2->KG D hp1 hp2->Q u hp2)(hd:D<=D':=by omega)(hD:D'≠0:=by omega)(he: ∀d i c,d<=D->hpB ⟨d,i,c⟩=hpA ⟨d,i,c⟩:=by intro d i c hd;simp[Zl hd]): ∀v hp2,(v=u/\A hp2/\KG D' hpB hp2)->Q v hp2:=by
 rintro _ hp2 ⟨rfl,h1,h2⟩
 exact hn hp2 (h2.own hD) h1 (HK.step h2 hd he)
theorem eput_g {d k N M:Nat}{hp1:Hp}{P:GP}{f dep:Int}{dn:Nat->Prop}{a b x y:Int}(hcs:GT P f dep dn N M hp1)(hN:N<=4000000000000):HB P0 E47 (Lm X47) k d 123 [.ptr ⟨0,29,0⟩ 1 0,iv a,iv b,iv x,iv y] hp1 (fun v hp2=>v= .tup []/\GT P f dep dn (N+1) M hp2/\KG k hp1 hp2) (fun _ _=>False):=by
 refine Af (k1:=k+1) (PR:=fun _ _=>False) rfl Tryz.func123 (Aj Zd) rfl A9a rfl rvs_123 ?_
 obtain⟨gc,gh,c,hl,en,cells,hcN,hhl,hen,hce,hho,b0,b3,b4,b5,b7,b8,b10,q0,hpl⟩:=hcs
 have tkc:=Bj hcN
 have HHO:=Lib.hid hho
 have HPL:=Lib.hid hpl
 have HEN:=Lib.hid hen
 have HCE:=Lib.hid hce
 clear hho hpl hen hce
 have x1:(N+1)*32<=140737488355328:=Zo
 have x2:N<=9223372036854775806:=Zo
 repeat' (first|refine ZN ?_|refine Z2 ?_ ?_|(intro h h';try simp[*,-h] at h'))
 refine⟨rfl,⟨gc+1,gh,c++[(a,b,x,y)],hl,en,cells,by simp[hcN],Zo,HEN.out,HCE.out,HHO.out,Zm,Zm,Zm,Zm,Zm,Zm,Zm,Zm,fun i F hF hd=>?_⟩,fun d i c hd n1=>?_⟩
 ·obtain⟨g,l,h1,h2,h3⟩:=HPL.out i F hF hd
  exact⟨g,l,h1,h2,Zm⟩
 ·have hd2:d≠k+1:=Zo
  by_cases hd0:d=0
  ·subst hd0
   have n2:i≠29:=Zo
   simp[*]
  ·simp[*]
theorem Bk {d k N:Nat}{hp1:Hp}{P:GP}{f dep:Int}{dn:Nat->Prop}{a b x y:Int}(hcs:GT P f dep dn N N hp1)(hN:N<=4000000000000):HB P0 E47 (Lm X47) k d 123 [.ptr ⟨0,29,0⟩ 1 0,iv a,iv b,iv x,iv y] hp1 (fun v hp2=>v= .tup []/\GT P f dep dn (N+1) (N+1) hp2/\KG k hp1 hp2) (fun _ _=>False):=by
 rcases eput_g (d:=d) (k:=k) (a:=a) (b:=b) (x:=x) (y:=y) hcs hN with⟨v,hp2,h1,h2,h3,h4⟩|⟨_,_,_,_,h⟩
 ·exact Or.inl ⟨v,hp2,h1,h2,h3.up Zo,h4⟩
 ·exact h.elim
theorem Ca {d k N:Nat}{hp1:Hp}{P:GP}{f dep:Int}{dn:Nat->Prop}{r n:Int}(hcs:GT P f dep dn N N hp1)(hN:N<=3900000000000):HB P0 E47 (Lm X47) k d 180 [.ptr ⟨0,29,0⟩ 1 0,iv r,uv n] hp1 (fun v hp2=>v= .tup []/\(∃N2,N+1<=N2/\N2<=N+2/\GT P f dep dn N2 N2 hp2)/\KG k hp1 hp2) (fun _ _=>False):=by
 refine Af (k1:=k+1) (PR:=fun _ _=>False) rfl Tryz.func180 (Aj Zd) rfl Aea rfl rvs_180 ?_
 have HK:=KG.refl k hp1
 repeat' (first|refine ZN ?_|refine Z2 ?_ ?_|(intro h h';try simp[*,-h] at h')|((with_reducible apply Ap (f:=123));exact Zv;(apply Bk);exact ZG;exact ZT;(refine KG.aft HK ?_;clear hcs HK;intro hp2 hO2 hcs HK))|fail)
 all_goals exact⟨rfl,⟨_,Zo,Zo,hcs⟩,HK⟩
theorem Nd {d k N:Nat}{hp1:Hp}{P:GP}{f dep:Int}{dn:Nat->Prop}{op r fh pl:Int}(hcs:GT P f dep dn N N hp1)(hN:N<=3900000000000)(hh:HoK P (N+1) ((N:Int),fh,pl)):HB P0 E47 (Lm X47) k d 190 [.ptr ⟨0,29,0⟩ 1 0,iv op,iv r,iv fh,iv pl] hp1 (fun v hp2=>v= .tup []/\GT P f dep dn (N+1) (N+1) hp2/\KG k hp1 hp2) (fun _ _=>False):=by
 refine Af (k1:=k+1) (PR:=fun _ _=>False) rfl Tryz.func190 (Aj Zd) rfl Zy rfl rvs_190 ?_
 obtain⟨gc,gh,c,hl,en,cells,hcN,hhl,hen,hce,hho,b0,b3,b4,b5,b7,b8,b10,q0,hpl⟩:=hcs
 have tkc:=Bj hcN
 have HHO:=Lib.hid hho
 have HPL:=Lib.hid hpl
 have HEN:=Lib.hid hen
 have HCE:=Lib.hid hce
 clear hho hpl hen hce
 have x1:(hl.length+1)*24<=140737488355328:=Zo
 have x2:hl.length<=9223372036854775806:=Zo
 have tkh:=Lla hl
 repeat' (first|((with_reducible apply A6);(refine Dx [(0,13),(1,13),(2,13),(3,13),(4,13),(0,14)] ?_);(iterate 6 refine Zs ?_);(exact Zz))|(refine Z1 ?_)|(refine Z2 ?_ ?_)|(intro h h';try simp[*,-h] at h')|((with_reducible apply Ap (f:=123));exact Zv;(apply(eput_g (f:=f) (dep:=dep) (dn:=dn) (P:=P) (N:=N) (M:=N+1)));(focus (refine⟨gc,gh+1,c,hl++[((N:Int),fh,pl)],en,cells,Zm,by simp;omega,HEN.out,HCE.out,?_,Zm,Zm,Zm,Zm,Zm,Zm,Zm,Zm,?_⟩;(focus (intro x hx;rcases List.mem_append.1 hx with h1|h1;(exact(HHO.out x h1).mono Zo);(simp at h1;subst h1;exact hh)));(focus (intro i F hF hd;obtain⟨g,l,h1,h2,h3⟩:=HPL.out i F hF hd;exact⟨g,l,h1,h2,Zm⟩))));exact ZT;(rintro _ hp2 ⟨rfl,hcn,hk2⟩))|fail)
 refine⟨rfl,hcn,fun d i c hd n1=>(hk2 d i c Zo n1).trans ?_⟩
 have hd2:d≠k+1:=Zo
 by_cases hd0:d=0
 ·subst hd0
  have n2:i≠29:=Zo
  simp[*]
 ·simp[*]
theorem Ck {d k N fn:Nat}{hp1:Hp}{P:GP}{dep:Int}{dn:Nat->Prop}{r below:Int}(hfn:fn<P.n)(hcs:GT P fn dep dn N N hp1)(hN:N<=3900000000000):HB P0 E47 (Lm X47) k d 184 [.ptr ⟨0,29,0⟩ 1 0,iv r,iv below] hp1 (fun v hp2=>v= .tup []/\GT P fn dep dn (N+1) (N+1) hp2/\KG k hp1 hp2) (fun _ _=>False):=by
 refine Af (k1:=k+1) (PR:=fun _ _=>False) rfl Tryz.func184 (Aj Zd) rfl Aaa rfl rvs_184 ?_
 have hcs0:=hcs
 obtain⟨gc,gh,c,hl,en,cells,hcN,hhl,hen,hce,hho,b0,b3,b4,b5,b7,b8,b10,q0,hpl⟩:=hcs0
 have tkc:=Bj hcN
 have HHO:=Lib.hid hho
 have HPL:=Lib.hid hpl
 have HEN:=Lib.hid hen
 have HCE:=Lib.hid hce
 clear hho hpl hen hce
 have hpn:=P.hs
 obtain⟨bv,hbv⟩: ∃bv,P.bs[fn]?=some bv:=⟨_,List.getElem?_eq_getElem Zo⟩
 have hbg:=B5 hbv
 have hbl:(ir P.bs).length=P.n:=by simp[P.hs]
 have hbge: ∀(h:fn<(ir P.bs).length),(ir P.bs)[fn]=[iv bv]:=fun h=>by have h3:=hbg;rw[List.getElem?_eq_getElem h] at h3;exact Option.some.inj h3
 have hf1:(fn:Int)<P.n:=Zo
 generalize hS:ir P.bs=SS at*
 have HBV:=Lib.hid hbv
 clear hbv hS hpn
 have hpX:=Bk (d:=26) (k:=k+1) (a:=16) (b:=r) (x:=0) (y:=IntKind.i64.wrap (IntKind.i64.wrap (bv+dep) - below)) hcs Zo
 rcases hpX with⟨v,hp2,hcall,rfl,hcn,hk2⟩|⟨_,_,_,_,h⟩
 rotate_left
 ·exact h.elim
 repeat' (first|((with_reducible apply A6);(exact Dx [] Zz))|(refine Z1 ?_)|(refine Z2 ?_ ?_)|(intro h h';try simp[*,-h] at h'))
 exact⟨rfl,hcn,fun d i c hd n1=>hk2 d i c Zo n1⟩
theorem Ch {d k N fn:Nat}{hp1:Hp}{P:GP}{dep:Int}{dn:Nat->Prop}{r below:Int}(hfn:fn<P.n)(hcs:GT P fn dep dn N N hp1)(hN:N<=3900000000000):HB P0 E47 (Lm X47) k d 181 [.ptr ⟨0,29,0⟩ 1 0,iv r,iv below] hp1 (fun v hp2=>v= .tup []/\GT P fn dep dn (N+1) (N+1) hp2/\KG k hp1 hp2) (fun _ _=>False):=by
 refine Af (k1:=k+1) (PR:=fun _ _=>False) rfl Tryz.func181 (Aj Zd) rfl Ada rfl rvs_181 ?_
 have hcs0:=hcs
 obtain⟨gc,gh,c,hl,en,cells,hcN,hhl,hen,hce,hho,b0,b3,b4,b5,b7,b8,b10,q0,hpl⟩:=hcs0
 have tkc:=Bj hcN
 have HHO:=Lib.hid hho
 have HPL:=Lib.hid hpl
 have HEN:=Lib.hid hen
 have HCE:=Lib.hid hce
 clear hho hpl hen hce
 have hpn:=P.hs
 obtain⟨bv,hbv⟩: ∃bv,P.bs[fn]?=some bv:=⟨_,List.getElem?_eq_getElem Zo⟩
 have hbg:=B5 hbv
 have hbl:(ir P.bs).length=P.n:=by simp[P.hs]
 have hbge: ∀(h:fn<(ir P.bs).length),(ir P.bs)[fn]=[iv bv]:=fun h=>by have h3:=hbg;rw[List.getElem?_eq_getElem h] at h3;exact Option.some.inj h3
 have hf1:(fn:Int)<P.n:=Zo
 generalize hS:ir P.bs=SS at*
 have HBV:=Lib.hid hbv
 clear hbv hS hpn
 have hpX:=Bk (d:=26) (k:=k+1) (a:=17) (b:=r) (x:=0) (y:=IntKind.i64.wrap (IntKind.i64.wrap (bv+dep) - below)) hcs Zo
 rcases hpX with⟨v,hp2,hcall,rfl,hcn,hk2⟩|⟨_,_,_,_,h⟩
 rotate_left
 ·exact h.elim
 repeat' (first|((with_reducible apply A6);(exact Dx [] Zz))|(refine Z1 ?_)|(refine Z2 ?_ ?_)|(intro h h';try simp[*,-h] at h'))
 exact⟨rfl,hcn,fun d i c hd n1=>hk2 d i c Zo n1⟩
theorem L8a {d k N:Nat}{hp1:Hp}{P:GP}{f dep:Int}{dn:Nat->Prop}{a b:Nat}(ha:a<=10000000000)(hb:b<=10000000000)(hcs:GT P f dep dn N N hp1)(hN:N<=3900000000000):HB P0 E47 (Lm X47) k d 198 [.ptr ⟨0,29,0⟩ 1 0,iv a,iv b] hp1 (fun v hp2=>v= .tup []/\(∃N2,N+0<=N2/\N2<=N+10/\GT P f dep dn N2 N2 hp2)/\KG k hp1 hp2) (fun _ _=>False):=by
 refine Af (k1:=k+1) (PR:=fun _ _=>False) rfl Tryz.func198 (Aj Zd) rfl Y9 rfl rvs_198 ?_
 have HK:=KG.refl k hp1
 have hw:IntKind.i64.wrap ((b:Int) - a)=(b:Int) - a:=Ad Zo Zo
 by_cases h6:(b:Int) - a<=6
 ·obtain⟨n,hn⟩: ∃n,n=b - a:=⟨_,rfl⟩
  repeat' (first|refine ZN ?_|refine Z2 ?_ ?_|(intro h h';try simp[*,-h] at h'))
  refine Ag (n:=n) (fun s0 m z=> ∃j:Nat,n - j<=m/\j<=n/\z.fr 0= .ptr ⟨0,29,0⟩ 1 0/\z.fr 2=iv b/\z.fr 6=iv ((a:Int)+j)/\GT P f dep dn (N+j) (N+j) z.hp/\KG k hp1 z.hp) ⟨0,Zo,Zo,Zi,Zi,Zi,by simpa using hcs,HK⟩ ?_
  rintro m ⟨fr,hp⟩ ⟨j,hm,hj,f0,f2,f6,hcs,HK⟩
  simp only at f0 f2 f6 hcs HK
  rcases (by omega:(a:Int)+j<b\/ ¬(a:Int)+j<b) with hlt|hlt
  ·have hwj:IntKind.i64.wrap ((a:Int)+j+1)=(a:Int)+j+1:=Ad Zo Zo
   repeat' (first|refine ZN ?_|refine Z2 ?_ ?_|(intro h h';try simp[*,-h] at h')|((with_reducible apply Ap (f:=123));exact Zv;(apply Bk);exact ZG;exact ZT;(refine KG.aft HK ?_;clear hcs HK;intro hp2 hO2 hcs HK))|fail)
   exact⟨n - (j+1),Zo,j+1,Zo,Zo,Zm,Zm,by simp;omega,by simpa[Nat.add_assoc] using hcs,HK⟩
  ·repeat' (first|refine ZN ?_|refine Z2 ?_ ?_|(intro h h';try simp[*,-h] at h'))
   exact⟨rfl,⟨_,Zo,Zo,hcs⟩,HK⟩
 repeat' (first|refine ZN ?_|refine Z2 ?_ ?_|(intro h h';try simp[*,-h] at h')|((with_reducible apply Ap (f:=123));exact Zv;(apply Bk);exact ZG;exact ZT;(refine KG.aft HK ?_;clear hcs HK;intro hp2 hO2 hcs HK))|fail)
 have hcs0:=hcs
 obtain⟨gc,gh,c,hl,en,cells,hcN,hhl,hen,hce,hho,b0,b3,b4,b5,b7,b8,b10,q0,hpl⟩:=hcs0
 have tkc:=Bj hcN
 have HHO:=Lib.hid hho
 have HPL:=Lib.hid hpl
 have HEN:=Lib.hid hen
 have HCE:=Lib.hid hce
 clear hho hpl hen hce
 repeat' (first|refine ZN ?_|refine Z2 ?_ ?_|(intro h h';try simp[*,-h] at h')|((with_reducible apply Ap (f:=123));exact Zv;(apply Bk);exact ZG;exact ZT;(refine KG.aft HK ?_;clear hcs HK;intro hp2 hO2 hcs HK))|fail)
 exact⟨rfl,⟨_,Zo,Zo,hcs⟩,HK⟩
theorem ecall_w {d k N fn:Nat}{hp1:Hp}{P:GP}{dep:Int}{dn:Nat->Prop}{op b n:Int}{a:Nat}{G:Sf}(hG:P.sfs[a]?=some G)(hfn:fn<P.n)(hcs:GT P fn dep dn N N hp1)(hN:N<=3800000000000):HB P0 E47 (Lm X47) k d 193 [.ptr ⟨0,29,0⟩ 1 0,.agg [iv op,iv a,iv b,uv n]] hp1 (fun v hp2=>v= .tup []/\(∃N2,N+0<=N2/\N2<=N+2500/\GT P fn dep dn N2 N2 hp2)/\KG k hp1 hp2) (fun _ _=>False):=by
 refine Af (k1:=k+1) (PR:=fun _ _=>False) rfl Tryz.func193 (Aj Zd) rfl Zn rfl rvs_193 ?_
 have hcs0:=hcs
 obtain⟨gc,gh,c,hl,en,cells,hcN,hhl,hen,hce,hho,b0,b3,b4,b5,b7,b8,b10,q0,hpl⟩:=hcs0
 have tkc:=Bj hcN
 have HHO:=Lib.hid hho
 have HPL:=Lib.hid hpl
 have HEN:=Lib.hid hen
 have HCE:=Lib.hid hce
 clear hho hpl hen hce
 have HK:=KG.refl k hp1
 obtain⟨_,⟨p,sl,fi,hp_,hpb,hs_,hsb,hf_,hfb⟩,_⟩:=P.hF a G hG
 have hrow:=Lg hG
 have haN:a<P.sfs.length:=(List.getElem?_eq_some_iff.1 hG).1
 have hsn:=P.hn
 have hak:HoK P (N+1000000) ((N:Int),(a:Int),-1):=⟨N,a,G,rfl,Zo,rfl,hG,Or.inl (by show(-1:Int)<0;decide)⟩
 obtain⟨gp_,gs_,gf_,gw_,gc_⟩:=G
 simp only at hp_ hs_ hf_
 subst hp_ hs_ hf_
 rw[Jo] at hrow
 have hge: ∀(h:a<P.sfs.length),(P.sfs[a]).row=[iz p,iz sl,iz fi,bz gw_,.sl false 4 (gc_.map Si.row)]:=fun h=>by have h3:=hrow;simp[h] at h3;exact h3
 have ha1:(a:Int)<P.sfs.length:=Zo
 have HG:=Lib.hid hG
 have HSN:=Lib.hid hsn
 clear hG hsn
 repeat' (first|((with_reducible apply A6);(refine Dx [(0,9),(1,9),(2,9),(3,9),(4,9),(5,9),(6,9),(7,9),(8,9)] ?_);(iterate 9 refine Zs ?_);(exact Zz))|(refine Z1 ?_)|(refine Z2 ?_ ?_)|(intro h h';try simp[*,-h] at h'))
 refine Ag (n:=p) (fun s0 m z=> ∃(j g3 g4:Nat),p - j<=m/\j<=p/\z.fr 0= .ptr ⟨0,29,0⟩ 1 0/\z.fr 3= .ptr ⟨k+1,3,0⟩ g3 0/\z.fr 4= .ptr ⟨k+1,4,0⟩ g4 0/\z.fr 16=iv p/\z.fr 17=iv j/\GT P fn dep dn (N+2*j) (N+2*j) z.hp/\KG k hp1 z.hp/\z.hp ⟨k+1,3,0⟩= .box g3 [iv op,iv a,iv b,uv n] false/\z.hp ⟨k+1,4,0⟩= .box g4 [iv p,iv sl,iv fi,bz gw_,.sl false 4 (gc_.map Si.row)] false) ⟨0,(hp1 ⟨k+1,3,0⟩).gen+1,(hp1 ⟨k+1,4,0⟩).gen+1,Zo,Zo,Zi,Zi,Zi,Zi,Zi,GT.congr hcs (fun i c h=>Zi),(fun d i c hd n1=>by have hd2:d≠k+1:=Zo;simp[hd2]),Zi,Zi⟩ ?_
 clear HK hcs hcN hhl b0 b3 b4 b5 b7 b8 b10 q0 tkc
 rintro m ⟨fr,hp⟩ ⟨j,g3,g4,hm,hj,f0,f3,f4,f16,f17,hcs,HK,b3,b4⟩
 simp only at f0 f3 f4 f16 f17 hcs HK b3 b4
 by_cases hlt:j<p
 ·have e1:(j:Int)<p:=Zo
  have hwj:IntKind.i64.wrap ((j:Int)+1)=(j:Int)+1:=wrapN Zo
  repeat' (first|refine ZN ?_|refine Z2 ?_ ?_|(intro h h';try simp[*,-h] at h')|((with_reducible apply Ap (f:=184));exact Zv;(apply Ck);exact hfn;exact ZG;exact ZT;(refine KG.aft HK ?_;clear hcs HK;intro hp2 hO2 hcs HK))|((with_reducible apply Ap (f:=123));exact Zv;(apply Bk);exact ZG;exact ZT;(refine KG.aft HK ?_;clear hcs HK;intro hp2 hO2 hcs HK))|fail)
  exact⟨p - (j+1),Zo,j+1,g3,g4,Zo,Zo,Zm,Zm,Zm,Zm,Zm,by simpa[Nat.mul_add,Nat.add_assoc] using hcs,HK,Zm,Zm⟩
 have e1: ¬(j:Int)<p:=Zo
 cases gw_
 ·repeat' (first|refine ZN ?_|refine Z2 ?_ ?_|(intro h h';try simp[*,-h] at h')|((with_reducible apply Ap (f:=190));exact Zv;(apply Nd);exact ZG;exact ZT;(focus (exact⟨_,a,_,rfl,Zo,rfl,HG.out,Or.inl (by show(-1:Int)<0;decide)⟩));(refine KG.aft HK ?_;clear hcs HK;intro hp2 hO2 hcs HK))|fail)
  exact⟨rfl,⟨_,Zo,Zo,hcs⟩,HK⟩
 ·repeat' (first|refine ZN ?_|refine Z2 ?_ ?_|(intro h h';try simp[*,-h] at h')|((with_reducible apply Ap (f:=190));exact Zv;(apply Nd);exact ZG;exact ZT;(focus (exact⟨_,a,_,rfl,Zo,rfl,HG.out,Or.inl (by show(-1:Int)<0;decide)⟩));(refine KG.aft HK ?_;clear hcs HK;intro hp2 hO2 hcs HK))|((with_reducible apply Ap (f:=181));exact Zv;(apply Ch);exact hfn;exact ZG;exact ZT;(refine KG.aft HK ?_;clear hcs HK;intro hp2 hO2 hcs HK))|fail)
  exact⟨rfl,⟨_,Zo,Zo,hcs⟩,HK⟩
theorem L5a {d k N fn:Nat}{hp1:Hp}{P:GP}{dep:Int}{dn:Nat->Prop}(hfn:fn<P.n)(hcs:GT P fn dep dn N N hp1)(hN:N<=3800000000000):HB P0 E47 (Lm X47) k d 195 [.ptr ⟨0,29,0⟩ 1 0] hp1 (fun v hp2=>v= .tup []/\(∃N2,N+0<=N2/\N2<=N+10/\GT P fn dep dn N2 N2 hp2)/\KG k hp1 hp2) (fun _ _=>False):=by
 refine Af (k1:=k+1) (PR:=fun _ _=>False) rfl Tryz.func195 (Aj Zd) rfl Ze rfl rvs_195 ?_
 have hcs0:=hcs
 obtain⟨gc,gh,c,hl,en,cells,hcN,hhl,hen,hce,hho,b0,b3,b4,b5,b7,b8,b10,q0,hpl⟩:=hcs0
 have tkc:=Bj hcN
 have HHO:=Lib.hid hho
 have HPL:=Lib.hid hpl
 have HEN:=Lib.hid hen
 have HCE:=Lib.hid hce
 clear hho hpl hen hce
 have HK:=KG.refl k hp1
 have hsn:=P.hn
 have hn1:=P.n1
 have hn2:=P.n2
 have hw:IntKind.i64.wrap ((P.n:Int) - 1)=(P.n:Int) - 1:=Ad Zo Zo
 by_cases hl:fn+1=P.n
 ·have e1:(fn:Int)=(P.n:Int) - 1:=Zo
  repeat' (first|((with_reducible apply Bd (d:=2));exact rfl;(exact Dx [] Zz))|(refine Z1 ?_)|(refine Z2 ?_ ?_)|(intro h h';try simp[*,-h] at h')|((with_reducible apply Ap (f:=123));exact Zv;(apply Bk);exact ZG;exact ZT;(refine KG.aft HK ?_;clear hcs HK;intro hp2 hO2 hcs HK))|fail)
  exact⟨rfl,⟨_,Zo,Zo,hcs⟩,HK⟩
 have e1: ¬(fn:Int)=(P.n:Int) - 1:=Zo
 obtain⟨G,hG⟩: ∃G,P.sfs[fn]?=some G:=⟨_,List.getElem?_eq_getElem Zo⟩
 have hrow:=Lg hG
 obtain⟨gp_,gs_,gf_,gw_,gc_⟩:=G
 rw[Jo] at hrow
 have hge: ∀(h:fn<P.sfs.length),(P.sfs[fn]).row=[iz gp_,iz gs_,iz gf_,bz gw_,.sl false 4 (gc_.map Si.row)]:=fun h=>by have h3:=hrow;simp[h] at h3;exact h3
 clear hG
 cases gw_
 ·repeat' (first|((with_reducible apply Bd (d:=2));exact rfl;(exact Dx [] Zz))|((with_reducible apply Bd (d:=16));exact rfl;(exact Dx [] Zz))|(refine Z1 ?_)|(refine Z2 ?_ ?_)|(intro h h';try simp[*,-h] at h'))
  obtain⟨kv,hkv⟩: ∃kv,P.bk[fn]?=some kv:=⟨_,List.getElem?_eq_getElem (by have:=P.hk;omega)⟩
  have hkg:=B5 hkv
  have hkl:(ir P.bk).length=P.n:=by simp[P.hk]
  have hkge: ∀(h:fn<(ir P.bk).length),(ir P.bk)[fn]=[iv kv]:=fun h=>by have h3:=hkg;rw[List.getElem?_eq_getElem h] at h3;exact Option.some.inj h3
  have hf1:(fn:Int)<P.n:=Zo
  generalize hS:ir P.bk=S at*
  clear hkv hS
  have hpX:=Bk (d:=42) (k:=k+1) (a:=16) (b:=14) (x:=0) (y:=kv) hcs Zo
  rcases hpX with⟨v,hp2,hcall,rfl,hcn,hk2⟩|⟨_,_,_,_,h⟩
  rotate_left
  ·exact h.elim
  repeat' (first|((with_reducible apply Bd (d:=30));exact rfl;(exact Dx [] Zz))|(refine Z1 ?_)|(refine Z2 ?_ ?_)|(intro h h';try simp[*,-h] at h'))
  have HKn:=KG.step HK hk2 Zo (fun d i c hd=>by simp[Zl hd]);have hO2:=hk2.own Zo;clear hcs HK;have hcs:=hcn;have HK:=HKn;clear hcn HKn hk2
  repeat' (first|refine ZN ?_|refine Z2 ?_ ?_|(intro h h';try simp[*,-h] at h')|((with_reducible apply Ap (f:=123));exact Zv;(apply Bk);exact ZG;exact ZT;(refine KG.aft HK ?_;clear hcs HK;intro hp2 hO2 hcs HK))|fail)
  exact⟨rfl,⟨_,Zo,Zo,hcs⟩,HK⟩
 ·repeat' (first|((with_reducible apply Bd (d:=2));exact rfl;(exact Dx [] Zz))|((with_reducible apply Bd (d:=16));exact rfl;(exact Dx [] Zz))|(refine Z1 ?_)|(refine Z2 ?_ ?_)|(intro h h';try simp[*,-h] at h')|((with_reducible apply Ap (f:=184));exact Zv;(apply Ck);exact hfn;exact ZG;exact ZT;(refine KG.aft HK ?_;clear hcs HK;intro hp2 hO2 hcs HK))|fail)
  have hcs0:=hcs
  obtain⟨gc,gh,c,hl,en,cells,hcN,hhl,hen,hce,hho,b0,b3,b4,b5,b7,b8,b10,q0,hpl⟩:=hcs0
  have tkc:=Bj hcN
  have HHO:=Lib.hid hho
  have HPL:=Lib.hid hpl
  have HEN:=Lib.hid hen
  have HCE:=Lib.hid hce
  clear hho hpl hen hce
  obtain⟨kv,hkv⟩: ∃kv,P.bk[fn]?=some kv:=⟨_,List.getElem?_eq_getElem (by have:=P.hk;omega)⟩
  have hkg:=B5 hkv
  have hkl:(ir P.bk).length=P.n:=by simp[P.hk]
  have hkge: ∀(h:fn<(ir P.bk).length),(ir P.bk)[fn]=[iv kv]:=fun h=>by have h3:=hkg;rw[List.getElem?_eq_getElem h] at h3;exact Option.some.inj h3
  have hf1:(fn:Int)<P.n:=Zo
  generalize hS:ir P.bk=S at*
  clear hkv hS
  have hpX:=Bk (d:=42) (k:=k+1) (a:=16) (b:=14) (x:=0) (y:=kv) hcs Zo
  rcases hpX with⟨v,hp2,hcall,rfl,hcn,hk2⟩|⟨_,_,_,_,h⟩
  rotate_left
  ·exact h.elim
  repeat' (first|((with_reducible apply Bd (d:=30));exact rfl;(exact Dx [] Zz))|(refine Z1 ?_)|(refine Z2 ?_ ?_)|(intro h h';try simp[*,-h] at h'))
  have HKn:=KG.step HK hk2 Zo (fun d i c hd=>by simp[Zl hd]);have hO2:=hk2.own Zo;clear hcs HK;have hcs:=hcn;have HK:=HKn;clear hcn HKn hk2
  repeat' (first|refine ZN ?_|refine Z2 ?_ ?_|(intro h h';try simp[*,-h] at h')|((with_reducible apply Ap (f:=123));exact Zv;(apply Bk);exact ZG;exact ZT;(refine KG.aft HK ?_;clear hcs HK;intro hp2 hO2 hcs HK))|fail)
  exact⟨rfl,⟨_,Zo,Zo,hcs⟩,HK⟩
end
end Go.Proofs.YtpmoibjpjlhcgaaGreatDoor
