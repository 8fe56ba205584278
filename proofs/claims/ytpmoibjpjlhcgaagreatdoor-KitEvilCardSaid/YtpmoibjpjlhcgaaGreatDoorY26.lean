/- A part of the proof: La, Lb, Lc, Ld, Le, Lf. -/
import Derived.Test.YtpmoibjpjlhcgaaGreatDoorY25
set_option linter.unusedSimpArgs false
set_option linter.unusedVariables false
set_option maxRecDepth 200000
set_option maxHeartbeats 8000000
namespace Go.Proofs.YtpmoibjpjlhcgaaGreatDoor
open Go Go.Ab Go.Ab.Sy
def LT (w:Bool)(c:List Si)(hp:Hp):Prop:= ∃g,hp ⟨0,3,0⟩= .box 1 [bz w,.own ⟨0,3,2⟩ g c.length] false/\hp ⟨0,3,2⟩= .arr g 4 315 (c.map Si.row) false
def KL (D:Nat)(hp1 hp2:Hp):Prop:= ∀d i c,d<=D->(⟨d,i,c⟩:Nm)≠⟨0,3,0⟩->(⟨d,i,c⟩:Nm)≠⟨0,3,2⟩->hp2 ⟨d,i,c⟩=hp1 ⟨d,i,c⟩
theorem LT.congr {w:Bool}{c:List Si}{hp hp':Hp}(h:LT w c hp)(he: ∀i c,hp' ⟨0,i,c⟩=hp ⟨0,i,c⟩):LT w c hp':=by
 obtain⟨g,h1,h2⟩:=h
 exact⟨g,(he _ _).trans h1,(he _ _).trans h2⟩
theorem KL.refl (D:Nat)(hp:Hp):KL D hp hp:=fun _ _ _ _ _ _=>rfl
theorem KL.step {D D':Nat}{hp1 hpA hpB hp2:Hp}(h:KL D hp1 hpA)(h2:KL D' hpB hp2)(hd:D<=D')(he: ∀d i c,d<=D->hpB ⟨d,i,c⟩=hpA ⟨d,i,c⟩):KL D hp1 hp2:=fun d i c hd' n1 n2=>(h2 d i c (by omega) n1 n2).trans ((he d i c hd').trans (h d i c hd' n1 n2))
theorem KL.own {D:Nat}{hp1 hp2:Hp}(h:KL D hp1 hp2)(hD:D≠0): ∀i c,hp2 ⟨D,i,c⟩=hp1 ⟨D,i,c⟩:=fun i c=>h D i c (Nat.le_refl _) (by simp[hD]) (by simp[hD])
theorem Pl (l:List Si):(l.map Si.row).take l.length=l.map Si.row:=by rw[List.take_of_length_le (by simp)]
theorem put1 {d k0 s0 gl:Nat}{hp1:Hp}{w:Bool}{c:List Si}{a:Si}(hc:LT w c hp1)(hl:c.length<=1048576)(hls:hp1 ⟨k0+1,s0,0⟩= .arr gl 4 315 [a.row] false):HB Tryz.prog E47 (Lm X47) (k0+1) d 203 [.ptr ⟨0,3,0⟩ 1 0,.own ⟨k0+1,s0,0⟩ gl 1] hp1 (fun v hp2=>v= .tup []/\LT w (c++[a]) hp2/\KL (k0+1) hp1 hp2) (fun _ _=>False):=by
 refine Af (k1:=k0+1+1) (PR:=fun _ _=>False) rfl Tryz.func203 (Ak (by decide)) rfl Ng rfl Y7 ?_
 obtain⟨g,h1,h2⟩:=hc
 have x1:(c.length+1)*32<=140737488355328:=by omega
 have x2:c.length<=9223372036854775806:=by omega
 have x3:=Pl c
 repeat' (first|refine ZN ?_|refine Z2 ?_ ?_|(intro h h';try simp[*,-h] at h'))
 exact⟨rfl,⟨g+1,by simp[*],by simp[*]⟩,fun d i c hd n1 n2=>by have hd2:d≠k0+1+1:=(by omega);simp[*]⟩
theorem put2 {d k0 s0 gl:Nat}{hp1:Hp}{w:Bool}{c:List Si}{a b:Si}(hc:LT w c hp1)(hl:c.length<=1048576)(hls:hp1 ⟨k0+1,s0,0⟩= .arr gl 4 315 [a.row,b.row] false):HB Tryz.prog E47 (Lm X47) (k0+1) d 203 [.ptr ⟨0,3,0⟩ 1 0,.own ⟨k0+1,s0,0⟩ gl 2] hp1 (fun v hp2=>v= .tup []/\LT w (c++[a,b]) hp2/\KL (k0+1) hp1 hp2) (fun _ _=>False):=by
 refine Af (k1:=k0+1+1) (PR:=fun _ _=>False) rfl Tryz.func203 (Ak (by decide)) rfl Ng rfl Y7 ?_
 obtain⟨g,h1,h2⟩:=hc
 have x1:(c.length+2)*32<=140737488355328:=by omega
 have x2:c.length<=9223372036854775805:=by omega
 have x3:=Pl c
 repeat' (first|refine ZN ?_|refine Z2 ?_ ?_|(intro h h';try simp[*,-h] at h'))
 exact⟨rfl,⟨g+1,by simp[*],by simp[*]⟩,fun d i c hd n1 n2=>by have hd2:d≠k0+1+1:=(by omega);simp[*]⟩
end Go.Proofs.YtpmoibjpjlhcgaaGreatDoor
namespace Go.Proofs.YtpmoibjpjlhcgaaGreatDoor
open Go Go.Ab Go.Ab.Sy
theorem Zu {d k:Nat}{hp1:Hp}{w:Bool}{c:List Si}(hcs:LT w c hp1)(hlen:c.length<=1048000):HB Tryz.prog E47 (Lm X47) k d 127 [.ptr ⟨0,3,0⟩ 1 0] hp1 (fun v hp2=>v= .tup []/\LT w (c++leave w) hp2/\KL k hp1 hp2) (fun _ _=>False):=by
 refine Af (k1:=k+1) (PR:=fun _ _=>False) rfl Tryz.func127 (Ak (by decide)) rfl X5 rfl rvs_127 ?_
 have HK:=KL.refl k hp1
 have h0:=hcs
 obtain⟨g,h1,h2⟩:=h0
 cases w
 ·repeat' (first|refine ZN ?_|refine Z2 ?_ ?_|(intro h h';try simp[*,-h] at h')|((with_reducible apply Aa (f:=203));(iterate 5 exact Z5);(apply put1 (a:=⟨11,0,0,0⟩));(focus (refine LT.congr hcs ?_;intro i c;simp));(focus ((try simp);omega));exact Zc;rotate_left;(rintro _ _ h;exact h.elim);(rintro _ hp2 ⟨rfl,hcn,hk2⟩;have HKn:=KL.step HK hk2 (by omega) (fun d i c hd=>by simp[Zl hd]);have hO2:=hk2.own (by omega);clear hcs HK;have hcs:=hcn;have HK:=HKn;clear hcn HKn hk2))|fail)
  exact⟨rfl,hcs,HK⟩
 ·repeat' (first|refine ZN ?_|refine Z2 ?_ ?_|(intro h h';try simp[*,-h] at h')|((with_reducible apply Aa (f:=203));(iterate 5 exact Z5);(apply put1 (a:=⟨1,0,0,0⟩));(focus (refine LT.congr hcs ?_;intro i c;simp));(focus ((try simp);omega));exact Zc;rotate_left;(rintro _ _ h;exact h.elim);(rintro _ hp2 ⟨rfl,hcn,hk2⟩;have HKn:=KL.step HK hk2 (by omega) (fun d i c hd=>by simp[Zl hd]);have hO2:=hk2.own (by omega);clear hcs HK;have hcs:=hcn;have HK:=HKn;clear hcn HKn hk2))|((with_reducible apply Aa (f:=203));(iterate 5 exact Z5);(apply put1 (a:=⟨11,0,0,0⟩));(focus (refine LT.congr hcs ?_;intro i c;simp));(focus ((try simp);omega));exact Zc;rotate_left;(rintro _ _ h;exact h.elim);(rintro _ hp2 ⟨rfl,hcn,hk2⟩;have HKn:=KL.step HK hk2 (by omega) (fun d i c hd=>by simp[Zl hd]);have hO2:=hk2.own (by omega);clear hcs HK;have hcs:=hcn;have HK:=HKn;clear hcn HKn hk2))|fail)
  exact⟨rfl,by simpa[leave] using hcs,HK⟩
theorem F0 {d k:Nat}{hp1:Hp}{w:Bool}{c:List Si}(op:Int)(hcs:LT w c hp1)(hlen:c.length<=1048000):HB Tryz.prog E47 (Lm X47) (k+1) d 256 [.ptr ⟨0,3,0⟩ 1 0,iv op] hp1 (fun v hp2=> ∃gA,v= .fn 295 [.ptr ⟨k+1,d,1⟩ gA 0,.dp [iv c.length] 0]/\hp2 ⟨k+1,d,1⟩= .box gA [.ptr ⟨0,3,0⟩ 1 0] false/\LT w (c++[⟨op,0,0,0⟩]) hp2/\KL k hp1 hp2/\ ∀i c,i≠d->hp2 ⟨k+1,i,c⟩=hp1 ⟨k+1,i,c⟩) (fun _ _=>False):=by
 refine Af (k1:=k+1+1) (PR:=fun _ _=>False) rfl Tryz.func256 (Ak (by decide)) rfl Vu rfl rvs_256 ?_
 have HK:=KL.refl (k+1) hp1
 have hnk:(k+1<=k)=False:=by simp
 have h0:=hcs
 obtain⟨g,h1,h2⟩:=h0
 repeat' (first|refine ZN ?_|refine Z2 ?_ ?_|(intro h h';try simp[*,-h] at h')|((with_reducible apply Aa (f:=203));(iterate 5 exact Z5);(apply put1 (a:=⟨op,0,0,0⟩));(focus (refine LT.congr hcs ?_;intro i c;simp));(focus ((try simp);omega));exact Zc;rotate_left;(rintro _ _ h;exact h.elim);(rintro _ hp2 ⟨rfl,hcn,hk2⟩;have HKn:=KL.step HK hk2 (by omega) (fun d i c hd=>by simp[Zl hd]);have hO2:=hk2.own (by omega);clear hcs HK;have hcs:=hcn;have HK:=HKn;clear hcn HKn hk2))|fail)
 exact⟨_,rfl,by simp,LT.congr hcs (fun i c=>by simp),fun d' i c hd n1 n2=>by have e1:d'≠k+1:=(by omega);have e2:d'≠k+1+1:=(by omega);have e3:=HK d' i c (by omega) n1 n2;simp[e1,e2,e3],fun i c hi=>by have e3:=HK (k+1) i c (Nat.le_refl _) (by simp) (by simp);simp[hi,e3]⟩
theorem fix_w {d k q gA:Nat}{hp1:Hp}{w:Bool}{c1 c2:List Si}{op x:Int}(hcs:LT w (c1++⟨op,x,0,0⟩::c2) hp1)(hb:hp1 ⟨k+1,q,1⟩= .box gA [.ptr ⟨0,3,0⟩ 1 0] false):HB Tryz.prog E47 (Lm X47) (k+1) d 295 [.ptr ⟨k+1,q,1⟩ gA 0,.dp [iv c1.length] 0] hp1 (fun v hp2=>v= .tup []/\LT w (c1++⟨op,((c1++⟨op,x,0,0⟩::c2).length:Nat),0,0⟩::c2) hp2/\KL (k+1) hp1 hp2) (fun _ _=>False):=by
 refine Af (k1:=k+1+1) (PR:=fun _ _=>False) rfl Tryz.func295 (Ak (by decide)) rfl Vm rfl rvs_295 ?_
 obtain⟨g,h1,h2⟩:=hcs
 have hget:(List.map Si.row (c1++⟨op,x,0,0⟩::c2))[c1.length]?=some [iz op,iz x,iz 0,uz 0]:=by simp[Si.row]
 have hset:(List.map Si.row (c1++⟨op,x,0,0⟩::c2)).set c1.length [iz op,iz ((c1++⟨op,x,0,0⟩::c2).length:Nat),iz 0,uz 0]=List.map Si.row (c1++⟨op,((c1++⟨op,x,0,0⟩::c2).length:Nat),0,0⟩::c2):=by simp[Si.row]
 have hlen:(List.map Si.row (c1++⟨op,x,0,0⟩::c2)).length=(c1++⟨op,x,0,0⟩::c2).length:=by simp
 have hlt:(c1.length:Int)<((c1++⟨op,x,0,0⟩::c2).length:Nat):=by simp;omega
 have hlt2:c1.length<(c1++⟨op,x,0,0⟩::c2).length:=by simp
 generalize hL:(c1++⟨op,x,0,0⟩::c2).length=L at*
 generalize hR:List.map Si.row (c1++⟨op,x,0,0⟩::c2)=R at*
 have hge: ∀(h:c1.length<R.length),R[c1.length]=[iz op,iz x,iz 0,uz 0]:=fun h=>by have h3:=hget;rw[List.getElem?_eq_getElem h] at h3;exact Option.some.inj h3
 repeat' (first|((with_reducible apply A7);(apply Ao (ps:=[(0,4),(1,4),(2,4),(3,4),(0,5),(1,5),(2,5),(3,5),(4,5),(0,6),(1,6),(2,6),(3,6),(4,6),(0,7),(1,7),(2,7),(3,7),(4,7),(0,8),(1,8),(2,8),(3,8),(4,8),(0,9),(1,9),(2,9),(3,9),(4,9)]));kernel_rfl;(iterate 29 refine Zk ?_);(exact Zz))|(refine Z1 ?_)|(refine Z2 ?_ ?_)|(intro h h';try simp[*,-h] at h'))
 have hL2:(c1++⟨op,(L:Int),0,0⟩::c2).length=L:=by rw[<-hL];simp
 exact⟨rfl,⟨g,by rw[hL2];simp[h1],by simp⟩,fun d i c hd n1 n2=>by simp[n2]⟩
end Go.Proofs.YtpmoibjpjlhcgaaGreatDoor
namespace Go.Proofs.YtpmoibjpjlhcgaaGreatDoor
open Go Go.Ab Go.Ab.Sy
theorem Gc {d k q gA:Nat}{hp1:Hp}{w:Bool}{c1 c2:List Si}{op x n:Int}(hcs:LT w (c1++⟨op,x,0,0⟩::c2) hp1)(hb:hp1 ⟨k+1,q,1⟩= .box gA [.ptr ⟨0,3,0⟩ 1 0] false)(hn:n=c1.length):
  HB Tryz.prog E47 (Lm X47) (k+1) d 295 [.ptr ⟨k+1,q,1⟩ gA 0,.dp [iv n] 0] hp1 (fun v hp2=>v= .tup []/\LT w (c1++⟨op,((c1++⟨op,x,0,0⟩::c2).length:Nat),0,0⟩::c2) hp2/\KL (k+1) hp1 hp2) (fun _ _=>False):=by
 subst hn
 exact fix_w hcs hb
def LXl (f:Nat)(arg:AV)(code:Bool->Nat->List Si)(n:Nat):Prop:= ∀(d k:Nat) (hp1:Hp) (w:Bool) (c:List Si),LT w c hp1->c.length+n<=1000000->
 HB Tryz.prog E47 (Lm X47) k d f [.ptr ⟨0,3,0⟩ 1 0,arg] hp1 (fun v hp2=>v= .tup []/\(∃x,x=code w c.length/\x.length<=n/\LT w (c++x) hp2)/\KL k hp1 hp2) (fun _ _=>False)
theorem cx_get {l:List Cx}{i:Nat}{e:Cx}(h:l[i]?=some e):(cxRows l)[i]?=some e.row:=by simp[Gy,h]
theorem Ji (p:Nat)(k o n s z:Int)(l:List Cx):lE p (.mk k o n s z l)=if k=8\/k=9 then lB p k l else lEs p l++tailE k o n s z:=by rw[lE]
theorem lB_two (p:Nat)(k:Int)(a b:Cx):lB p k [a,b]=(lE p a++if k=8 then[sNot] else[])++(⟨9,((p+(lE p a++if k=8 then[sNot] else[]).length+3:Nat):Int),0,0⟩::
   ⟨1,0,0,if k=8 then 0 else 1⟩::⟨8,((p+(lE p a++if k=8 then[sNot] else[]).length+5+(lE (p+(lE p a++if k=8 then[sNot] else[]).length+3) b).length:Nat):Int),0,0⟩::
   (lE (p+(lE p a++if k=8 then[sNot] else[]).length+3) b++[sNot,sNot])):=by rw[lB,lR]
theorem Ro {l:List Cx}{j:Nat}{e:Cx}(h:l[j]?=some e)(p:Nat):lEs p (l.take (j+1))=lEs p (l.take j)++lE (p+(lEs p (l.take j)).length) e:=by
 rw[List.take_add_one,h]
 show lEs p (l.take j++[e])=_
 rw[Zw]
 simp
theorem Eh (l:List Cx)(j:Nat):cxSize (l.take j)<=cxSize l:=by
 conv=>rhs;rw[<-List.take_append_drop j l,M2]
 omega
theorem Jp {l:List Cx}{j:Nat}{e:Cx}(h:l[j]?=some e):cxSize (l.take j)+e.size<=cxSize l:=by
 have h1:=Eh l (j+1)
 rw[List.take_add_one,h] at h1
 simp at h1
 omega
theorem Nq (k o n s z:Int)(l:List Cx):(Cx.mk k o n s z l).size=cxSize l+1:=by rw[Cx.size]
theorem H5a (o n s z:Int)(a b:Cx)(iha:LXl 255 (.dp a.row 0) (fun _ p=>lE p a) (6*a.size))(ihb:LXl 255 (.dp b.row 0) (fun _ p=>lE p b) (6*b.size)):LXl 294 (.dp [iz 8,iz o,uz n,iz s,iz z,.sl false 6 (cxRows [a,b])] 0) (fun _ p=>lB p 8 [a,b]) (6*(a.size+b.size)+6):=by
 intro d k hp1 w c hcs hlen
 refine Af (k1:=k+1) (PR:=fun _ _=>False) rfl Tryz.func294 (Ak (by decide)) rfl Nf rfl Y6 ?_
 have HK:=KL.refl k hp1
 obtain⟨ak,ao,an,as_,az,al⟩:=a
 obtain⟨bk,bo,bn,bs,bz_,bl⟩:=b
 simp only[Cc] at iha ihb
 simp only[Gh,Fg,Cc]
 repeat' (first|refine ZN ?_|refine Z2 ?_ ?_|(intro h h';try simp[*,-h] at h')|((with_reducible apply Aa (f:=255));(iterate 5 exact Z5);(apply iha _ (k+1) _ _ _);(focus (refine LT.congr hcs ?_;intro i c;simp));(focus ((try simp);omega));rotate_left;(rintro _ _ h;exact h.elim);(rintro _ hp2 ⟨rfl,⟨xa,hxa,hlxa,hcn⟩,hk2⟩;have Hxa:=Lib.hid hxa;clear hxa;have HKn:=KL.step HK hk2 (by omega) (fun d i c hd=>by simp[Zl hd]);have hO2:=hk2.own (by omega);clear hcs HK;have hcs:=hcn;have HK:=HKn;clear hcn HKn hk2))|fail)
 repeat' (first|refine ZN ?_|refine Z2 ?_ ?_|(intro h h';try simp[*,-h] at h')|((with_reducible apply Aa (f:=203));(iterate 5 exact Z5);(apply put1 (a:=sNot));(focus (refine LT.congr hcs ?_;intro i c;simp));(focus ((try simp);omega));exact Zc;rotate_left;(rintro _ _ h;exact h.elim);(rintro _ hp2 ⟨rfl,hcn,hk2⟩;have HKn:=KL.step HK hk2 (by omega) (fun d i c hd=>by simp[Zl hd]);have hO2:=hk2.own (by omega);clear hcs HK;have hcs:=hcn;have HK:=HKn;clear hcn HKn hk2))|fail)
 repeat' (first|refine ZN ?_|refine Z2 ?_ ?_|(intro h h';try simp[*,-h] at h')|((with_reducible apply Aa (f:=256));(iterate 5 exact Z5);(apply F0 (d:=26) 9);(focus (refine LT.congr hcs ?_;intro i c;simp));(focus ((try simp);omega));rotate_left;(rintro _ _ h;exact h.elim);(rintro _ hp2 ⟨gA,rfl,hbgA,hcn,hkA,hO2⟩;have HKn:=KL.step HK hkA (by omega) (fun d i c hd=>by simp[Zl hd]);clear hcs HK;have hcs:=hcn;have HK:=HKn;clear hcn HKn hkA))|fail)
 repeat' (first|refine ZN ?_|refine Z2 ?_ ?_|(intro h h';try simp[*,-h] at h')|((with_reducible apply Aa (f:=203));(iterate 5 exact Z5);(apply put1 (a:=⟨1,0,0,0⟩));(focus (refine LT.congr hcs ?_;intro i c;simp));(focus ((try simp);omega));exact Zc;rotate_left;(rintro _ _ h;exact h.elim);(rintro _ hp2 ⟨rfl,hcn,hk2⟩;have HKn:=KL.step HK hk2 (by omega) (fun d i c hd=>by simp[Zl hd]);have hO2:=hk2.own (by omega);clear hcs HK;have hcs:=hcn;have HK:=HKn;clear hcn HKn hk2))|fail)
 repeat' (first|refine ZN ?_|refine Z2 ?_ ?_|(intro h h';try simp[*,-h] at h')|((with_reducible apply Aa (f:=256));(iterate 5 exact Z5);(apply F0 (d:=33) 8);(focus (refine LT.congr hcs ?_;intro i c;simp));(focus ((try simp);omega));rotate_left;(rintro _ _ h;exact h.elim);(rintro _ hp2 ⟨gB,rfl,hbgB,hcn,hkA,hO2⟩;have HKn:=KL.step HK hkA (by omega) (fun d i c hd=>by simp[Zl hd]);clear hcs HK;have hcs:=hcn;have HK:=HKn;clear hcn HKn hkA))|fail)
 repeat' (first|refine ZN ?_|refine Z2 ?_ ?_|(intro h h';try simp[*,-h] at h')|((with_reducible apply Aa (f:=295));(iterate 5 exact Z5);(apply Gc (c1:=(c++(xa++[sNot]))) (c2:=[⟨1,0,0,0⟩,⟨8,0,0,0⟩]) (op:=9) (x:=0) (q:=26));(focus (have hq:=hcs;simp at hq⊢;exact LT.congr hq (fun i c=>by simp)));exact Zc;(focus ((try simp);(try omega)));rotate_left;(rintro _ _ h;exact h.elim);(rintro _ hp2 ⟨rfl,hcn,hk2⟩;have HKn:=KL.step HK hk2 (by omega) (fun d i c hd=>by simp[Zl hd]);have hO2:=hk2.own (by omega);clear hcs HK;have hcs:=hcn;have HK:=HKn;clear hcn HKn hk2))|fail)
 repeat' (first|refine ZN ?_|refine Z2 ?_ ?_|(intro h h';try simp[*,-h] at h')|((with_reducible apply Aa (f:=255));(iterate 5 exact Z5);(apply ihb _ (k+1) _ _ _);(focus (refine LT.congr hcs ?_;intro i c;simp));(focus ((try simp);omega));rotate_left;(rintro _ _ h;exact h.elim);(rintro _ hp2 ⟨rfl,⟨xb,hxb,hlxb,hcn⟩,hk2⟩;have Hxb:=Lib.hid hxb;clear hxb;have HKn:=KL.step HK hk2 (by omega) (fun d i c hd=>by simp[Zl hd]);have hO2:=hk2.own (by omega);clear hcs HK;have hcs:=hcn;have HK:=HKn;clear hcn HKn hk2))|fail)
 repeat' (first|refine ZN ?_|refine Z2 ?_ ?_|(intro h h';try simp[*,-h] at h')|((with_reducible apply Aa (f:=203));(iterate 5 exact Z5);(apply put2 (a:=sNot) (b:=sNot));(focus (refine LT.congr hcs ?_;intro i c;simp));(focus ((try simp);omega));exact Zc;rotate_left;(rintro _ _ h;exact h.elim);(rintro _ hp2 ⟨rfl,hcn,hk2⟩;have HKn:=KL.step HK hk2 (by omega) (fun d i c hd=>by simp[Zl hd]);have hO2:=hk2.own (by omega);clear hcs HK;have hcs:=hcn;have HK:=HKn;clear hcn HKn hk2))|fail)
 repeat' (first|refine ZN ?_|refine Z2 ?_ ?_|(intro h h';try simp[*,-h] at h')|((with_reducible apply Aa (f:=295));(iterate 5 exact Z5);(apply Gc (c1:=(c++(xa++([sNot]++[Si.mk 9 ((((c++(xa++[sNot]))++(Si.mk 9 0 0 0:Si)::[Si.mk 1 0 0 0,Si.mk 8 0 0 0]).length:Nat):Int) 0 0,Si.mk 1 0 0 0])))) (c2:=(xb++[sNot,sNot])) (op:=8) (x:=0) (q:=33));(focus (have hq:=hcs;simp at hq⊢;exact LT.congr hq (fun i c=>by simp)));exact Zc;(focus ((try simp);(try omega)));rotate_left;(rintro _ _ h;exact h.elim);(rintro _ hp2 ⟨rfl,hcn,hk2⟩;have HKn:=KL.step HK hk2 (by omega) (fun d i c hd=>by simp[Zl hd]);have hO2:=hk2.own (by omega);clear hcs HK;have hcs:=hcn;have HK:=HKn;clear hcn HKn hk2))|fail)
 have hxa:=Hxa.out
 have hxb:=Hxb.out
 simp only at hxa hxb
 have hps: ∀y,y=(c++(xa++([sNot]++[Si.mk 9 ((((c++(xa++[sNot]))++(Si.mk 9 0 0 0:Si)::[Si.mk 1 0 0 0,Si.mk 8 0 0 0]).length:Nat):Int) 0 0,Si.mk 1 0 0 0,Si.mk 8 0 0 0]))).length->y=c.length+(xa++[sNot]).length+3:=by intro y hy;rw[hy];simp;try omega
 have hxb2:xb=lE (c.length+(xa++[sNot]).length+3) (.mk bk bo bn bs bz_ bl):=by
  rw[hxb]
  congr 1
  apply hps
  simp
 clear hps hxb
 refine⟨rfl,⟨xa++([sNot]++Si.mk 9 ((((c++(xa++[sNot]))++(Si.mk 9 0 0 0:Si)::[Si.mk 1 0 0 0,Si.mk 8 0 0 0]).length:Nat):Int) 0 0::Si.mk 1 0 0 0::Si.mk 8 ((((c++(xa++([sNot]++[Si.mk 9 ((((c++(xa++[sNot]))++(Si.mk 9 0 0 0:Si)::[Si.mk 1 0 0 0,Si.mk 8 0 0 0]).length:Nat):Int) 0 0,Si.mk 1 0 0 0])))++(Si.mk 8 0 0 0:Si)::(xb++[sNot,sNot])).length:Nat):Int) 0 0::(xb++[sNot,sNot])),?_,?_,by simpa using hcs⟩,HK⟩
 ·rw[lB_two]
  simp only[if_true]
  rw[<-hxa,<-hxb2]
  simp
  try omega
 ·simp
  omega
theorem H4a (o n s z:Int)(a b:Cx)(iha:LXl 255 (.dp a.row 0) (fun _ p=>lE p a) (6*a.size))(ihb:LXl 255 (.dp b.row 0) (fun _ p=>lE p b) (6*b.size)):LXl 294 (.dp [iz 9,iz o,uz n,iz s,iz z,.sl false 6 (cxRows [a,b])] 0) (fun _ p=>lB p 9 [a,b]) (6*(a.size+b.size)+6):=by
 intro d k hp1 w c hcs hlen
 refine Af (k1:=k+1) (PR:=fun _ _=>False) rfl Tryz.func294 (Ak (by decide)) rfl Nf rfl Y6 ?_
 have HK:=KL.refl k hp1
 obtain⟨ak,ao,an,as_,az,al⟩:=a
 obtain⟨bk,bo,bn,bs,bz_,bl⟩:=b
 simp only[Cc] at iha ihb
 simp only[Gh,Fg,Cc]
 repeat' (first|refine ZN ?_|refine Z2 ?_ ?_|(intro h h';try simp[*,-h] at h')|((with_reducible apply Aa (f:=255));(iterate 5 exact Z5);(apply iha _ (k+1) _ _ _);(focus (refine LT.congr hcs ?_;intro i c;simp));(focus ((try simp);omega));rotate_left;(rintro _ _ h;exact h.elim);(rintro _ hp2 ⟨rfl,⟨xa,hxa,hlxa,hcn⟩,hk2⟩;have Hxa:=Lib.hid hxa;clear hxa;have HKn:=KL.step HK hk2 (by omega) (fun d i c hd=>by simp[Zl hd]);have hO2:=hk2.own (by omega);clear hcs HK;have hcs:=hcn;have HK:=HKn;clear hcn HKn hk2))|fail)
 repeat' (first|refine ZN ?_|refine Z2 ?_ ?_|(intro h h';try simp[*,-h] at h')|((with_reducible apply Aa (f:=256));(iterate 5 exact Z5);(apply F0 (d:=26) 9);(focus (refine LT.congr hcs ?_;intro i c;simp));(focus ((try simp);omega));rotate_left;(rintro _ _ h;exact h.elim);(rintro _ hp2 ⟨gA,rfl,hbgA,hcn,hkA,hO2⟩;have HKn:=KL.step HK hkA (by omega) (fun d i c hd=>by simp[Zl hd]);clear hcs HK;have hcs:=hcn;have HK:=HKn;clear hcn HKn hkA))|fail)
 repeat' (first|refine ZN ?_|refine Z2 ?_ ?_|(intro h h';try simp[*,-h] at h')|((with_reducible apply Aa (f:=203));(iterate 5 exact Z5);(apply put1 (a:=⟨1,0,0,1⟩));(focus (refine LT.congr hcs ?_;intro i c;simp));(focus ((try simp);omega));exact Zc;rotate_left;(rintro _ _ h;exact h.elim);(rintro _ hp2 ⟨rfl,hcn,hk2⟩;have HKn:=KL.step HK hk2 (by omega) (fun d i c hd=>by simp[Zl hd]);have hO2:=hk2.own (by omega);clear hcs HK;have hcs:=hcn;have HK:=HKn;clear hcn HKn hk2))|fail)
 repeat' (first|refine ZN ?_|refine Z2 ?_ ?_|(intro h h';try simp[*,-h] at h')|((with_reducible apply Aa (f:=256));(iterate 5 exact Z5);(apply F0 (d:=33) 8);(focus (refine LT.congr hcs ?_;intro i c;simp));(focus ((try simp);omega));rotate_left;(rintro _ _ h;exact h.elim);(rintro _ hp2 ⟨gB,rfl,hbgB,hcn,hkA,hO2⟩;have HKn:=KL.step HK hkA (by omega) (fun d i c hd=>by simp[Zl hd]);clear hcs HK;have hcs:=hcn;have HK:=HKn;clear hcn HKn hkA))|fail)
 repeat' (first|refine ZN ?_|refine Z2 ?_ ?_|(intro h h';try simp[*,-h] at h')|((with_reducible apply Aa (f:=295));(iterate 5 exact Z5);(apply Gc (c1:=(c++xa)) (c2:=[⟨1,0,0,1⟩,⟨8,0,0,0⟩]) (op:=9) (x:=0) (q:=26));(focus (have hq:=hcs;simp at hq⊢;exact LT.congr hq (fun i c=>by simp)));exact Zc;(focus ((try simp);(try omega)));rotate_left;(rintro _ _ h;exact h.elim);(rintro _ hp2 ⟨rfl,hcn,hk2⟩;have HKn:=KL.step HK hk2 (by omega) (fun d i c hd=>by simp[Zl hd]);have hO2:=hk2.own (by omega);clear hcs HK;have hcs:=hcn;have HK:=HKn;clear hcn HKn hk2))|fail)
 repeat' (first|refine ZN ?_|refine Z2 ?_ ?_|(intro h h';try simp[*,-h] at h')|((with_reducible apply Aa (f:=255));(iterate 5 exact Z5);(apply ihb _ (k+1) _ _ _);(focus (refine LT.congr hcs ?_;intro i c;simp));(focus ((try simp);omega));rotate_left;(rintro _ _ h;exact h.elim);(rintro _ hp2 ⟨rfl,⟨xb,hxb,hlxb,hcn⟩,hk2⟩;have Hxb:=Lib.hid hxb;clear hxb;have HKn:=KL.step HK hk2 (by omega) (fun d i c hd=>by simp[Zl hd]);have hO2:=hk2.own (by omega);clear hcs HK;have hcs:=hcn;have HK:=HKn;clear hcn HKn hk2))|fail)
 repeat' (first|refine ZN ?_|refine Z2 ?_ ?_|(intro h h';try simp[*,-h] at h')|((with_reducible apply Aa (f:=203));(iterate 5 exact Z5);(apply put2 (a:=sNot) (b:=sNot));(focus (refine LT.congr hcs ?_;intro i c;simp));(focus ((try simp);omega));exact Zc;rotate_left;(rintro _ _ h;exact h.elim);(rintro _ hp2 ⟨rfl,hcn,hk2⟩;have HKn:=KL.step HK hk2 (by omega) (fun d i c hd=>by simp[Zl hd]);have hO2:=hk2.own (by omega);clear hcs HK;have hcs:=hcn;have HK:=HKn;clear hcn HKn hk2))|fail)
 repeat' (first|refine ZN ?_|refine Z2 ?_ ?_|(intro h h';try simp[*,-h] at h')|((with_reducible apply Aa (f:=295));(iterate 5 exact Z5);(apply Gc (c1:=(c++(xa++([]++[Si.mk 9 ((((c++xa)++(Si.mk 9 0 0 0:Si)::[Si.mk 1 0 0 1,Si.mk 8 0 0 0]).length:Nat):Int) 0 0,Si.mk 1 0 0 1])))) (c2:=(xb++[sNot,sNot])) (op:=8) (x:=0) (q:=33));(focus (have hq:=hcs;simp at hq⊢;exact LT.congr hq (fun i c=>by simp)));exact Zc;(focus ((try simp);(try omega)));rotate_left;(rintro _ _ h;exact h.elim);(rintro _ hp2 ⟨rfl,hcn,hk2⟩;have HKn:=KL.step HK hk2 (by omega) (fun d i c hd=>by simp[Zl hd]);have hO2:=hk2.own (by omega);clear hcs HK;have hcs:=hcn;have HK:=HKn;clear hcn HKn hk2))|fail)
 have hxa:=Hxa.out
 have hxb:=Hxb.out
 simp only at hxa hxb
 have hps: ∀y,y=(c++(xa++([]++[Si.mk 9 ((((c++xa)++(Si.mk 9 0 0 0:Si)::[Si.mk 1 0 0 1,Si.mk 8 0 0 0]).length:Nat):Int) 0 0,Si.mk 1 0 0 1,Si.mk 8 0 0 0]))).length->y=c.length+(xa++[]).length+3:=by intro y hy;rw[hy];simp;try omega
 have hxb2:xb=lE (c.length+(xa++[]).length+3) (.mk bk bo bn bs bz_ bl):=by
  rw[hxb]
  congr 1
  apply hps
  simp
 clear hps hxb
 refine⟨rfl,⟨xa++([]++Si.mk 9 ((((c++xa)++(Si.mk 9 0 0 0:Si)::[Si.mk 1 0 0 1,Si.mk 8 0 0 0]).length:Nat):Int) 0 0::Si.mk 1 0 0 1::Si.mk 8 ((((c++(xa++([]++[Si.mk 9 ((((c++xa)++(Si.mk 9 0 0 0:Si)::[Si.mk 1 0 0 1,Si.mk 8 0 0 0]).length:Nat):Int) 0 0,Si.mk 1 0 0 1])))++(Si.mk 8 0 0 0:Si)::(xb++[sNot,sNot])).length:Nat):Int) 0 0::(xb++[sNot,sNot])),?_,?_,by simpa using hcs⟩,HK⟩
 ·rw[lB_two]
  simp only[show((9:Int)=8)=False from by decide,if_false]
  rw[<-hxa,<-hxb2]
  simp
  try omega
 ·simp
  omega
end Go.Proofs.YtpmoibjpjlhcgaaGreatDoor
namespace Go.Proofs.YtpmoibjpjlhcgaaGreatDoor
open Go Go.Ab Go.Ab.Sy
theorem P2 {sg:List (Nat×Bool)}: ∀{l:List Cx} {j:Nat} {e:Cx},gEs sg l=true->l[j]?=some e->gE sg e=true
 |[],j,e,_,h=>by simp at h
 |x::l,0,e,hg,h=>by
  simp only[List.getElem?_cons_zero,Option.some.injEq] at h
  subst h
  simp only[C6,Bool.and_eq_true] at hg
  exact hg.1
 |x::l,j+1,e,hg,h=>by
  simp only[C6,Bool.and_eq_true] at hg
  exact P2 hg.2 (by simpa using h)
theorem gE_mk (sg:List (Nat×Bool))(k o n s z:Int)(l:List Cx):gE sg (.mk k o n s z l)=(gEs sg l&&(if k=1\/k=2\/k=5 then l.length==0 else if k=3\/k=7 then l.length==1 else if k=6\/k=8\/k=9 then l.length==2
   else if k=4 then Gj sg s l.length true else false)):=by rw[gE]
theorem gE_kind {sg:List (Nat×Bool)}{k o n s z:Int}{l:List Cx}(h:gE sg (.mk k o n s z l)=true):gEs sg l=true/\(k=1\/k=2\/k=3\/k=4\/k=5\/k=6\/k=7\/(k=8/\l.length=2)\/(k=9/\l.length=2)):=by
 rw[gE_mk] at h
 simp only[Bool.and_eq_true] at h
 refine⟨h.1,?_⟩
 have h2:=h.2
 by_cases h8:k=8
 ·subst h8;simp at h2;simp[h2]
 by_cases h9:k=9
 ·subst h9;simp at h2;simp[h2]
 by_cases h17:k=1\/k=2\/k=3\/k=4\/k=5\/k=6\/k=7
 ·omega
 ·exfalso
  rw[if_neg (by omega),if_neg (by omega),if_neg (by omega),if_neg (by omega)] at h2
  cases h2
theorem expr_s {sg:List (Nat×Bool)}(N:Nat)(ih: ∀e:Cx,e.size<N->gE sg e=true->LXl 255 (.dp e.row 0) (fun _ p=>lE p e) (6*e.size))(e:Cx)(he:e.size<=N)(hge0:gE sg e=true):LXl 255 (.dp e.row 0) (fun _ p=>lE p e) (6*e.size):=by
 obtain⟨ek,eo,en,es,ez,l⟩:=e
 obtain⟨hge,hk⟩:=gE_kind hge0
 rw[Nq] at he
 rw[Cc,Nq]
 intro d k hp1 w c hcs hlen
 refine Af (k1:=k+1) (PR:=fun _ _=>False) rfl Tryz.func255 (Ak (by decide)) rfl Vv rfl rvs_255 ?_
 have HK:=KL.refl k hp1
 have hll:l.length<=1048576:=by have:=Hq l;omega
 by_cases h8:ek=8\/ek=9
 ·have hl2:l.length=2:=by omega
  obtain⟨a,b,rfl⟩:=two_of hl2
  simp only[C6,Z8,Bool.and_eq_true] at hge
  simp only[C8,Ho] at he hlen⊢
  rcases h8 with rfl|rfl
  ·have ei:=H5a eo en es ez a b (ih a (by omega) hge.1) (ih b (by omega) hge.2.1)
   repeat' (first|refine ZN ?_|refine Z2 ?_ ?_|(intro h h';try simp[*,-h] at h')|((with_reducible apply Aa (f:=294));(iterate 5 exact Z5);(apply(ei _ (k+1) _ _ _));(focus (refine LT.congr hcs ?_;intro i c;simp));(focus ((try simp);omega));rotate_left;(rintro _ _ h;exact h.elim);(rintro _ hp2 ⟨rfl,⟨x,hx,hlx,hcn⟩,hk2⟩;have Hx:=Lib.hid hx;clear hx;have HKn:=KL.step HK hk2 (by omega) (fun d i c hd=>by simp[Zl hd]);have hO2:=hk2.own (by omega);clear hcs HK;have hcs:=hcn;have HK:=HKn;clear hcn HKn hk2))|fail)
   have hx:=Hx.out
   simp only at hx
   refine⟨rfl,⟨x,?_,by omega,hcs⟩,HK⟩
   show x=lE c.length (.mk 8 eo en es ez [a,b])
   rw[hx,Ji,if_pos (by simp)]
  ·have ei:=H4a eo en es ez a b (ih a (by omega) hge.1) (ih b (by omega) hge.2.1)
   repeat' (first|refine ZN ?_|refine Z2 ?_ ?_|(intro h h';try simp[*,-h] at h')|((with_reducible apply Aa (f:=294));(iterate 5 exact Z5);(apply(ei _ (k+1) _ _ _));(focus (refine LT.congr hcs ?_;intro i c;simp));(focus ((try simp);omega));rotate_left;(rintro _ _ h;exact h.elim);(rintro _ hp2 ⟨rfl,⟨x,hx,hlx,hcn⟩,hk2⟩;have Hx:=Lib.hid hx;clear hx;have HKn:=KL.step HK hk2 (by omega) (fun d i c hd=>by simp[Zl hd]);have hO2:=hk2.own (by omega);clear hcs HK;have hcs:=hcn;have HK:=HKn;clear hcn HKn hk2))|fail)
   have hx:=Hx.out
   simp only at hx
   refine⟨rfl,⟨x,?_,by omega,hcs⟩,HK⟩
   show x=lE c.length (.mk 9 eo en es ez [a,b])
   rw[hx,Ji,if_pos (by simp)]
 obtain⟨n8,n9⟩:ek≠8/\ek≠9:=by omega
 clear h8
 repeat' (first|refine ZN ?_|refine Z2 ?_ ?_|(intro h h';try simp[*,-h] at h'))
 refine Ah (n:=l.length) (fun s0 m z=> ∃(j:Nat) (x:List Si),l.length - j<=m/\j<=l.length/\z.fr 0= .ptr ⟨0,3,0⟩ 1 0/\z.fr 1= .dp [iz ek,iz eo,uz en,iz es,iz ez,.sl false 6 (cxRows l)] 0/\z.fr 24=iv l.length/\z.fr 25=iv j/\x=lEs c.length (l.take j)/\x.length<=6*cxSize (l.take j)/\LT w (c++x) z.hp/\KL k hp1 z.hp) ⟨0,[],by omega,by omega,by simp,by simp,by simp,by simp,by simp,by simp,by simpa using hcs,HK⟩ ?_
 rintro m ⟨fr,hp⟩ ⟨j,x,hm,hj,f0,f1,f24,f25,hx,hxl,hcs,HK⟩
 simp only at f0 f1 f24 f25 hcs HK
 have Hx:=Lib.hid hx
 clear hx
 by_cases hlt:j<l.length
 ·have e1:(j:Int)<l.length:=by omega
  have hg:l[j]?=some l[j]:=List.getElem?_eq_getElem hlt
  have hwj:IntKind.i64.wrap ((j:Int)+1)=(j:Int)+1:=wrapN (by omega)
  generalize l[j]=e at*
  have hgt:=cx_get hg
  have hsp:=Jp hg
  have hsp2:=Eh l j
  have htk:=Ro hg c.length
  have ihx:=ih e (by omega) (P2 hge hg)
  have hst:=Eh l (j+1)
  have hst2:cxSize (l.take (j+1))=cxSize (l.take j)+e.size:=by rw[List.take_add_one,hg];simp
  have HTk:=Lib.hid htk
  have hes:e.size<=cxSize l:=by omega
  obtain⟨xk,xo,xn,xs,xz,xl⟩:=e
  simp only[Cc] at hgt ihx
  generalize hez:(Cx.mk xk xo xn xs xz xl).size=esz at*
  clear hg hlt htk hez
  repeat' (first|refine ZN ?_|refine Z2 ?_ ?_|(intro h h';try simp[*,-h] at h')|((with_reducible apply Aa (f:=255));(iterate 5 exact Z5);(apply ihx _ (k+1) _ _ _);(focus (refine LT.congr hcs ?_;intro i c;simp));(focus ((try simp);omega));rotate_left;(rintro _ _ h;exact h.elim);(rintro _ hp2 ⟨rfl,⟨xa,hxa,hlxa,hcn⟩,hk2⟩;have Hxa:=Lib.hid hxa;clear hxa;have HKn:=KL.step HK hk2 (by omega) (fun d i c hd=>by simp[Zl hd]);have hO2:=hk2.own (by omega);clear hcs HK;have hcs:=hcn;have HK:=HKn;clear hcn HKn hk2))|fail)
  have hx:=Hx.out
  have hxa:=Hxa.out
  have htk:=HTk.out
  refine⟨l.length - (j+1),by omega,j+1,x++xa,by omega,by omega,by simp[*],by simp[*],by simp[*],by simp[*],?_,?_,by simpa using hcs,HK⟩
  ·rw[htk,<-hx,hxa]
   simp
  ·simp
   omega
 have e1: ¬(j:Int)<l.length:=by omega
 have hz:l.take j=l:=List.take_of_length_le (by omega)
 rw[hz] at hxl
 have hk7:ek=1\/ek=2\/ek=3\/ek=4\/ek=5\/ek=6\/ek=7:=by omega
 clear hk
 rcases hk7 with rfl|rfl|rfl|rfl|rfl|rfl|rfl
 ·repeat' (first|refine ZN ?_|refine Z2 ?_ ?_|(intro h h';try simp[*,-h] at h')|((with_reducible apply Aa (f:=203));(iterate 5 exact Z5);(apply put1 (a:=⟨1,0,0,en⟩));(focus (refine LT.congr hcs ?_;intro i c;simp));(focus ((try simp);omega));exact Zc;rotate_left;(rintro _ _ h;exact h.elim);(rintro _ hp2 ⟨rfl,hcn,hk2⟩;have HKn:=KL.step HK hk2 (by omega) (fun d i c hd=>by simp[Zl hd]);have hO2:=hk2.own (by omega);clear hcs HK;have hcs:=hcn;have HK:=HKn;clear hcn HKn hk2))|fail)
  have hx:=Hx.out
  refine⟨rfl,⟨x++[⟨1,0,0,en⟩],?_,by simp;omega,by simpa using hcs⟩,HK⟩
  show _=lE c.length (.mk 1 eo en es ez l)
  rw[Ji,if_neg (by decide),hx,hz]
  rfl
 ·repeat' (first|refine ZN ?_|refine Z2 ?_ ?_|(intro h h';try simp[*,-h] at h')|((with_reducible apply Aa (f:=203));(iterate 5 exact Z5);(apply put1 (a:=⟨2,es,0,0⟩));(focus (refine LT.congr hcs ?_;intro i c;simp));(focus ((try simp);omega));exact Zc;rotate_left;(rintro _ _ h;exact h.elim);(rintro _ hp2 ⟨rfl,hcn,hk2⟩;have HKn:=KL.step HK hk2 (by omega) (fun d i c hd=>by simp[Zl hd]);have hO2:=hk2.own (by omega);clear hcs HK;have hcs:=hcn;have HK:=HKn;clear hcn HKn hk2))|fail)
  have hx:=Hx.out
  refine⟨rfl,⟨x++[⟨2,es,0,0⟩],?_,by simp;omega,by simpa using hcs⟩,HK⟩
  show _=lE c.length (.mk 2 eo en es ez l)
  rw[Ji,if_neg (by decide),hx,hz]
  rfl
 ·have hpX:=put1 (d:=74) (k0:=k) (s0:=73) (a:=⟨4,es,ez,0⟩) (gl:=(hp ⟨k+1,73,0⟩).gen+1) (hp1:=upd hp ⟨k+1,73,0⟩ (.arr ((hp ⟨k+1,73,0⟩).gen+1) 4 315 [[iv 4,iv es,iv ez,uv 0]] false)) (LT.congr hcs (fun i c=>by simp)) (by simp;omega) (by simp;rfl)
  rcases hpX with⟨v,hp2,hcall,rfl,hcn,hk2⟩|⟨_,_,_,_,h⟩
  rotate_left
  ·exact h.elim
  repeat' (first|((with_reducible apply A7);(apply Ao (ps:=[(0,1),(0,2),(0,3),(0,4),(0,5),(1,5),(2,5),(3,5),(4,5),(0,6),(1,6),(2,6),(3,6),(4,6),(0,7),(1,7),(2,7),(3,7),(4,7),(0,8),(1,8),(2,8),(3,8),(4,8),(0,9),(0,10)]));kernel_rfl;(iterate 25 refine Zk ?_);(refine Zs ?_);(exact Zz))|(refine Z1 ?_)|(refine Z2 ?_ ?_)|(intro h h';try simp[*,-h] at h'))
  have hx:=Hx.out
  refine⟨rfl,⟨x++[⟨4,es,ez,0⟩],?_,by simp;omega,by simpa using hcn⟩,KL.step HK hk2 (by omega) (fun d i c hd=>by simp[Zl hd])⟩
  show _=lE c.length (.mk 3 eo en es ez l)
  rw[Ji,if_neg (by decide),hx,hz]
  rfl
 ·repeat' (first|refine ZN ?_|refine Z2 ?_ ?_|(intro h h';try simp[*,-h] at h')|((with_reducible apply Aa (f:=203));(iterate 5 exact Z5);(apply put1 (a:=⟨10,es,0,0⟩));(focus (refine LT.congr hcs ?_;intro i c;simp));(focus ((try simp);omega));exact Zc;rotate_left;(rintro _ _ h;exact h.elim);(rintro _ hp2 ⟨rfl,hcn,hk2⟩;have HKn:=KL.step HK hk2 (by omega) (fun d i c hd=>by simp[Zl hd]);have hO2:=hk2.own (by omega);clear hcs HK;have hcs:=hcn;have HK:=HKn;clear hcn HKn hk2))|fail)
  have hx:=Hx.out
  refine⟨rfl,⟨x++[⟨10,es,0,0⟩],?_,by simp;omega,by simpa using hcs⟩,HK⟩
  show _=lE c.length (.mk 4 eo en es ez l)
  rw[Ji,if_neg (by decide),hx,hz]
  rfl
 ·repeat' (first|refine ZN ?_|refine Z2 ?_ ?_|(intro h h';try simp[*,-h] at h')|((with_reducible apply Aa (f:=203));(iterate 5 exact Z5);(apply put1 (a:=⟨12,0,0,0⟩));(focus (refine LT.congr hcs ?_;intro i c;simp));(focus ((try simp);omega));exact Zc;rotate_left;(rintro _ _ h;exact h.elim);(rintro _ hp2 ⟨rfl,hcn,hk2⟩;have HKn:=KL.step HK hk2 (by omega) (fun d i c hd=>by simp[Zl hd]);have hO2:=hk2.own (by omega);clear hcs HK;have hcs:=hcn;have HK:=HKn;clear hcn HKn hk2))|fail)
  have hx:=Hx.out
  refine⟨rfl,⟨x++[⟨12,0,0,0⟩],?_,by simp;omega,by simpa using hcs⟩,HK⟩
  show _=lE c.length (.mk 5 eo en es ez l)
  rw[Ji,if_neg (by decide),hx,hz]
  rfl
 ·repeat' (first|refine ZN ?_|refine Z2 ?_ ?_|(intro h h';try simp[*,-h] at h')|((with_reducible apply Aa (f:=203));(iterate 5 exact Z5);(apply put1 (a:=⟨6,eo,0,0⟩));(focus (refine LT.congr hcs ?_;intro i c;simp));(focus ((try simp);omega));exact Zc;rotate_left;(rintro _ _ h;exact h.elim);(rintro _ hp2 ⟨rfl,hcn,hk2⟩;have HKn:=KL.step HK hk2 (by omega) (fun d i c hd=>by simp[Zl hd]);have hO2:=hk2.own (by omega);clear hcs HK;have hcs:=hcn;have HK:=HKn;clear hcn HKn hk2))|fail)
  have hx:=Hx.out
  refine⟨rfl,⟨x++[⟨6,eo,0,0⟩],?_,by simp;omega,by simpa using hcs⟩,HK⟩
  show _=lE c.length (.mk 6 eo en es ez l)
  rw[Ji,if_neg (by decide),hx,hz]
  rfl
 ·repeat' (first|refine ZN ?_|refine Z2 ?_ ?_|(intro h h';try simp[*,-h] at h')|((with_reducible apply Aa (f:=203));(iterate 5 exact Z5);(apply put1 (a:=sNot));(focus (refine LT.congr hcs ?_;intro i c;simp));(focus ((try simp);omega));exact Zc;rotate_left;(rintro _ _ h;exact h.elim);(rintro _ hp2 ⟨rfl,hcn,hk2⟩;have HKn:=KL.step HK hk2 (by omega) (fun d i c hd=>by simp[Zl hd]);have hO2:=hk2.own (by omega);clear hcs HK;have hcs:=hcn;have HK:=HKn;clear hcn HKn hk2))|fail)
  have hx:=Hx.out
  refine⟨rfl,⟨x++[sNot],?_,by simp;omega,by simpa using hcs⟩,HK⟩
  show _=lE c.length (.mk 7 eo en es ez l)
  rw[Ji,if_neg (by decide),hx,hz]
  rfl
theorem expr_n {sg:List (Nat×Bool)}: ∀N (e:Cx),e.size<=N->gE sg e=true->LXl 255 (.dp e.row 0) (fun _ p=>lE p e) (6*e.size)
 |0,e,he,hg=>by have:=e.size_pos;omega
 |N+1,e,he,hg=>expr_s (N+1) (fun e he hg=>expr_n N e (by omega) hg) e he hg
theorem Zt {sg:List (Nat×Bool)}(e:Cx)(hg:gE sg e=true):LXl 255 (.dp e.row 0) (fun _ p=>lE p e) (6*e.size):=expr_n e.size e (Nat.le_refl _) hg
end Go.Proofs.YtpmoibjpjlhcgaaGreatDoor
namespace Go.Proofs.YtpmoibjpjlhcgaaGreatDoor
open Go Go.Ab Go.Ab.Sy
def LY (w:Bool)(f:Nat)(arg:AV)(code:Nat->List Si)(n:Nat):Prop:= ∀(d k:Nat) (hp1:Hp) (c:List Si),LT w c hp1->c.length+n<=1000000->
 HB Tryz.prog E47 (Lm X47) k d f [.ptr ⟨0,3,0⟩ 1 0,arg] hp1 (fun v hp2=>v= .tup []/\(∃x,x=code c.length/\x.length<=n/\LT w (c++x) hp2)/\KL k hp1 hp2) (fun _ _=>False)
theorem cs_get {l:List Cs}{i:Nat}{e:Cs}(h:l[i]?=some e):(csRows l)[i]?=some e.row:=by simp[Gz,h]
theorem G5a {w:Bool}{l:List Cs}{j:Nat}{e:Cs}(h:l[j]?=some e)(p:Nat):lSs w p (l.take (j+1))=lSs w p (l.take j)++lS w (p+(lSs w p (l.take j)).length) e:=by
 rw[List.take_add_one,h]
 show lSs w p (l.take j++[e])=_
 rw[Zv]
 simp
theorem Sa (l:List Cs)(j:Nat):csSize (l.take j)<=csSize l:=by
 conv=>rhs;rw[<-List.take_append_drop j l,M5]
 omega
theorem Nr (k s z:Int)(e:List Cx)(t f:List Cs):(Cs.mk k s z e t f).size=cxSize e+csSize t+csSize f+1:=by rw[Cs.size]
theorem Z0 {sg:List (Nat×Bool)}{w:Bool}: ∀{l:List Cs} {j:Nat} {e:Cs},gSs sg w l=true->l[j]?=some e->gS sg w e=true
 |[],j,e,_,h=>by simp at h
 |x::l,0,e,hg,h=>by
  simp only[List.getElem?_cons_zero,Option.some.injEq] at h
  subst h
  simp only[Jm,Bool.and_eq_true] at hg
  exact hg.1
 |x::l,j+1,e,hg,h=>by
  simp only[Jm,Bool.and_eq_true] at hg
  exact Z0 hg.2 (by simpa using h)
theorem gS_mk (sg:List (Nat×Bool))(w:Bool)(k s z:Int)(e:List Cx)(t f:List Cs):gS sg w (.mk k s z e t f)=(gEs sg e&&gSs sg w t&&gSs sg w f&&(if k=1\/k=3\/k=4\/k=5 then e.length==1 else if k=2 then e.length==2 else if k=6 then Gj sg s e.length false
   else if k=7 then e.length==0||e.length==1&&w else false)):=by rw[gS]
theorem gS_kind {sg:List (Nat×Bool)}{w:Bool}{k s z:Int}{e:List Cx}{t f:List Cs}(h:gS sg w (.mk k s z e t f)=true):gEs sg e=true/\gSs sg w t=true/\gSs sg w f=true/\(k=1\/k=2\/k=3\/k=4\/(k=5/\e.length=1)\/k=6\/k=7):=by
 rw[gS_mk] at h
 simp only[Bool.and_eq_true] at h
 refine⟨h.1.1.1,h.1.1.2,h.1.2,?_⟩
 have h2:=h.2
 by_cases h5:k=5
 ·subst h5;simp at h2;simp[h2]
 by_cases h17:k=1\/k=2\/k=3\/k=4\/k=6\/k=7
 ·omega
 ·exfalso
  rw[if_neg (by omega),if_neg (by omega),if_neg (by omega),if_neg (by omega)] at h2
  cases h2
theorem Jh (w:Bool)(p:Nat)(k s z:Int)(e:List Cx)(t f:List Cs):lS w p (.mk k s z e t f)=if k=5 then lEs p e++(⟨9,((p+(lEs p e).length+2+(lSs w (p+(lEs p e).length+1) t).length:Nat):Int),0,0⟩::(lSs w (p+(lEs p e).length+1) t++[⟨8,(p:Int),0,0⟩]))
  else if k=4 then lEs p e++(if f.length=0 then⟨9,((p+(lEs p e).length+1+(lSs w (p+(lEs p e).length+1) t).length:Nat):Int),0,0⟩::lSs w (p+(lEs p e).length+1) t
   else⟨9,((p+(lEs p e).length+2+(lSs w (p+(lEs p e).length+1) t).length:Nat):Int),0,0⟩::(lSs w (p+(lEs p e).length+1) t++
    (⟨8,((p+(lEs p e).length+2+(lSs w (p+(lEs p e).length+1) t).length+(lSs w (p+(lEs p e).length+2+(lSs w (p+(lEs p e).length+1) t).length) f).length:Nat):Int),0,0⟩::lSs w (p+(lEs p e).length+2+(lSs w (p+(lEs p e).length+1) t).length) f)))
  else lEs p e++tailS w k s z e:=by rw[lS]
theorem while_w {sg:List (Nat×Bool)}{w:Bool}(s z:Int)(e:Cx)(th el:List Cs)(hge:gE sg e=true)(ihL:LY w 126 (.sl false 6 (csRows th)) (fun p=>lSs w p th) (6*csSize th)):LY w 254 (.dp [iz 5,iz s,iz z,.sl false 6 (cxRows [e]),.sl false 6 (csRows th),.sl false 6 (csRows el)] 0) (fun p=>lS w p (.mk 5 s z [e] th el)) (6*(e.size+csSize th+csSize el+1)):=by
 intro d k hp1 c hcs hlen
 refine Af (k1:=k+1) (PR:=fun _ _=>False) rfl Tryz.func254 (Ak (by decide)) rfl Vw rfl rvs_254 ?_
 have HK:=KL.refl k hp1
 have h0:=hcs
 obtain⟨g,t1,t2⟩:=h0
 have ihx:=Zt e hge
 obtain⟨ak,ao,an,as_,az,al⟩:=e
 simp only[Gh,Fg,Cc] at ihx⊢
 generalize hez:(Cx.mk ak ao an as_ az al).size=esz at*
 repeat' (first|refine ZN ?_|refine Z2 ?_ ?_|(intro h h';try simp[*,-h] at h')|((with_reducible apply Aa (f:=255));(iterate 5 exact Z5);(apply ihx _ (k+1) _ _ _);(focus (refine LT.congr hcs ?_;intro i c;simp));(focus ((try simp);omega));rotate_left;(rintro _ _ h;exact h.elim);(rintro _ hp2 ⟨rfl,⟨xe,hxe,hlxe,hcn⟩,hk2⟩;have Hxe:=Lib.hid hxe;clear hxe;have HKn:=KL.step HK hk2 (by omega) (fun d i c hd=>by simp[Zl hd]);have hO2:=hk2.own (by omega);clear hcs HK;have hcs:=hcn;have HK:=HKn;clear hcn HKn hk2))|fail)
 repeat' (first|refine ZN ?_|refine Z2 ?_ ?_|(intro h h';try simp[*,-h] at h')|((with_reducible apply Aa (f:=256));(iterate 5 exact Z5);(apply F0 (d:=19) 9);(focus (refine LT.congr hcs ?_;intro i c;simp));(focus ((try simp);omega));rotate_left;(rintro _ _ h;exact h.elim);(rintro _ hp2 ⟨gA,rfl,hbgA,hcn,hkA,hO2⟩;have HKn:=KL.step HK hkA (by omega) (fun d i c hd=>by simp[Zl hd]);clear hcs HK;have hcs:=hcn;have HK:=HKn;clear hcn HKn hkA))|fail)
 repeat' (first|refine ZN ?_|refine Z2 ?_ ?_|(intro h h';try simp[*,-h] at h')|((with_reducible apply Aa (f:=126));(iterate 5 exact Z5);(apply ihL _ (k+1) _ _);(focus (refine LT.congr hcs ?_;intro i c;simp));(focus ((try simp);omega));rotate_left;(rintro _ _ h;exact h.elim);(rintro _ hp2 ⟨rfl,⟨xt,hxt,hlxt,hcn⟩,hk2⟩;have Hxt:=Lib.hid hxt;clear hxt;have HKn:=KL.step HK hk2 (by omega) (fun d i c hd=>by simp[Zl hd]);have hO2:=hk2.own (by omega);clear hcs HK;have hcs:=hcn;have HK:=HKn;clear hcn HKn hk2))|fail)
 repeat' (first|refine ZN ?_|refine Z2 ?_ ?_|(intro h h';try simp[*,-h] at h')|((with_reducible apply Aa (f:=203));(iterate 5 exact Z5);(apply put1 (a:=⟨8,(c.length:Int),0,0⟩));(focus (refine LT.congr hcs ?_;intro i c;simp));(focus ((try simp);omega));exact Zc;rotate_left;(rintro _ _ h;exact h.elim);(rintro _ hp2 ⟨rfl,hcn,hk2⟩;have HKn:=KL.step HK hk2 (by omega) (fun d i c hd=>by simp[Zl hd]);have hO2:=hk2.own (by omega);clear hcs HK;have hcs:=hcn;have HK:=HKn;clear hcn HKn hk2))|fail)
 repeat' (first|refine ZN ?_|refine Z2 ?_ ?_|(intro h h';try simp[*,-h] at h')|((with_reducible apply Aa (f:=295));(iterate 5 exact Z5);(apply Gc (c1:=(c++xe)) (c2:=(xt++[Si.mk 8 (c.length:Int) 0 0])) (op:=9) (x:=0) (q:=19));(focus (have hq:=hcs;simp at hq⊢;exact LT.congr hq (fun i c=>by simp)));exact Zc;(focus ((try simp);(try omega)));rotate_left;(rintro _ _ h;exact h.elim);(rintro _ hp2 ⟨rfl,hcn,hk2⟩;have HKn:=KL.step HK hk2 (by omega) (fun d i c hd=>by simp[Zl hd]);have hO2:=hk2.own (by omega);clear hcs HK;have hcs:=hcn;have HK:=HKn;clear hcn HKn hk2))|fail)
 have hxe:=Hxe.out
 have hxt:=Hxt.out
 simp only at hxe hxt
 have hxt2:xt=lSs w (c.length+xe.length+1) th:=by
  rw[hxt]
  congr 1
  simp;try omega
 refine⟨rfl,⟨xe++(Si.mk 9 (((c++xe)++(Si.mk 9 0 0 0)::(xt++[Si.mk 8 (c.length:Int) 0 0])).length:Nat) 0 0::(xt++[Si.mk 8 (c.length:Int) 0 0])),?_,by simp;omega,by simpa using hcs⟩,HK⟩
 show _=lS w c.length (.mk 5 s z [.mk ak ao an as_ az al] th el)
 rw[Jh,if_pos rfl]
 have h1:lEs c.length [.mk ak ao an as_ az al]=xe:=by rw[hxe];simp
 rw[h1,<-hxt2]
 simp
 try omega
theorem stmt_s {sg:List (Nat×Bool)}{w:Bool}(N:Nat)(ihL: ∀l:List Cs,csSize l<=N->gSs sg w l=true->LY w 126 (.sl false 6 (csRows l)) (fun p=>lSs w p l) (6*csSize l))(s:Cs)(he:s.size<=N+1)(hg0:gS sg w s=true):LY w 202 (.dp s.row 0) (fun p=>lS w p s) (6*s.size):=by
 obtain⟨ek,es,ez,l,th,el⟩:=s
 obtain⟨hge,hgt0,hgl,hk⟩:=gS_kind hg0
 rw[Nr] at he
 rw[Kg,Nr]
 have iT:=ihL th (by omega) hgt0
 have iE:=ihL el (by omega) hgl
 intro d k hp1 c hcs hlen
 refine Af (k1:=k+1) (PR:=fun _ _=>False) rfl Tryz.func202 (Ak (by decide)) rfl Wf rfl rvs_202 ?_
 have HK:=KL.refl k hp1
 by_cases h5:ek=5
 ·subst h5
  have hl1:l.length=1:=by omega
  obtain⟨a,rfl⟩:=one_of hl1
  simp only[C6,Z8,Bool.and_eq_true] at hge
  simp only[C8,Ho,Nat.add_zero] at hlen⊢
  have wh:=while_w es ez a th el hge.1 iT
  repeat' (first|refine ZN ?_|refine Z2 ?_ ?_|(intro h h';try simp[*,-h] at h')|((with_reducible apply Aa (f:=254));(iterate 5 exact Z5);(apply(wh _ (k+1) _ _));(focus (refine LT.congr hcs ?_;intro i c;simp));(focus ((try simp);omega));rotate_left;(rintro _ _ h;exact h.elim);(rintro _ hp2 ⟨rfl,⟨x,hx,hlx,hcn⟩,hk2⟩;have Hx:=Lib.hid hx;clear hx;have HKn:=KL.step HK hk2 (by omega) (fun d i c hd=>by simp[Zl hd]);have hO2:=hk2.own (by omega);clear hcs HK;have hcs:=hcn;have HK:=HKn;clear hcn HKn hk2))|fail)
  have hx:=Hx.out
  simp only at hx
  exact⟨rfl,⟨x,hx,hlx,hcs⟩,HK⟩
 have hll:l.length<=1048576:=by have:=Hq l;omega
 repeat' (first|refine ZN ?_|refine Z2 ?_ ?_|(intro h h';try simp[*,-h] at h'))
 refine Ah (n:=l.length) (fun s0 m z=> ∃(j:Nat) (x:List Si),l.length - j<=m/\j<=l.length/\z.fr 0= .ptr ⟨0,3,0⟩ 1 0/\z.fr 1= .dp [iz ek,iz es,iz ez,.sl false 6 (cxRows l),.sl false 6 (csRows th),.sl false 6 (csRows el)] 0/\z.fr 19=iv l.length/\z.fr 20=iv j/\x=lEs c.length (l.take j)/\x.length<=6*cxSize (l.take j)/\LT w (c++x) z.hp/\KL k hp1 z.hp) ⟨0,[],by omega,by omega,by simp,by simp,by simp,by simp,by simp,by simp,by simpa using hcs,HK⟩ ?_
 rintro m ⟨fr,hp⟩ ⟨j,x,hm,hj,f0,f1,f19,f20,hx,hxl,hcs,HK⟩
 simp only at f0 f1 f19 f20 hcs HK
 have Hx:=Lib.hid hx
 clear hx
 by_cases hlt:j<l.length
 ·have e1:(j:Int)<l.length:=by omega
  have hg:l[j]?=some l[j]:=List.getElem?_eq_getElem hlt
  have hwj:IntKind.i64.wrap ((j:Int)+1)=(j:Int)+1:=wrapN (by omega)
  generalize l[j]=e at*
  have hgt:=cx_get hg
  have hsp:=Jp hg
  have hsp2:=Eh l j
  have htk:=Ro hg c.length
  have ihx:=Zt e (P2 hge hg)
  have hst2:cxSize (l.take (j+1))=cxSize (l.take j)+e.size:=by rw[List.take_add_one,hg];simp
  have HTk:=Lib.hid htk
  obtain⟨xk,xo,xn,xs,xz,xl⟩:=e
  simp only[Cc] at hgt ihx
  generalize hez:(Cx.mk xk xo xn xs xz xl).size=esz at*
  clear hg hlt htk hez
  repeat' (first|refine ZN ?_|refine Z2 ?_ ?_|(intro h h';try simp[*,-h] at h')|((with_reducible apply Aa (f:=255));(iterate 5 exact Z5);(apply ihx _ (k+1) _ _ _);(focus (refine LT.congr hcs ?_;intro i c;simp));(focus ((try simp);omega));rotate_left;(rintro _ _ h;exact h.elim);(rintro _ hp2 ⟨rfl,⟨xa,hxa,hlxa,hcn⟩,hk2⟩;have Hxa:=Lib.hid hxa;clear hxa;have HKn:=KL.step HK hk2 (by omega) (fun d i c hd=>by simp[Zl hd]);have hO2:=hk2.own (by omega);clear hcs HK;have hcs:=hcn;have HK:=HKn;clear hcn HKn hk2))|fail)
  have hx:=Hx.out
  have hxa:=Hxa.out
  have htk:=HTk.out
  refine⟨l.length - (j+1),by omega,j+1,x++xa,by omega,by omega,by simp[*],by simp[*],by simp[*],by simp[*],?_,?_,by simpa using hcs,HK⟩
  ·rw[htk,<-hx,hxa]
   simp
  ·simp
   omega
 have e1: ¬(j:Int)<l.length:=by omega
 have hz:l.take j=l:=List.take_of_length_le (by omega)
 rw[hz] at hxl
 have hk7:ek=1\/ek=2\/ek=3\/ek=4\/ek=6\/ek=7:=by omega
 clear hk
 rcases hk7 with rfl|rfl|rfl|rfl|rfl|rfl
 ·repeat' (first|refine ZN ?_|refine Z2 ?_ ?_|(intro h h';try simp[*,-h] at h')|((with_reducible apply Aa (f:=203));(iterate 5 exact Z5);(apply put1 (a:=⟨3,es,0,0⟩));(focus (refine LT.congr hcs ?_;intro i c;simp));(focus ((try simp);omega));exact Zc;rotate_left;(rintro _ _ h;exact h.elim);(rintro _ hp2 ⟨rfl,hcn,hk2⟩;have HKn:=KL.step HK hk2 (by omega) (fun d i c hd=>by simp[Zl hd]);have hO2:=hk2.own (by omega);clear hcs HK;have hcs:=hcn;have HK:=HKn;clear hcn HKn hk2))|fail)
  have hx:=Hx.out
  refine⟨rfl,⟨x++[⟨3,es,0,0⟩],?_,by simp;omega,by simpa using hcs⟩,HK⟩
  show _=lS w c.length (.mk 1 es ez l th el)
  rw[Jh,if_neg (by decide),if_neg (by decide),hx,hz]
  rfl
 ·have hpX:=put1 (d:=59) (k0:=k) (s0:=58) (a:=⟨5,es,ez,0⟩) (gl:=(hp ⟨k+1,58,0⟩).gen+1) (hp1:=upd hp ⟨k+1,58,0⟩ (.arr ((hp ⟨k+1,58,0⟩).gen+1) 4 315 [[iv 5,iv es,iv ez,uv 0]] false)) (LT.congr hcs (fun i c=>by simp)) (by simp;omega) (by simp;rfl)
  rcases hpX with⟨v,hp2,hcall,rfl,hcn,hk2⟩|⟨_,_,_,_,h⟩
  rotate_left
  ·exact h.elim
  repeat' (first|((with_reducible apply A7);(apply Ao (ps:=[(0,1),(0,2),(0,3),(0,4),(0,5),(1,5),(2,5),(3,5),(4,5),(0,6),(1,6),(2,6),(3,6),(4,6),(0,7),(1,7),(2,7),(3,7),(4,7),(0,8),(1,8),(2,8),(3,8),(4,8),(0,9),(0,10)]));kernel_rfl;(iterate 25 refine Zk ?_);(refine Zs ?_);(exact Zz))|(refine Z1 ?_)|(refine Z2 ?_ ?_)|(intro h h';try simp[*,-h] at h'))
  have hx:=Hx.out
  refine⟨rfl,⟨x++[⟨5,es,ez,0⟩],?_,by simp;omega,by simpa using hcn⟩,KL.step HK hk2 (by omega) (fun d i c hd=>by simp[Zl hd])⟩
  show _=lS w c.length (.mk 2 es ez l th el)
  rw[Jh,if_neg (by decide),if_neg (by decide),hx,hz]
  rfl
 ·repeat' (first|refine ZN ?_|refine Z2 ?_ ?_|(intro h h';try simp[*,-h] at h')|((with_reducible apply Aa (f:=203));(iterate 5 exact Z5);(apply put1 (a:=⟨13,0,0,0⟩));(focus (refine LT.congr hcs ?_;intro i c;simp));(focus ((try simp);omega));exact Zc;rotate_left;(rintro _ _ h;exact h.elim);(rintro _ hp2 ⟨rfl,hcn,hk2⟩;have HKn:=KL.step HK hk2 (by omega) (fun d i c hd=>by simp[Zl hd]);have hO2:=hk2.own (by omega);clear hcs HK;have hcs:=hcn;have HK:=HKn;clear hcn HKn hk2))|fail)
  have hx:=Hx.out
  refine⟨rfl,⟨x++[⟨13,0,0,0⟩],?_,by simp;omega,by simpa using hcs⟩,HK⟩
  show _=lS w c.length (.mk 3 es ez l th el)
  rw[Jh,if_neg (by decide),if_neg (by decide),hx,hz]
  rfl
 ·by_cases hel:el.length=0
  ·have e2:(el.length:Int)=0:=by omega
   have e3:el=[]:=List.eq_nil_of_length_eq_zero hel
   subst e3
   simp only[Vc] at f1
   repeat' (first|refine ZN ?_|refine Z2 ?_ ?_|(intro h h';try simp[*,-h] at h')|((with_reducible apply Aa (f:=256));(iterate 5 exact Z5);(apply F0 (d:=93) 9);(focus (refine LT.congr hcs ?_;intro i c;simp));(focus ((try simp);omega));rotate_left;(rintro _ _ h;exact h.elim);(rintro _ hp2 ⟨gA,rfl,hbgA,hcn,hkA,hO2⟩;have HKn:=KL.step HK hkA (by omega) (fun d i c hd=>by simp[Zl hd]);clear hcs HK;have hcs:=hcn;have HK:=HKn;clear hcn HKn hkA))|fail)
   repeat' (first|refine ZN ?_|refine Z2 ?_ ?_|(intro h h';try simp[*,-h] at h')|((with_reducible apply Aa (f:=126));(iterate 5 exact Z5);(apply iT _ (k+1) _ _);(focus (refine LT.congr hcs ?_;intro i c;simp));(focus ((try simp);omega));rotate_left;(rintro _ _ h;exact h.elim);(rintro _ hp2 ⟨rfl,⟨xt,hxt,hlxt,hcn⟩,hk2⟩;have Hxt:=Lib.hid hxt;clear hxt;have HKn:=KL.step HK hk2 (by omega) (fun d i c hd=>by simp[Zl hd]);have hO2:=hk2.own (by omega);clear hcs HK;have hcs:=hcn;have HK:=HKn;clear hcn HKn hk2))|fail)
   repeat' (first|refine ZN ?_|refine Z2 ?_ ?_|(intro h h';try simp[*,-h] at h')|((with_reducible apply Aa (f:=295));(iterate 5 exact Z5);(apply Gc (c1:=(c++x)) (c2:=xt) (op:=9) (x:=0) (q:=93));(focus (have hq:=hcs;simp at hq⊢;exact LT.congr hq (fun i c=>by simp)));exact Zc;(focus ((try simp);(try omega)));rotate_left;(rintro _ _ h;exact h.elim);(rintro _ hp2 ⟨rfl,hcn,hk2⟩;have HKn:=KL.step HK hk2 (by omega) (fun d i c hd=>by simp[Zl hd]);have hO2:=hk2.own (by omega);clear hcs HK;have hcs:=hcn;have HK:=HKn;clear hcn HKn hk2))|fail)
   have hx:=Hx.out
   have hxt:=Hxt.out
   simp only at hxt
   have hxt2:xt=lSs w (c.length+x.length+1) th:=by
    rw[hxt]
    congr 1
    simp;try omega
   refine⟨rfl,⟨x++(Si.mk 9 ((((c++x)++(Si.mk 9 0 0 0)::xt).length:Nat):Int) 0 0::xt),?_,by simp;omega,by simpa using hcs⟩,HK⟩
   show _=lS w c.length (.mk 4 es ez l th [])
   rw[Jh,if_neg (by decide),if_pos rfl,if_pos (by simp:([]:List Cs).length=0)]
   have h1:lEs c.length l=x:=by rw[hx,hz]
   rw[h1,<-hxt2]
   simp
   try omega
  ·have e2: ¬(el.length:Int)=0:=by omega
   have e3:el≠[]:=fun h=>hel (by rw[h];rfl)
   repeat' (first|refine ZN ?_|refine Z2 ?_ ?_|(intro h h';try simp[*,-h] at h')|((with_reducible apply Aa (f:=256));(iterate 5 exact Z5);(apply F0 (d:=93) 9);(focus (refine LT.congr hcs ?_;intro i c;simp));(focus ((try simp);omega));rotate_left;(rintro _ _ h;exact h.elim);(rintro _ hp2 ⟨gA,rfl,hbgA,hcn,hkA,hO2⟩;have HKn:=KL.step HK hkA (by omega) (fun d i c hd=>by simp[Zl hd]);clear hcs HK;have hcs:=hcn;have HK:=HKn;clear hcn HKn hkA))|fail)
   repeat' (first|refine ZN ?_|refine Z2 ?_ ?_|(intro h h';try simp[*,-h] at h')|((with_reducible apply Aa (f:=126));(iterate 5 exact Z5);(apply iT _ (k+1) _ _);(focus (refine LT.congr hcs ?_;intro i c;simp));(focus ((try simp);omega));rotate_left;(rintro _ _ h;exact h.elim);(rintro _ hp2 ⟨rfl,⟨xt,hxt,hlxt,hcn⟩,hk2⟩;have Hxt:=Lib.hid hxt;clear hxt;have HKn:=KL.step HK hk2 (by omega) (fun d i c hd=>by simp[Zl hd]);have hO2:=hk2.own (by omega);clear hcs HK;have hcs:=hcn;have HK:=HKn;clear hcn HKn hk2))|fail)
   repeat' (first|refine ZN ?_|refine Z2 ?_ ?_|(intro h h';try simp[*,-h] at h')|((with_reducible apply Aa (f:=256));(iterate 5 exact Z5);(apply F0 (d:=109) 8);(focus (refine LT.congr hcs ?_;intro i c;simp));(focus ((try simp);omega));rotate_left;(rintro _ _ h;exact h.elim);(rintro _ hp2 ⟨gB,rfl,hbgB,hcn,hkA,hO2⟩;have HKn:=KL.step HK hkA (by omega) (fun d i c hd=>by simp[Zl hd]);clear hcs HK;have hcs:=hcn;have HK:=HKn;clear hcn HKn hkA))|fail)
   repeat' (first|refine ZN ?_|refine Z2 ?_ ?_|(intro h h';try simp[*,-h] at h')|((with_reducible apply Aa (f:=295));(iterate 5 exact Z5);(apply Gc (c1:=(c++x)) (c2:=(xt++[Si.mk 8 0 0 0])) (op:=9) (x:=0) (q:=93));(focus (have hq:=hcs;simp at hq⊢;exact LT.congr hq (fun i c=>by simp)));exact Zc;(focus ((try simp);(try omega)));rotate_left;(rintro _ _ h;exact h.elim);(rintro _ hp2 ⟨rfl,hcn,hk2⟩;have HKn:=KL.step HK hk2 (by omega) (fun d i c hd=>by simp[Zl hd]);have hO2:=hk2.own (by omega);clear hcs HK;have hcs:=hcn;have HK:=HKn;clear hcn HKn hk2))|fail)
   repeat' (first|refine ZN ?_|refine Z2 ?_ ?_|(intro h h';try simp[*,-h] at h')|((with_reducible apply Aa (f:=126));(iterate 5 exact Z5);(apply iE _ (k+1) _ _);(focus (refine LT.congr hcs ?_;intro i c;simp));(focus ((try simp);omega));rotate_left;(rintro _ _ h;exact h.elim);(rintro _ hp2 ⟨rfl,⟨xe,hxe,hlxe,hcn⟩,hk2⟩;have Hxe:=Lib.hid hxe;clear hxe;have HKn:=KL.step HK hk2 (by omega) (fun d i c hd=>by simp[Zl hd]);have hO2:=hk2.own (by omega);clear hcs HK;have hcs:=hcn;have HK:=HKn;clear hcn HKn hk2))|fail)
   repeat' (first|refine ZN ?_|refine Z2 ?_ ?_|(intro h h';try simp[*,-h] at h')|((with_reducible apply Aa (f:=295));(iterate 5 exact Z5);(apply Gc (c1:=(c++(x++(Si.mk 9 ((((c++x)++(Si.mk 9 0 0 0)::(xt++[Si.mk 8 0 0 0])).length:Nat):Int) 0 0::xt)))) (c2:=xe) (op:=8) (x:=0) (q:=109));(focus (have hq:=hcs;simp at hq⊢;exact LT.congr hq (fun i c=>by simp)));exact Zc;(focus ((try simp);(try omega)));rotate_left;(rintro _ _ h;exact h.elim);(rintro _ hp2 ⟨rfl,hcn,hk2⟩;have HKn:=KL.step HK hk2 (by omega) (fun d i c hd=>by simp[Zl hd]);have hO2:=hk2.own (by omega);clear hcs HK;have hcs:=hcn;have HK:=HKn;clear hcn HKn hk2))|fail)
   have hx:=Hx.out
   have hxt:=Hxt.out
   have hxe:=Hxe.out
   simp only at hxt hxe
   have hxt2:xt=lSs w (c.length+x.length+1) th:=by
    rw[hxt]
    congr 1
    simp;try omega
   have hxe2:xe=lSs w (c.length+x.length+2+xt.length) el:=by
    rw[hxe]
    congr 1
    simp;try omega
   refine⟨rfl,⟨x++(Si.mk 9 ((((c++x)++(Si.mk 9 0 0 0)::(xt++[Si.mk 8 0 0 0])).length:Nat):Int) 0 0::(xt++Si.mk 8 ((((c++(x++(Si.mk 9 ((((c++x)++(Si.mk 9 0 0 0)::(xt++[Si.mk 8 0 0 0])).length:Nat):Int) 0 0::xt)))++(Si.mk 8 0 0 0)::xe).length:Nat):Int) 0 0::xe)),?_,by simp;omega,by simpa using hcs⟩,HK⟩
   show _=lS w c.length (.mk 4 es ez l th el)
   rw[Jh,if_neg (by decide),if_pos rfl,if_neg hel]
   have h1:lEs c.length l=x:=by rw[hx,hz]
   rw[h1,<-hxt2,<-hxe2]
   simp
   try omega
 ·repeat' (first|refine ZN ?_|refine Z2 ?_ ?_|(intro h h';try simp[*,-h] at h')|((with_reducible apply Aa (f:=203));(iterate 5 exact Z5);(apply put1 (a:=⟨10,es,0,0⟩));(focus (refine LT.congr hcs ?_;intro i c;simp));(focus ((try simp);omega));exact Zc;rotate_left;(rintro _ _ h;exact h.elim);(rintro _ hp2 ⟨rfl,hcn,hk2⟩;have HKn:=KL.step HK hk2 (by omega) (fun d i c hd=>by simp[Zl hd]);have hO2:=hk2.own (by omega);clear hcs HK;have hcs:=hcn;have HK:=HKn;clear hcn HKn hk2))|fail)
  have hx:=Hx.out
  refine⟨rfl,⟨x++[⟨10,es,0,0⟩],?_,by simp;omega,by simpa using hcs⟩,HK⟩
  show _=lS w c.length (.mk 6 es ez l th el)
  rw[Jh,if_neg (by decide),if_neg (by decide),hx,hz]
  rfl
 ·have hlw:=J4 w
  by_cases hel:l.length=0
  ·have e2: ¬(0:Int)<l.length:=by omega
   have e3:l=[]:=List.eq_nil_of_length_eq_zero hel
   subst e3
   simp only[Fg] at f1
   obtain rfl:j=0:=by have h:=hj;simp at h;exact h
   simp at f19 f20
   have hxl0:x.length<=0:=by simp only[Ho] at hxl;omega
   clear e1 e2
   repeat' (first|refine ZN ?_|refine Z2 ?_ ?_|(intro h h';try simp[*,-h] at h')|((with_reducible apply Aa (f:=127));(iterate 5 exact Z5);(apply Zu);(focus (refine LT.congr hcs ?_;intro i c;simp));(focus ((try simp);omega));rotate_left;(rintro _ _ h;exact h.elim);(rintro _ hp2 ⟨rfl,hcn,hk2⟩;have HKn:=KL.step HK hk2 (by omega) (fun d i c hd=>by simp[Zl hd]);have hO2:=hk2.own (by omega);clear hcs HK;have hcs:=hcn;have HK:=HKn;clear hcn HKn hk2))|fail)
   have hx:=Hx.out
   refine⟨rfl,⟨x++leave w,?_,by simp;omega,by simpa using hcs⟩,HK⟩
   show _=lS w c.length (.mk 7 es ez [] th el)
   rw[Jh,if_neg (by decide),if_neg (by decide),hx,hz]
   simp[tailS]
  ·have e2:(0:Int)<l.length:=by omega
   have e3:0<l.length:=by omega
   have e4:l≠[]:=fun h=>hel (by rw[h];rfl)
   repeat' (first|refine ZN ?_|refine Z2 ?_ ?_|(intro h h';try simp[*,-h] at h')|((with_reducible apply Aa (f:=203));(iterate 5 exact Z5);(apply put1 (a:=⟨11,0,0,0⟩));(focus (refine LT.congr hcs ?_;intro i c;simp));(focus ((try simp);omega));exact Zc;rotate_left;(rintro _ _ h;exact h.elim);(rintro _ hp2 ⟨rfl,hcn,hk2⟩;have HKn:=KL.step HK hk2 (by omega) (fun d i c hd=>by simp[Zl hd]);have hO2:=hk2.own (by omega);clear hcs HK;have hcs:=hcn;have HK:=HKn;clear hcn HKn hk2))|fail)
   have hx:=Hx.out
   refine⟨rfl,⟨x++[⟨11,0,0,0⟩],?_,by simp;omega,by simpa using hcs⟩,HK⟩
   show _=lS w c.length (.mk 7 es ez l th el)
   rw[Jh,if_neg (by decide),if_neg (by decide),hx,hz]
   simp[tailS,e4]
theorem Y0 {sg:List (Nat×Bool)}{w:Bool}(N:Nat)(hN:N<=200000)(ih: ∀s:Cs,s.size<=N->gS sg w s=true->LY w 202 (.dp s.row 0) (fun p=>lS w p s) (6*s.size))(l:List Cs)(hl:csSize l<=N)(hge:gSs sg w l=true):LY w 126 (.sl false 6 (csRows l)) (fun p=>lSs w p l) (6*csSize l):=by
 intro d k hp1 c hcs hlen
 refine Af (k1:=k+1) (PR:=fun _ _=>False) rfl Tryz.func126 (Ak (by decide)) rfl X6 rfl rvs_126 ?_
 have HK:=KL.refl k hp1
 have hll:l.length<=1048576:=by have:=M4 l;omega
 repeat' (first|refine ZN ?_|refine Z2 ?_ ?_|(intro h h';try simp[*,-h] at h'))
 refine Ah (n:=l.length) (fun s0 m z=> ∃(j:Nat) (x:List Si),l.length - j<=m/\j<=l.length/\z.fr 0= .ptr ⟨0,3,0⟩ 1 0/\z.fr 1= .sl false 6 (csRows l)/\z.fr 6=iv l.length/\z.fr 7=iv j/\x=lSs w c.length (l.take j)/\x.length<=6*csSize (l.take j)/\LT w (c++x) z.hp/\KL k hp1 z.hp) ⟨0,[],by omega,by omega,by simp,by simp,by simp,by simp,by simp,by simp,by simpa using hcs,HK⟩ ?_
 rintro m ⟨fr,hp⟩ ⟨j,x,hm,hj,f0,f1,f6,f7,hx,hxl,hcs,HK⟩
 simp only at f0 f1 f6 f7 hcs HK
 have Hx:=Lib.hid hx
 clear hx
 by_cases hlt:j<l.length
 ·have e1:(j:Int)<l.length:=by omega
  have hg:l[j]?=some l[j]:=List.getElem?_eq_getElem hlt
  have hwj:IntKind.i64.wrap ((j:Int)+1)=(j:Int)+1:=wrapN (by omega)
  generalize l[j]=e at*
  have hgt:=cs_get hg
  have hsp2:=Sa l (j+1)
  have htk:=G5a (w:=w) hg c.length
  have hes:=Vb hg
  have ihx:=ih e (by omega) (Z0 hge hg)
  have hst2:csSize (l.take (j+1))=csSize (l.take j)+e.size:=by rw[List.take_add_one,hg];simp
  have HTk:=Lib.hid htk
  obtain⟨xk,xs,xz,xe,xth,xel⟩:=e
  simp only[Kg] at hgt ihx
  generalize hez:(Cs.mk xk xs xz xe xth xel).size=esz at*
  clear hg hlt htk hez
  repeat' (first|refine ZN ?_|refine Z2 ?_ ?_|(intro h h';try simp[*,-h] at h')|((with_reducible apply Aa (f:=202));(iterate 5 exact Z5);(apply ihx _ (k+1) _ _);(focus (refine LT.congr hcs ?_;intro i c;simp));(focus ((try simp);omega));rotate_left;(rintro _ _ h;exact h.elim);(rintro _ hp2 ⟨rfl,⟨xa,hxa,hlxa,hcn⟩,hk2⟩;have Hxa:=Lib.hid hxa;clear hxa;have HKn:=KL.step HK hk2 (by omega) (fun d i c hd=>by simp[Zl hd]);have hO2:=hk2.own (by omega);clear hcs HK;have hcs:=hcn;have HK:=HKn;clear hcn HKn hk2))|fail)
  have hx:=Hx.out
  have hxa:=Hxa.out
  have htk:=HTk.out
  refine⟨l.length - (j+1),by omega,j+1,x++xa,by omega,by omega,by simp[*],by simp[*],by simp[*],by simp[*],?_,?_,by simpa using hcs,HK⟩
  ·rw[htk,<-hx,hxa]
   simp
  ·simp
   omega
 have e1: ¬(j:Int)<l.length:=by omega
 have hz:l.take j=l:=List.take_of_length_le (by omega)
 rw[hz] at hxl
 repeat' (first|refine ZN ?_|refine Z2 ?_ ?_|(intro h h';try simp[*,-h] at h'))
 have hx:=Hx.out
 refine⟨rfl,⟨x,?_,hxl,hcs⟩,HK⟩
 show x=lSs w c.length l
 rw[hx,hz]
theorem Y1 {sg:List (Nat×Bool)}{w:Bool}: ∀N,N<=200000-> ∀(l:List Cs),csSize l<=N->gSs sg w l=true->LY w 126 (.sl false 6 (csRows l)) (fun p=>lSs w p l) (6*csSize l)
 |0,h,l,hl,hg=>Y0 0 h (fun s hs _=>by have:=s.size_pos;omega) l hl hg
 |N+1,h,l,hl,hg=>Y0 (N+1) h (fun s hs hg=>stmt_s N (fun l hl hg=>Y1 N (by omega) l hl hg) s hs hg) l hl hg
theorem Gza {sg:List (Nat×Bool)}{w:Bool}(l:List Cs)(hl:csSize l<=200000)(hg:gSs sg w l=true):LY w 126 (.sl false 6 (csRows l)) (fun p=>lSs w p l) (6*csSize l):=Y1 200000 (Nat.le_refl _) l hl hg
end Go.Proofs.YtpmoibjpjlhcgaaGreatDoor
namespace Go.Proofs.YtpmoibjpjlhcgaaGreatDoor
open Go Go.Ab Go.Ab.Sy
theorem lbody_w {sg:List (Nat×Bool)}(f:Cf)(hg:gSs sg f.word f.body=true)(hl:csSize f.body<=20000):(Lm X47).dat 88 [.agg [iz f.params,iz f.slots,iz f.first,bz f.word,.sl false 6 (csRows f.body)]]=some [.vec 4 ((lF f).map Si.row)]:=by
 refine fnW (P:=Tryz.prog) (E:=E47) (X:=X47) Tryz.func88 (An _ _) rfl Cta rfl rtys_88 rvs_88 ?_
 have ls:=Gza (sg:=sg) f.body (by omega) hg
 obtain⟨p1,p2,p3,p4,p5⟩:=f
 simp only at hg hl ls⊢
 have hlw:=J4 p4
 repeat' (first|refine ZN ?_|refine Z2 ?_ ?_|(intro h h';try simp[*,-h] at h')|((with_reducible apply Aa (f:=126));(iterate 5 exact Z5);(apply(ls _ 0 _ []));(focus exact⟨2,by simp,by simp⟩);(focus (simp;omega));rotate_left;(rintro _ _ h;exact h.elim);(rintro _ hp2 ⟨rfl,⟨x,hx,hlx,hcn⟩,hk2⟩;have Hx:=Lib.hid hx;clear hx))|fail)
 repeat' (first|refine ZN ?_|refine Z2 ?_ ?_|(intro h h';try simp[*,-h] at h')|((with_reducible apply Aa (f:=127));(iterate 5 exact Z5);(apply Zu (c:=x));(focus (simpa using hcn));(focus omega);rotate_left;(rintro _ _ h;exact h.elim);(rintro _ hp3 ⟨rfl,⟨g,q1,q2⟩,hk3⟩))|fail)
 have hx:=Hx.out
 have hx2:x=lSs p4 0 p5:=hx
 rw[show lF ⟨p1,p2,p3,p4,p5⟩=x++leave p4 from by rw[hx2];rfl]
 rw[List.map_append]
def lowF (f:Cf):Sf:=⟨f.params,f.slots,f.first,f.word,lF f⟩
theorem cf_get {l:List Cf}{i:Nat}{f:Cf}(h:l[i]?=some f):(l.map Cf.row)[i]?=some f.row:=by simp[h]
theorem Y2 (l:List Sf):(l.map Sf.row).take l.length=l.map Sf.row:=by rw[List.take_of_length_le (by simp)]
theorem lowOf_w {sg:List (Nat×Bool)}(w0:Int)(fs:List Cf)(hg: ∀f∈fs,gSs sg f.word f.body=true/\csSize f.body<=20000)(hl:fs.length<=1048576):(Lm X47).dat 53 [.agg [iz w0,.sl false 5 (fs.map Cf.row)]]=some [.agg [iz w0,.vec 5 ((fs.map lowF).map Sf.row)]]:=by
 refine fnW (P:=Tryz.prog) (E:=E47) (X:=X47) Tryz.func53 (An _ _) rfl Dea rfl rtys_53 rvs_53 ?_
 repeat' (first|refine ZN ?_|refine Z2 ?_ ?_|(intro h h';try simp[*,-h] at h'))
 refine Ah (n:=fs.length) (fun s0 m z=> ∃j g:Nat,fs.length - j<=m/\j<=fs.length/\z.fr 2= .ptr ⟨0,2,0⟩ 1 0/\z.fr 3= .ptr ⟨0,3,0⟩ 1 0/\z.fr 10= .sl false 5 (fs.map Cf.row)/\z.fr 11=iv fs.length/\z.fr 12=iv j/\z.hp ⟨0,2,0⟩= .box 1 [iv 0,.own ⟨0,2,2⟩ 1 0] false/\z.hp ⟨0,2,2⟩= .arr 1 5 177 [] false/\z.hp ⟨0,3,0⟩= .box 1 [iv w0,.own ⟨0,3,2⟩ g ((fs.take j).map lowF).length] false/\z.hp ⟨0,3,2⟩= .arr g 5 177 (((fs.take j).map lowF).map Sf.row) false) ⟨0,2,by omega,by omega,by simp,by simp,by simp,by simp,by simp,by simp,by simp,by simp,by simp⟩ ?_
 rintro m ⟨fr,hp⟩ ⟨j,g,hm,hj,f2,f3,f10,f11,f12,h2,h22,h3,h32⟩
 simp only at f2 f3 f10 f11 f12 h2 h22 h3 h32
 by_cases hlt:j<fs.length
 ·have e1:(j:Int)<fs.length:=by omega
  have hgj:fs[j]?=some fs[j]:=List.getElem?_eq_getElem hlt
  have hwj:IntKind.i64.wrap ((j:Int)+1)=(j:Int)+1:=wrapN (by omega)
  generalize fs[j]=f at*
  have hgt:=cf_get hgj
  have hf:=hg f (List.mem_of_getElem? hgj)
  have hbw:=lbody_w f hf.1 hf.2
  have htk:(fs.take (j+1)).map lowF=(fs.take j).map lowF++[lowF f]:=by rw[List.take_add_one,hgj];simp
  have hle:((fs.take j).map lowF).length<=1048576:=by simp;omega
  generalize (fs.take j).map lowF=S at*
  obtain⟨p1,p2,p3,p4,p5⟩:=f
  simp only[Cf.row] at hgt
  simp only[lowF] at htk
  simp only at hbw
  have x1:(S.length+1)*56<=140737488355328:=by omega
  have x2:S.length<=9223372036854775806:=by omega
  have x3:=Y2 S
  have x4:=Pl (lF ⟨p1,p2,p3,p4,p5⟩)
  generalize lF ⟨p1,p2,p3,p4,p5⟩=C at*
  have HT:=Lib.hid htk
  have HG:=Lib.hid hg
  clear hgj hlt htk hg hf
  repeat' (first|refine ZN ?_|refine Z2 ?_ ?_|(intro h h';try simp[*,-h] at h'))
  have htk:=HT.out
  exact⟨fs.length - (j+1),by omega,j+1,g+1,by omega,by omega,by simp[*],by simp[*],by simp[*],by simp[*],by simp[*],by simp[*],by simp[*],by rw[htk];simp[*],by rw[htk];simp[*,Sf.row]⟩
 have e1: ¬(j:Int)<fs.length:=by omega
 have hz:fs.take j=fs:=List.take_of_length_le (by omega)
 rw[hz] at h3 h32
 have x3:=Y2 (fs.map lowF)
 have HG:=Lib.hid hg
 clear hg
 repeat' (first|refine ZN ?_|refine Z2 ?_ ?_|(intro h h';try simp[*,-h] at h'))
 simp[*]
end Go.Proofs.YtpmoibjpjlhcgaaGreatDoor
