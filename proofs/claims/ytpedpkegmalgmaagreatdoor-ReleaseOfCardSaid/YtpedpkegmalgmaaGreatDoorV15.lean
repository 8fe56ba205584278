/- A part of the proof: Pe, Pf, Pg, Ph, Pi, Ta, Tb, Tc, Td, Te, Re, Wx, Wf, Wg, Wh. -/
import Derived.Test.YtpedpkegmalgmaaGreatDoorV14
import Derived.Test.YtpedpkegmalgmaaGreatDoorV05
import Derived.Test.YtpedpkegmalgmaaGreatDoorV07
import Derived.WalkKit
set_option linter.unusedSimpArgs false
set_option linter.unusedVariables false
set_option maxRecDepth 200000
set_option maxHeartbeats 8000000
namespace Go.Proofs.YtpedpkegmalgmaaGreatDoor
section
open Go Go.Ab Go.Ab.Sy
theorem exprs (T:List Tok)(e:Int)(q gx gy:Nat): ∀m n:Nat,T.length+1 - n≤m→
  (∀(D:Nat) (hD:2≤D) (d:Nat) (hp1:Hp) (hr:Rd T e q gx gy n hp1),HB Tryz.prog E47 (Lm X46) D d 323 [.ptr ⟨1,q,0⟩ gx 0] hp1 (RE T e q gx gy n D hp1) (Wr D q hp1))∧
  (∀(D:Nat) (hD:2≤D) (d:Nat) (hp1:Hp) (ls:Int) (hls:1≤ls) (hr:Rd T e q gx gy n hp1),HB Tryz.prog E47 (Lm X46) D d 280 [.ptr ⟨1,q,0⟩ gx 0,iv ls] hp1 (RE T e q gx gy n D hp1) (Wr D q hp1))∧
  (∀(D:Nat) (hD:2≤D) (d:Nat) (hp1:Hp) (hr:Rd T e q gx gy n hp1),HB Tryz.prog E47 (Lm X46) D d 325 [.ptr ⟨1,q,0⟩ gx 0] hp1 (RL T e q gx gy n D hp1) (Wr D q hp1)):=by
 intro m
 induction m using Nat.strongRecOn with
 |_ m ih=>
  intro n hm
  have ihE: ∀(D:Nat) (hD:2≤D) (d:Nat) (hp1:Hp) {n2:Nat} {ls:Int} (hls:1≤ls) (hr:Rd T e q gx gy n2 hp1) (hn:n<n2),HB Tryz.prog E47 (Lm X46) D d 280 [.ptr ⟨1,q,0⟩ gx 0,iv ls] hp1 (RE T e q gx gy n2 D hp1) (Wr D q hp1):=
   fun D hD d hp1 n2 ls hls hr hn=>(ih (T.length+1 - n2) (by have:=hr.le;omega) n2 (Nat.le_refl _)).2.1 D hD d hp1 ls hls hr
  have hA: ∀(D:Nat) (hD:2≤D) (d:Nat) (hp1:Hp) (hr:Rd T e q gx gy n hp1),HB Tryz.prog E47 (Lm X46) D d 323 [.ptr ⟨1,q,0⟩ gx 0] hp1 (RE T e q gx gy n D hp1) (Wr D q hp1):=
   fun D hD d hp1 hr=>atom_w D hD d hp1 ihE (fun D hD d hp1 n2 hr hn=>(ih (T.length+1 - n2) (by have:=hr.le;omega) n2 (Nat.le_refl _)).1 D hD d hp1 hr) (fun D hD d hp1 n2 hr hn=>(ih (T.length+1 - n2) (by have:=hr.le;omega) n2 (Nat.le_refl _)).2.2 D hD d hp1 hr) hr
  have hE: ∀(D:Nat) (hD:2≤D) (d:Nat) (hp1:Hp) (ls:Int) (hls:1≤ls) (hr:Rd T e q gx gy n hp1),HB Tryz.prog E47 (Lm X46) D d 280 [.ptr ⟨1,q,0⟩ gx 0,iv ls] hp1 (RE T e q gx gy n D hp1) (Wr D q hp1):=
   fun D hD d hp1 ls hls hr=>expr_w D hD d hp1 ihE (fun D hD d hp1 n2 hr hn=>by
    by_cases h:n=n2
    ·subst h;exact hA D hD d hp1 hr
    ·exact(ih (T.length+1 - n2) (by have:=hr.le;omega) n2 (Nat.le_refl _)).1 D hD d hp1 hr) hls hr
  exact⟨hA,hE,fun D hD d hp1 hr=>args_w D hD d hp1 (fun D hD d hp1 n2 ls hls hr hn=>by
    by_cases h:n=n2
    ·subst h;exact hE D hD d hp1 ls hls hr
    ·exact ihE D hD d hp1 hls hr (by omega)) hr⟩
theorem expr_ok {T:List Tok}{e:Int}{q gx gy n:Nat}{ls:Int}(D:Nat)(hD:2≤D)(d:Nat)(hp1:Hp)(hls:1≤ls)(hr:Rd T e q gx gy n hp1):HB Tryz.prog E47 (Lm X46) D d 280 [.ptr ⟨1,q,0⟩ gx 0,iv ls] hp1 (RE T e q gx gy n D hp1) (Wr D q hp1):=
 (exprs T e q gx gy _ n (Nat.le_refl _)).2.1 D hD d hp1 ls hls hr
theorem args_ok {T:List Tok}{e:Int}{q gx gy n:Nat}(D:Nat)(hD:2≤D)(d:Nat)(hp1:Hp)(hr:Rd T e q gx gy n hp1):HB Tryz.prog E47 (Lm X46) D d 325 [.ptr ⟨1,q,0⟩ gx 0] hp1 (RL T e q gx gy n D hp1) (Wr D q hp1):=
 (exprs T e q gx gy _ n (Nat.le_refl _)).2.2 D hD d hp1 hr
@[simp] theorem St_row_mk (k:Int)(s:Tx)(e:List Sy.Ex)(t f:List Sy.St):(Sy.St.mk k s e t f).row=[iz k,tz s.1,.sl false 5 (exRows e),.sl false 5 (stRows t),.sl false 5 (stRows f)]:=Sy.St.row_eq _
@[simp] theorem St_size_mk (k:Int)(s:Tx)(e:List Sy.Ex)(t f:List Sy.St):(Sy.St.mk k s e t f).size=exSize e+stSize t+stSize f+1:=Sy.St.size_eq _
def RS (T:List Tok)(e:Int)(q gx gy n D:Nat)(hp1:Hp)(v:AV)(hp2:Hp):Prop:= ∃(x:Sy.St) (n2:Nat),v= .agg x.row∧n+x.size≤n2∧n<n2∧Rd T e q gx gy n2 hp2∧Far D q hp1 hp2
def RSL (T:List Tok)(e:Int)(q gx gy n D:Nat)(hp1:Hp)(v:AV)(hp2:Hp):Prop:= ∃(x:List Sy.St) (n2:Nat),v= .sl false 5 (stRows x)∧n+stSize x≤n2∧n<n2∧Rd T e q gx gy n2 hp2∧Far D q hp1 hp2
theorem st_take (l:List Sy.St):(stRows l).take l.length=stRows l:=by rw[List.take_of_length_le (by simp)]
theorem round {T:List Tok}{e:Int}{q n gx gy:Nat}(D:Nat)(hD:2≤D)(d:Nat)(hp1:Hp)(hr:Rd T e q gx gy n hp1):HB Tryz.prog E47 (Lm X46) D d 279 [.ptr ⟨1,q,0⟩ gx 0] hp1 (fun v hp2=> ∃(x:Sy.Ex) (n2:Nat),v= .sl false 5 [x.row]∧n+x.size≤n2∧n<n2∧Rd T e q gx gy n2 hp2∧Far D q hp1 hp2) (Wr D q hp1):=by
 obtain⟨k,rfl⟩: ∃k,D=k+2:=⟨D - 2,by omega⟩
 clear hD
 refine lim_hpcBZk (k1:=k+3) (PR:=Wr (k+2) q hp1) rfl Tryz.func279 rfl rfl bodyOk_279 rfl rvs_279 rtys_279 ?_
 obtain⟨h1,h2,hlen,hle⟩:=hr
 repeat' (first|(refine ZN ?_)|(refine Z2 ?_ ?_)|(intro h h';try simp[*,-h] at h')|(exact⟨⟨_,rfl⟩,fun d i c hd hne=>(hpf d i c (by omega) hne).trans (by have hd2:d≠k+3:=(by omega);first|exact HF.out d i c hd hne|(simp[*];done)|(simp[*];exact HF.out d i c hd hne))⟩)|((with_reducible apply Wo_call (f:=141));(iterate 5 exact Z5);(apply must1 (k+3) (by omega));(exact Zc);(decide);(constructor);((conv=>lhs;simp -implicitDefEqProofs [*,-Int.natCast_add])<;>exact rfl);(exact Zc);(assumption);(omega);rotate_left;(rintro _ hpp ⟨⟨a,rfl⟩,hpf⟩);rotate_right;(rintro _ hp2 ⟨rfl,hn2,⟨hb2,ha2,_,hle2⟩,hf2⟩;have hO2:=hf2.own (by omega);have hL2:=hf2.all (k:=k+2) (by omega);clear hf2))|((with_reducible apply Wo_call (f:=280));(iterate 5 exact Z5);(apply expr_ok (k+3) (by omega));(omega);(constructor);((conv=>lhs;simp -implicitDefEqProofs [*,-Int.natCast_add])<;>exact rfl);(exact Zc);(assumption);(omega);rotate_left;(rintro _ hpp ⟨⟨a,rfl⟩,hpf⟩);rotate_right;(rintro _ hp2 ⟨⟨xk,xo,xn,xs,xl⟩,m2,rfl,hs2,hn2,⟨hb2,ha2,_,hle2⟩,hf2⟩;have hO2:=hf2.own (by omega);have hL2:=hf2.all (k:=k+2) (by omega);clear hf2;simp only[Ex_row_mk,Ex_size_mk] at*))|fail)
 exact⟨.mk xk xo xn xs xl,m2+1,by simp[*],by(try simp);try omega,by omega,⟨by simp[*],by simp[*],hlen,by omega⟩,fun d i c hd hne=>by have hd2:d≠k+3:=(by omega);simp[*]⟩
theorem body_w {T:List Tok}{e:Int}{q n gx gy:Nat}(D:Nat)(hD:2≤D)(d:Nat)(hp1:Hp)(ihL: ∀(D:Nat) (hD:2≤D) (d:Nat) (hp1:Hp) {n2:Nat} (hr:Rd T e q gx gy n2 hp1) (hn:n<n2),HB Tryz.prog E47 (Lm X46) D d 169 [.ptr ⟨1,q,0⟩ gx 0] hp1 (RSL T e q gx gy n2 D hp1) (Wr D q hp1))(hr:Rd T e q gx gy n hp1):HB Tryz.prog E47 (Lm X46) D d 281 [.ptr ⟨1,q,0⟩ gx 0] hp1 (RSL T e q gx gy n D hp1) (Wr D q hp1):=by
 obtain⟨k,rfl⟩: ∃k,D=k+2:=⟨D - 2,by omega⟩
 clear hD
 refine lim_hpcBZk (k1:=k+3) (PR:=Wr (k+2) q hp1) rfl Tryz.func281 rfl rfl bodyOk_281 rfl rvs_281 rtys_281 ?_
 obtain⟨h1,h2,hlen,hle⟩:=hr
 repeat' (first|(refine ZN ?_)|(refine Z2 ?_ ?_)|(intro h h';try simp[*,-h] at h')|(exact⟨⟨_,rfl⟩,fun d i c hd hne=>(hpf d i c (by omega) hne).trans (by have hd2:d≠k+3:=(by omega);first|exact HF.out d i c hd hne|(simp[*];done)|(simp[*];exact HF.out d i c hd hne))⟩)|((with_reducible apply Wo_call (f:=141));(iterate 5 exact Z5);(apply must1 (k+3) (by omega));(exact Zc);(decide);(constructor);((conv=>lhs;simp -implicitDefEqProofs [*,-Int.natCast_add])<;>exact rfl);(exact Zc);(assumption);(omega);rotate_left;(rintro _ hpp ⟨⟨a,rfl⟩,hpf⟩);rotate_right;(rintro _ hp2 ⟨rfl,hn2,⟨hb2,ha2,_,hle2⟩,hf2⟩;have hO2:=hf2.own (by omega);have hL2:=hf2.all (k:=k+2) (by omega);clear hf2))|((with_reducible apply Wo_call (f:=169));(iterate 5 exact Z5);(apply ihL (k+3) (by omega));(constructor);((conv=>lhs;simp -implicitDefEqProofs [*,-Int.natCast_add])<;>exact rfl);(exact Zc);(assumption);(omega);(omega);rotate_left;(rintro _ hpp ⟨⟨a,rfl⟩,hpf⟩);rotate_right;(rintro _ hp2 ⟨sl,m2,rfl,hs2,hn2,⟨hb2,ha2,_,hle2⟩,hf2⟩;have hO2:=hf2.own (by omega);have hL2:=hf2.all (k:=k+2) (by omega);clear hf2))|fail)
 exact⟨sl,m2,by simp[*],by(try simp);try omega,by omega,⟨by simp[*],by simp[*],hlen,by omega⟩,fun d i c hd hne=>by have hd2:d≠k+3:=(by omega);simp[*]⟩
theorem stmts_w {T:List Tok}{e:Int}{q n gx gy:Nat}(D:Nat)(hD:2≤D)(d:Nat)(hp1:Hp)(ihS: ∀(D:Nat) (hD:2≤D) (d:Nat) (hp1:Hp) {n2:Nat} (hr:Rd T e q gx gy n2 hp1) (hn:n≤n2),HB Tryz.prog E47 (Lm X46) D d 211 [.ptr ⟨1,q,0⟩ gx 0] hp1 (RS T e q gx gy n2 D hp1) (Wr D q hp1))(hr:Rd T e q gx gy n hp1):HB Tryz.prog E47 (Lm X46) D d 169 [.ptr ⟨1,q,0⟩ gx 0] hp1 (RSL T e q gx gy n D hp1) (Wr D q hp1):=by
 obtain⟨k,rfl⟩: ∃k,D=k+2:=⟨D - 2,by omega⟩
 clear hD
 refine lim_hpcBZk (k1:=k+3) (PR:=Wr (k+2) q hp1) rfl Tryz.func169 rfl rfl bodyOk_169 rfl rvs_169 rtys_169 ?_
 obtain⟨h1,h2,hlen,hle⟩:=hr
 repeat' (first|(refine ZN ?_)|(refine Z2 ?_ ?_)|(intro h h';try simp[*,-h] at h')|(exact⟨⟨_,rfl⟩,fun d i c hd hne=>(hpf d i c (by omega) hne).trans (by have hd2:d≠k+3:=(by omega);first|exact HF.out d i c hd hne|(simp[*];done)|(simp[*];exact HF.out d i c hd hne))⟩)|fail)
 refine W_loopS (n:=T.length+1 - n) (fun s0 m s=> ∃(n2 g:Nat) (l:List Sy.St),m=T.length+1 - n2∧n+stSize l≤n2∧s.fr 0=s0.fr 0∧s.fr 3= .own ⟨k+3,3,0⟩ g l.length∧s.hp ⟨k+3,3,0⟩= .arr g 5 298 (stRows l) false∧Rd T e q gx gy n2 s.hp∧Far (k+2) q hp1 s.hp) ⟨n,_,[],rfl,by simp,by simp,by simp;rfl,by simp[*],⟨by simp[*],by simp[*],hlen,hle⟩,fun d i c hd hne=>by have hd2:d≠k+3:=(by omega);simp[*]⟩ ?_
 clear h1 h2
 rintro m ⟨fr,hp⟩ ⟨n2,g,l,rfl,hnl,f0,f3,hl,⟨hb,ha,_,hle3⟩,hfar⟩
 simp at f0 f3 hl ha hfar
 simp only at hb
 have HF:=Lib.hid hfar
 clear hfar
 have hll:=stSize_len l
 have a1:(l.length+1)*96≤140737488355328:=by omega
 have a2:l.length≤9223372036854775806:=by omega
 have a3:=st_take l
 repeat' (first|(refine ZN ?_)|(refine Z2 ?_ ?_)|(intro h h';try simp[*,-h] at h')|(exact⟨⟨_,rfl⟩,fun d i c hd hne=>(hpf d i c (by omega) hne).trans (by have hd2:d≠k+3:=(by omega);first|exact HF.out d i c hd hne|(simp[*];done)|(simp[*];exact HF.out d i c hd hne))⟩)|((with_reducible apply Wo_call (f:=138));(iterate 5 exact Z5);(apply may (k+3) (by omega));(decide);(constructor);((conv=>lhs;simp -implicitDefEqProofs [*,-Int.natCast_add])<;>exact rfl);(exact Zc);(assumption);(omega);rotate_left;(rintro _ hpp ⟨⟨a,rfl⟩,hpf⟩);rotate_right;(rintro _ hp2 (⟨rfl,⟨hb2,ha2,_,_⟩,hf2⟩|⟨rfl,hn2,⟨hb2,ha2,_,hle2⟩,hf2⟩)<;>(have hO2:=hf2.own (by omega);have hL2:=hf2.all (k:=k+2) (by omega);clear hf2)))|((with_reducible apply Wo_call (f:=211));(iterate 5 exact Z5);(apply ihS (k+3) (by omega));(constructor);((conv=>lhs;simp -implicitDefEqProofs [*,-Int.natCast_add])<;>exact rfl);(exact Zc);(assumption);(omega);(omega);rotate_left;(rintro _ hpp ⟨⟨a,rfl⟩,hpf⟩);rotate_right;(rintro _ hp2 ⟨⟨sk,sn,se,sth,sel⟩,m2,rfl,hs2,hn2,⟨hb2,ha2,_,hle2⟩,hf2⟩;have hO2:=hf2.own (by omega);have hL2:=hf2.all (k:=k+2) (by omega);clear hf2;simp only[St_row_mk,St_size_mk] at*))|fail)
 all_goals have hfar:=HF.out
 ·exact⟨T.length+1 - m2,by omega,m2,g+1,l++[.mk sk sn se sth sel],rfl,by simp;omega,by simp[*],by simp[*],by simp[*],⟨by simp[*],by simp[*],hlen,hle2⟩,fun d i c hd hne=>by have hd2:d≠k+3:=(by omega);simp[*];exact hfar d i c hd hne⟩
 ·exact⟨l,n2+1,by simp[*],by omega,by omega,⟨by simp[*],by simp[*],hlen,by omega⟩,fun d i c hd hne=>by have hd2:d≠k+3:=(by omega);simp[*];exact hfar d i c hd hne⟩
theorem named {T:List Tok}{e:Int}{q n gx gy:Nat}(D:Nat)(hD:2≤D)(d:Nat)(hp1:Hp)(hr:Rd T e q gx gy n hp1):HB Tryz.prog E47 (Lm X46) D d 282 [.ptr ⟨1,q,0⟩ gx 0] hp1 (RS T e q gx gy n D hp1) (Wr D q hp1):=by
 obtain⟨k,rfl⟩: ∃k,D=k+2:=⟨D - 2,by omega⟩
 clear hD
 refine lim_hpcBZk (k1:=k+3) (PR:=Wr (k+2) q hp1) rfl Tryz.func282 rfl rfl bodyOk_282 rfl rvs_282 rtys_282 ?_
 obtain⟨h1,h2,hlen,hle⟩:=hr
 repeat' (first|((apply W_srdB (c:=2) (idx:=[0,1]) (d:=30));(kernel_rfl);(kernel_rfl);(simp only[List.map_cons,List.map_nil,Array.getD_eq_getD_getElem?,List.getElem?_toArray,List.getElem?_cons_zero,List.getElem?_cons_succ,Option.getD_some]);(repeat' (first|exact Free.nil|((with_reducible apply Free_cons);(exact Zc))));(exact rfl);(exact Zc);(exact okFn_280);(decide);(exact Zc);(apply expr_ok (k+3) (by omega));(decide);(constructor);((conv=>lhs;simp -implicitDefEqProofs [*,-Int.natCast_add])<;>exact rfl);(exact Zc);(assumption);(omega);rotate_left;(rintro _ hpp ⟨⟨a,rfl⟩,hpf⟩);rotate_right;(rintro _ hp2 h1c ⟨⟨yk,yo,yn,ys,yl⟩,m3,rfl,hs2,hn2,⟨hb2,ha2,_,hle2⟩,hf2⟩;have hO2:=hf2.own (by omega);have hL2:=hf2.all (k:=k+2) (by omega);clear hf2;simp only[Ex_row_mk,Ex_size_mk] at*);(refine W_srdl (by kernel_rfl) ?_);(repeat (first|((with_reducible apply Wd_u);(exact Zc))|((with_reducible apply Wd_n);(exact Zc))));(with_reducible apply Wd_nil);(apply drawF_of (ps:=[(0,1),(0,2)]));(kernel_rfl);(refine Zk ?_);(refine List.forall_mem_cons.2 ⟨?_,?_⟩);((focus (refine apart_r (by simp) (by simp) rfl ?_;(repeat' (refine List.forall_mem_cons.2 ⟨⟨trivial,rfl,by simp[Facet.nm],by simp[Facet.nm],by simp[Facet.nm],by simp[Facet.nm, *]⟩,?_⟩));exact fun y hy=>by cases hy)));(exact Zz))|((apply W_rdB (c:=2) (idx:=[0,1]) (d:=30));(kernel_rfl);(kernel_rfl);(simp only[List.map_cons,List.map_nil,Array.getD_eq_getD_getElem?,List.getElem?_toArray,List.getElem?_cons_zero,List.getElem?_cons_succ,Option.getD_some]);(repeat' (first|exact Free.nil|((with_reducible apply Free_cons);(exact Zc))));(exact rfl);(exact Zc);(exact okFn_280);(decide);(exact Zc);(apply expr_ok (k+3) (by omega));(decide);(constructor);((conv=>lhs;simp -implicitDefEqProofs [*,-Int.natCast_add])<;>exact rfl);(exact Zc);(assumption);(omega);rotate_left;(rintro _ hpp ⟨⟨a,rfl⟩,hpf⟩);rotate_right;(rintro _ hp2 h1c ⟨⟨yk,yo,yn,ys,yl⟩,m3,rfl,hs2,hn2,⟨hb2,ha2,_,hle2⟩,hf2⟩;have hO2:=hf2.own (by omega);have hL2:=hf2.all (k:=k+2) (by omega);clear hf2;simp only[Ex_row_mk,Ex_size_mk] at*);(refine W_rdl (by kernel_rfl) ?_);(repeat (first|((with_reducible apply Wd_u);(exact Zc))|((with_reducible apply Wd_n);(exact Zc))));(with_reducible apply Wd_nil);(apply drawF_of (ps:=[(0,1),(0,2)]));(kernel_rfl);(refine Zk ?_);(refine List.forall_mem_cons.2 ⟨?_,?_⟩);((focus (refine apart_r (by simp) (by simp) rfl ?_;(repeat' (refine List.forall_mem_cons.2 ⟨⟨trivial,rfl,by simp[Facet.nm],by simp[Facet.nm],by simp[Facet.nm],by simp[Facet.nm, *]⟩,?_⟩));exact fun y hy=>by cases hy)));(exact Zz))|(refine Z1 ?_)|(refine Z2 ?_ ?_)|(intro h h';try simp[*,-h] at h')|(exact⟨⟨_,rfl⟩,fun d i c hd hne=>(hpf d i c (by omega) hne).trans (by have hd2:d≠k+3:=(by omega);first|exact HF.out d i c hd hne|(simp[*];done)|(simp[*];exact HF.out d i c hd hne))⟩)|((with_reducible apply Wo_call (f:=138));(iterate 5 exact Z5);(apply may (k+3) (by omega));(decide);(constructor);((conv=>lhs;simp -implicitDefEqProofs [*,-Int.natCast_add])<;>exact rfl);(exact Zc);(assumption);(omega);rotate_left;(rintro _ hpp ⟨⟨a,rfl⟩,hpf⟩);rotate_right;(rintro _ hp2 (⟨rfl,⟨hb2,ha2,_,_⟩,hf2⟩|⟨rfl,hn2,⟨hb2,ha2,_,hle2⟩,hf2⟩)<;>(have hO2:=hf2.own (by omega);have hL2:=hf2.all (k:=k+2) (by omega);clear hf2)))|((with_reducible apply Wo_call (f:=141));(iterate 5 exact Z5);(apply must1 (k+3) (by omega));(exact Zc);(decide);(constructor);((conv=>lhs;simp -implicitDefEqProofs [*,-Int.natCast_add])<;>exact rfl);(exact Zc);(assumption);(omega);rotate_left;(rintro _ hpp ⟨⟨a,rfl⟩,hpf⟩);rotate_right;(rintro _ hp2 ⟨rfl,hn2,⟨hb2,ha2,_,hle2⟩,hf2⟩;have hO2:=hf2.own (by omega);have hL2:=hf2.all (k:=k+2) (by omega);clear hf2))|((with_reducible apply Wo_call (f:=141));(iterate 5 exact Z5);(apply must2 (k+3) (by omega));(exact Zc);(decide);(decide);(constructor);((conv=>lhs;simp -implicitDefEqProofs [*,-Int.natCast_add])<;>exact rfl);(exact Zc);(assumption);(omega);rotate_left;(rintro _ hpp ⟨⟨a,rfl⟩,hpf⟩);rotate_right;(rintro _ hp2 ⟨rfl,hn2,⟨hb2,ha2,_,hle2⟩,hf2⟩;have hO2:=hf2.own (by omega);have hL2:=hf2.all (k:=k+2) (by omega);clear hf2))|((with_reducible apply Wo_call (f:=140));(iterate 5 exact Z5);(apply take (k+3) (by omega));(decide);(constructor);((conv=>lhs;simp -implicitDefEqProofs [*,-Int.natCast_add])<;>exact rfl);(exact Zc);(assumption);(omega);rotate_left;(rintro _ hpp ⟨⟨a,rfl⟩,hpf⟩);rotate_right;(rintro _ hp2 ⟨⟨tk2,tt2,tn2,ta2⟩,rfl,hn2,⟨hb2,ha2,_,hle2⟩,hf2⟩;have hO2:=hf2.own (by omega);have hL2:=hf2.all (k:=k+2) (by omega);clear hf2;simp only[Tok.row_mk]))|((with_reducible apply Wo_call (f:=280));(iterate 5 exact Z5);(apply expr_ok (k+3) (by omega));(omega);(constructor);((conv=>lhs;simp -implicitDefEqProofs [*,-Int.natCast_add])<;>exact rfl);(exact Zc);(assumption);(omega);rotate_left;(rintro _ hpp ⟨⟨a,rfl⟩,hpf⟩);rotate_right;(rintro _ hp2 ⟨⟨xk,xo,xn,xs,xl⟩,m2,rfl,hs2,hn2,⟨hb2,ha2,_,hle2⟩,hf2⟩;have hO2:=hf2.own (by omega);have hL2:=hf2.all (k:=k+2) (by omega);clear hf2;simp only[Ex_row_mk,Ex_size_mk] at*))|((with_reducible apply Wo_call (f:=325));(iterate 5 exact Z5);(apply args_ok (k+3) (by omega));(constructor);((conv=>lhs;simp -implicitDefEqProofs [*,-Int.natCast_add])<;>exact rfl);(exact Zc);(assumption);(omega);rotate_left;(rintro _ hpp ⟨⟨a,rfl⟩,hpf⟩);rotate_right;(rintro _ hp2 ⟨xl,m2,rfl,hs2,hn2,⟨hb2,ha2,_,hle2⟩,hf2⟩;have hO2:=hf2.own (by omega);have hL2:=hf2.all (k:=k+2) (by omega);clear hf2))|((with_reducible apply Wo_call (f:=137));(iterate 5 exact Z5);(apply fail (k+3) (by omega));(constructor);((conv=>lhs;simp -implicitDefEqProofs [*,-Int.natCast_add])<;>exact rfl);(exact Zc);(assumption);(omega);rotate_left;(rintro _ hpp ⟨⟨a,rfl⟩,hpf⟩);rotate_right;(rintro _ _ hf2;exact hf2.elim))|fail)
 ·exact⟨.mk 6 tt2 xl [] [],m2+1,by simp[*],by(try simp);try omega,by omega,⟨by simp[*],by simp[*],hlen,by omega⟩,fun d i c hd hne=>by have hd2:d≠k+3:=(by omega);simp[*]⟩
 ·exact⟨.mk 2 tt2 [.mk xk xo xn xs xl,.mk yk yo yn ys yl] [] [],m3+1,by simp[*],by(try simp);try omega,by omega,⟨by simp[*],by simp[*],hlen,by omega⟩,fun d i c hd hne=>by have hd2:d≠k+3:=(by omega);simp[*]⟩
 ·exact⟨.mk 1 tt2 [.mk xk xo xn xs xl] [] [],m2+1,by simp[*],by(try simp);try omega,by omega,⟨by simp[*],by simp[*],hlen,by omega⟩,fun d i c hd hne=>by have hd2:d≠k+3:=(by omega);simp[*]⟩
theorem stmt_w {T:List Tok}{e:Int}{q n gx gy:Nat}(D:Nat)(hD:2≤D)(d:Nat)(hp1:Hp)(ihB: ∀(D:Nat) (hD:2≤D) (d:Nat) (hp1:Hp) {n2:Nat} (hr:Rd T e q gx gy n2 hp1) (hn:n<n2),HB Tryz.prog E47 (Lm X46) D d 281 [.ptr ⟨1,q,0⟩ gx 0] hp1 (RSL T e q gx gy n2 D hp1) (Wr D q hp1))(hr:Rd T e q gx gy n hp1):HB Tryz.prog E47 (Lm X46) D d 211 [.ptr ⟨1,q,0⟩ gx 0] hp1 (RS T e q gx gy n D hp1) (Wr D q hp1):=by
 obtain⟨k,rfl⟩: ∃k,D=k+2:=⟨D - 2,by omega⟩
 clear hD
 refine lim_hpcBZk (k1:=k+3) (PR:=Wr (k+2) q hp1) rfl Tryz.func211 rfl rfl bodyOk_211 rfl rvs_211 rtys_211 ?_
 obtain⟨h1,h2,hlen,hle⟩:=hr
 repeat' (first|(refine ZN ?_)|(refine Z2 ?_ ?_)|(intro h h';try simp[*,-h] at h')|(exact⟨⟨_,rfl⟩,fun d i c hd hne=>(hpf d i c (by omega) hne).trans (by have hd2:d≠k+3:=(by omega);first|exact HF.out d i c hd hne|(simp[*];done)|(simp[*];exact HF.out d i c hd hne))⟩)|((with_reducible apply Wo_call (f:=138));(iterate 5 exact Z5);(apply may (k+3) (by omega));(decide);(constructor);((conv=>lhs;simp -implicitDefEqProofs [*,-Int.natCast_add])<;>exact rfl);(exact Zc);(assumption);(omega);rotate_left;(rintro _ hpp ⟨⟨a,rfl⟩,hpf⟩);rotate_right;(rintro _ hp2 (⟨rfl,⟨hb2,ha2,_,_⟩,hf2⟩|⟨rfl,hn2,⟨hb2,ha2,_,hle2⟩,hf2⟩)<;>(have hO2:=hf2.own (by omega);have hL2:=hf2.all (k:=k+2) (by omega);clear hf2)))|((with_reducible apply Wo_call (f:=141));(iterate 5 exact Z5);(apply must1 (k+3) (by omega));(exact Zc);(decide);(constructor);((conv=>lhs;simp -implicitDefEqProofs [*,-Int.natCast_add])<;>exact rfl);(exact Zc);(assumption);(omega);rotate_left;(rintro _ hpp ⟨⟨a,rfl⟩,hpf⟩);rotate_right;(rintro _ hp2 ⟨rfl,hn2,⟨hb2,ha2,_,hle2⟩,hf2⟩;have hO2:=hf2.own (by omega);have hL2:=hf2.all (k:=k+2) (by omega);clear hf2))|((with_reducible apply Wo_call (f:=141));(iterate 5 exact Z5);(apply must2 (k+3) (by omega));(exact Zc);(decide);(decide);(constructor);((conv=>lhs;simp -implicitDefEqProofs [*,-Int.natCast_add])<;>exact rfl);(exact Zc);(assumption);(omega);rotate_left;(rintro _ hpp ⟨⟨a,rfl⟩,hpf⟩);rotate_right;(rintro _ hp2 ⟨rfl,hn2,⟨hb2,ha2,_,hle2⟩,hf2⟩;have hO2:=hf2.own (by omega);have hL2:=hf2.all (k:=k+2) (by omega);clear hf2))|((with_reducible apply Wo_call (f:=140));(iterate 5 exact Z5);(apply take (k+3) (by omega));(decide);(constructor);((conv=>lhs;simp -implicitDefEqProofs [*,-Int.natCast_add])<;>exact rfl);(exact Zc);(assumption);(omega);rotate_left;(rintro _ hpp ⟨⟨a,rfl⟩,hpf⟩);rotate_right;(rintro _ hp2 ⟨⟨tk2,tt2,tn2,ta2⟩,rfl,hn2,⟨hb2,ha2,_,hle2⟩,hf2⟩;have hO2:=hf2.own (by omega);have hL2:=hf2.all (k:=k+2) (by omega);clear hf2;simp only[Tok.row_mk]))|((with_reducible apply Wo_call (f:=280));(iterate 5 exact Z5);(apply expr_ok (k+3) (by omega));(omega);(constructor);((conv=>lhs;simp -implicitDefEqProofs [*,-Int.natCast_add])<;>exact rfl);(exact Zc);(assumption);(omega);rotate_left;(rintro _ hpp ⟨⟨a,rfl⟩,hpf⟩);rotate_right;(rintro _ hp2 ⟨⟨xk,xo,xn,xs,xl⟩,m2,rfl,hs2,hn2,⟨hb2,ha2,_,hle2⟩,hf2⟩;have hO2:=hf2.own (by omega);have hL2:=hf2.all (k:=k+2) (by omega);clear hf2;simp only[Ex_row_mk,Ex_size_mk] at*))|((with_reducible apply Wo_call (f:=325));(iterate 5 exact Z5);(apply args_ok (k+3) (by omega));(constructor);((conv=>lhs;simp -implicitDefEqProofs [*,-Int.natCast_add])<;>exact rfl);(exact Zc);(assumption);(omega);rotate_left;(rintro _ hpp ⟨⟨a,rfl⟩,hpf⟩);rotate_right;(rintro _ hp2 ⟨xl,m2,rfl,hs2,hn2,⟨hb2,ha2,_,hle2⟩,hf2⟩;have hO2:=hf2.own (by omega);have hL2:=hf2.all (k:=k+2) (by omega);clear hf2))|((with_reducible apply Wo_call (f:=137));(iterate 5 exact Z5);(apply fail (k+3) (by omega));(constructor);((conv=>lhs;simp -implicitDefEqProofs [*,-Int.natCast_add])<;>exact rfl);(exact Zc);(assumption);(omega);rotate_left;(rintro _ hpp ⟨⟨a,rfl⟩,hpf⟩);rotate_right;(rintro _ _ hf2;exact hf2.elim))|((with_reducible apply Wo_call (f:=279));(iterate 5 exact Z5);(apply round (k+3) (by omega));(constructor);((conv=>lhs;simp -implicitDefEqProofs [*,-Int.natCast_add])<;>exact rfl);(exact Zc);(assumption);(omega);rotate_left;(rintro _ hpp ⟨⟨a,rfl⟩,hpf⟩);rotate_right;(rintro _ hp2 ⟨rx,m2,rfl,hs2,hn2,⟨hb2,ha2,_,hle2⟩,hf2⟩;have hO2:=hf2.own (by omega);have hL2:=hf2.all (k:=k+2) (by omega);clear hf2))|((fail_if_success (have hbl:=bl));((with_reducible apply Wo_call (f:=281));(iterate 5 exact Z5);(apply ihB (k+3) (by omega));(constructor);((conv=>lhs;simp -implicitDefEqProofs [*,-Int.natCast_add])<;>exact rfl);(exact Zc);(assumption);(omega);(omega);rotate_left;(rintro _ hpp ⟨⟨a,rfl⟩,hpf⟩);rotate_right;(rintro _ hp2 ⟨bl,m2,rfl,hs2,hn2,⟨hb2,ha2,_,hle2⟩,hf2⟩;have hO2:=hf2.own (by omega);have hL2:=hf2.all (k:=k+2) (by omega);clear hf2)))|((with_reducible apply Wo_call (f:=281));(iterate 5 exact Z5);(apply ihB (k+3) (by omega));(constructor);((conv=>lhs;simp -implicitDefEqProofs [*,-Int.natCast_add])<;>exact rfl);(exact Zc);(assumption);(omega);(omega);rotate_left;(rintro _ hpp ⟨⟨a,rfl⟩,hpf⟩);rotate_right;(rintro _ hp2 ⟨bl2,m2,rfl,hs2,hn2,⟨hb2,ha2,_,hle2⟩,hf2⟩;have hO2:=hf2.own (by omega);have hL2:=hf2.all (k:=k+2) (by omega);clear hf2))|((with_reducible apply Wo_call (f:=282));(iterate 5 exact Z5);(apply named (k+3) (by omega));(constructor);((conv=>lhs;simp -implicitDefEqProofs [*,-Int.natCast_add])<;>exact rfl);(exact Zc);(assumption);(omega);rotate_left;(rintro _ hpp ⟨⟨a,rfl⟩,hpf⟩);rotate_right;(rintro _ hp2 ⟨⟨sk,sn,se,sth,sel⟩,m2,rfl,hs2,hn2,⟨hb2,ha2,_,hle2⟩,hf2⟩;have hO2:=hf2.own (by omega);have hL2:=hf2.all (k:=k+2) (by omega);clear hf2;simp only[St_row_mk,St_size_mk] at*))|fail)
 ·exact⟨.mk sk sn se sth sel,m2,by simp[*],by(try simp);try omega,by omega,⟨by simp[*],by simp[*],hlen,by omega⟩,fun d i c hd hne=>by have hd2:d≠k+3:=(by omega);simp[*]⟩
 ·exact⟨.mk 5 tx0 [rx] bl [],m2,by simp[*],by(try simp);try omega,by omega,⟨by simp[*],by simp[*],hlen,by omega⟩,fun d i c hd hne=>by have hd2:d≠k+3:=(by omega);simp[*]⟩
 ·exact⟨.mk 4 tx0 [rx] bl [],m2,by simp[*],by(try simp);try omega,by omega,⟨by simp[*],by simp[*],hlen,by omega⟩,fun d i c hd hne=>by have hd2:d≠k+3:=(by omega);simp[*]⟩
 ·exact⟨.mk 4 tx0 [rx] bl bl2,m2,by simp[*],by(try simp);try omega,by omega,⟨by simp[*],by simp[*],hlen,by omega⟩,fun d i c hd hne=>by have hd2:d≠k+3:=(by omega);simp[*]⟩
 ·exact⟨.mk 7 tx0 [.mk xk xo xn xs xl] [] [],m2+1,by simp[*],by(try simp);try omega,by omega,⟨by simp[*],by simp[*],hlen,by omega⟩,fun d i c hd hne=>by have hd2:d≠k+3:=(by omega);simp[*]⟩
 ·exact⟨.mk 7 tx0 [] [] [],n+1+1,by simp[*],by(try simp);try omega,by omega,⟨by simp[*],by simp[*],hlen,by omega⟩,fun d i c hd hne=>by have hd2:d≠k+3:=(by omega);simp[*]⟩
 ·exact⟨.mk 3 tx0 [rx] [] [],m2+1,by simp[*],by(try simp);try omega,by omega,⟨by simp[*],by simp[*],hlen,by omega⟩,fun d i c hd hne=>by have hd2:d≠k+3:=(by omega);simp[*]⟩
theorem stmts_all (T:List Tok)(e:Int)(q gx gy:Nat): ∀m n:Nat,T.length+1 - n≤m→
  (∀(D:Nat) (hD:2≤D) (d:Nat) (hp1:Hp) (hr:Rd T e q gx gy n hp1),HB Tryz.prog E47 (Lm X46) D d 281 [.ptr ⟨1,q,0⟩ gx 0] hp1 (RSL T e q gx gy n D hp1) (Wr D q hp1))∧
  (∀(D:Nat) (hD:2≤D) (d:Nat) (hp1:Hp) (hr:Rd T e q gx gy n hp1),HB Tryz.prog E47 (Lm X46) D d 211 [.ptr ⟨1,q,0⟩ gx 0] hp1 (RS T e q gx gy n D hp1) (Wr D q hp1))∧
  (∀(D:Nat) (hD:2≤D) (d:Nat) (hp1:Hp) (hr:Rd T e q gx gy n hp1),HB Tryz.prog E47 (Lm X46) D d 169 [.ptr ⟨1,q,0⟩ gx 0] hp1 (RSL T e q gx gy n D hp1) (Wr D q hp1)):=by
 intro m
 induction m using Nat.strongRecOn with
 |_ m ih=>
  intro n hm
  have hS: ∀(D:Nat) (hD:2≤D) (d:Nat) (hp1:Hp) (hr:Rd T e q gx gy n hp1),HB Tryz.prog E47 (Lm X46) D d 211 [.ptr ⟨1,q,0⟩ gx 0] hp1 (RS T e q gx gy n D hp1) (Wr D q hp1):=
   fun D hD d hp1 hr=>stmt_w D hD d hp1 (fun D hD d hp1 n2 hr hn=>(ih (T.length+1 - n2) (by have:=hr.le;omega) n2 (Nat.le_refl _)).1 D hD d hp1 hr) hr
  exact⟨fun D hD d hp1 hr=>body_w D hD d hp1 (fun D hD d hp1 n2 hr hn=>(ih (T.length+1 - n2) (by have:=hr.le;omega) n2 (Nat.le_refl _)).2.2 D hD d hp1 hr) hr,hS,
   fun D hD d hp1 hr=>stmts_w D hD d hp1 (fun D hD d hp1 n2 hr hn=>by
    by_cases h:n=n2
    ·subst h;exact hS D hD d hp1 hr
    ·exact(ih (T.length+1 - n2) (by have:=hr.le;omega) n2 (Nat.le_refl _)).2.1 D hD d hp1 hr) hr⟩
theorem stmts_ok {T:List Tok}{e:Int}{q gx gy n:Nat}(D:Nat)(hD:2≤D)(d:Nat)(hp1:Hp)(hr:Rd T e q gx gy n hp1):HB Tryz.prog E47 (Lm X46) D d 169 [.ptr ⟨1,q,0⟩ gx 0] hp1 (RSL T e q gx gy n D hp1) (Wr D q hp1):=
 (stmts_all T e q gx gy _ n (Nat.le_refl _)).2.2 D hD d hp1 hr
def RF (T:List Tok)(e:Int)(q gx gy n D:Nat)(hp1:Hp)(v:AV)(hp2:Hp):Prop:= ∃(x:Sy.Fu) (n2:Nat),v= .agg x.row∧n+x.size≤n2∧n<n2∧Rd T e q gx gy n2 hp2∧Far D q hp1 hp2
theorem fun_w {T:List Tok}{e:Int}{q n gx gy:Nat}(D:Nat)(hD:2≤D)(d:Nat)(hp1:Hp)(hr:Rd T e q gx gy n hp1):HB Tryz.prog E47 (Lm X46) D d 142 [.ptr ⟨1,q,0⟩ gx 0] hp1 (RF T e q gx gy n D hp1) (Wr D q hp1):=by
 obtain⟨k,rfl⟩: ∃k,D=k+2:=⟨D - 2,by omega⟩
 clear hD
 refine lim_hpcBZk (k1:=k+3) (PR:=Wr (k+2) q hp1) rfl Tryz.func142 rfl rfl bodyOk_142 rfl rvs_142 rtys_142 ?_
 obtain⟨h1,h2,hlen,hle⟩:=hr
 repeat' (first|(refine ZN ?_)|(refine Z2 ?_ ?_)|(intro h h';try simp[*,-h] at h')|(exact⟨⟨_,rfl⟩,fun d i c hd hne=>(hpf d i c (by omega) hne).trans (by have hd2:d≠k+3:=(by omega);first|exact HF.out d i c hd hne|(simp[*];done)|(simp[*];exact HF.out d i c hd hne))⟩)|((with_reducible apply Wo_call (f:=138));(iterate 5 exact Z5);(apply may (k+3) (by omega));(decide);(constructor);((conv=>lhs;simp -implicitDefEqProofs [*,-Int.natCast_add])<;>exact rfl);(exact Zc);(assumption);(omega);rotate_left;(rintro _ hpp ⟨⟨a,rfl⟩,hpf⟩);rotate_right;(rintro _ hp2 (⟨rfl,⟨hb2,ha2,_,_⟩,hf2⟩|⟨rfl,hn2,⟨hb2,ha2,_,hle2⟩,hf2⟩)<;>(have hO2:=hf2.own (by omega);have hL2:=hf2.all (k:=k+2) (by omega);clear hf2)))|((with_reducible apply Wo_call (f:=141));(iterate 5 exact Z5);(apply must1 (k+3) (by omega));(exact Zc);(decide);(constructor);((conv=>lhs;simp -implicitDefEqProofs [*,-Int.natCast_add])<;>exact rfl);(exact Zc);(assumption);(omega);rotate_left;(rintro _ hpp ⟨⟨a,rfl⟩,hpf⟩);rotate_right;(rintro _ hp2 ⟨rfl,hn2,⟨hb2,ha2,_,hle2⟩,hf2⟩;have hO2:=hf2.own (by omega);have hL2:=hf2.all (k:=k+2) (by omega);clear hf2))|((with_reducible apply Wo_call (f:=140));(iterate 5 exact Z5);(apply take (k+3) (by omega));(decide);(constructor);((conv=>lhs;simp -implicitDefEqProofs [*,-Int.natCast_add])<;>exact rfl);(exact Zc);(assumption);(omega);rotate_left;(rintro _ hpp ⟨⟨a,rfl⟩,hpf⟩);rotate_right;(rintro _ hp2 ⟨⟨tk2,tt2,tn2,ta2⟩,rfl,hn2,⟨hb2,ha2,_,hle2⟩,hf2⟩;have hO2:=hf2.own (by omega);have hL2:=hf2.all (k:=k+2) (by omega);clear hf2;simp only[Tok.row_mk]))|((with_reducible apply Wo_call (f:=168));(iterate 5 exact Z5);(apply kind (k+3) (by omega));(constructor);((conv=>lhs;simp -implicitDefEqProofs [*,-Int.natCast_add])<;>exact rfl);(exact Zc);(assumption);(omega);rotate_left;(rintro _ hpp ⟨⟨a,rfl⟩,hpf⟩);rotate_right;(rintro _ hp2 ⟨rfl,⟨hb2,ha2,_,_⟩,hf2⟩;have hO2:=hf2.own (by omega);have hL2:=hf2.all (k:=k+2) (by omega);clear hf2))|((with_reducible apply Wo_call (f:=139));(iterate 5 exact Z5);(apply names (k+3) (by omega));(constructor);((conv=>lhs;simp -implicitDefEqProofs [*,-Int.natCast_add])<;>exact rfl);(exact Zc);(assumption);(omega);rotate_left;(rintro _ hpp ⟨⟨a,rfl⟩,hpf⟩);rotate_right;(rintro _ hp2 ⟨nl2,m2,rfl,hs2,hn2,⟨hb2,ha2,_,hle2⟩,hf2⟩;have hO2:=hf2.own (by omega);have hL2:=hf2.all (k:=k+2) (by omega);clear hf2))|fail)
 all_goals (refine W_loopS (n:=T.length+1 - n) (fun s0 m s=> ∃(n2 g2 g5:Nat) (ls ps:List Tx) (c1:AV) (w:Bool) (nm:Tx),T.length+1 - n2≤m∧n+ps.length+ls.length+1≤n2∧s.fr 0= .ptr ⟨1,q,0⟩ gx 0∧s.fr 2= .ptr ⟨k+3,2,0⟩ ((hp1 ⟨k+3,2,0⟩).gen+1) 0∧s.fr 3= .ptr ⟨k+3,3,0⟩ ((hp1 ⟨k+3,3,0⟩).gen+1) 0∧
   s.hp ⟨k+3,3,0⟩= .box ((hp1 ⟨k+3,3,0⟩).gen+1) [tv nm,c1,.own ⟨k+3,3,3⟩ g2 ls.length,bv w,.own ⟨k+3,3,5⟩ g5 0] false∧s.hp ⟨k+3,3,3⟩= .arr g2 1 9 (txRows ls) false∧s.hp ⟨k+3,3,5⟩= .arr g5 5 298 [] false∧
   (c1= .sl false 1 (txRows ps)∨(ps=[]∧ ∃g',c1= .own ⟨k+3,3,2⟩ g' 0∧s.hp ⟨k+3,3,2⟩= .arr g' 1 9 [] false))∧
   s.hp ⟨k+3,2,0⟩= .box ((hp1 ⟨k+3,2,0⟩).gen+1) [tv ⟨⟨[]⟩⟩,.own ⟨k+3,2,2⟩ ((hp1 ⟨k+3,2,2⟩).gen+1) 0,.own ⟨k+3,2,3⟩ ((hp1 ⟨k+3,2,3⟩).gen+1) 0,bv false,.own ⟨k+3,2,5⟩ ((hp1 ⟨k+3,2,5⟩).gen+1) 0] false∧Rd T e q gx gy n2 s.hp∧Far (k+2) q hp1 s.hp) ?_ ?_;(first
  |(exact⟨m2+1+1+1,(hp1 ⟨k+3,3,3⟩).gen+1,(hp1 ⟨k+3,3,5⟩).gen+1,[],nl2,.sl false 1 (txRows nl2),true,tt2,by omega,by(try simp);try omega,by simp[*],by simp[*],by simp[*],by simp[*];done,by simp[*],by simp[*],.inl rfl,by simp[*],⟨by simp[*];done,by simp[*],hlen,by omega⟩,fun d i c hd hne=>by have hd2:d≠k+3:=(by omega);simp[*]⟩)
  |(exact⟨m2+1+1,(hp1 ⟨k+3,3,3⟩).gen+1,(hp1 ⟨k+3,3,5⟩).gen+1,[],nl2,.sl false 1 (txRows nl2),false,tt2,by omega,by(try simp);try omega,by simp[*],by simp[*],by simp[*],by simp[*];done,by simp[*],by simp[*],.inl rfl,by simp[*],⟨by simp[*];done,by simp[*],hlen,by omega⟩,fun d i c hd hne=>by have hd2:d≠k+3:=(by omega);simp[*]⟩)
  |(exact⟨n+1+1+1+1+1+1,(hp1 ⟨k+3,3,3⟩).gen+1,(hp1 ⟨k+3,3,5⟩).gen+1,[],[],.own ⟨k+3,3,2⟩ ((hp1 ⟨k+3,3,2⟩).gen+1) 0,true,tt2,by omega,by(try simp);try omega,by simp[*],by simp[*],by simp[*],by simp[*];done,by simp[*],by simp[*],.inr ⟨rfl,_,rfl,by simp[*]⟩,by simp[*],⟨by simp[*];done,by simp[*],hlen,by omega⟩,fun d i c hd hne=>by have hd2:d≠k+3:=(by omega);simp[*]⟩)
  |(exact⟨n+1+1+1+1+1,(hp1 ⟨k+3,3,3⟩).gen+1,(hp1 ⟨k+3,3,5⟩).gen+1,[],[],.own ⟨k+3,3,2⟩ ((hp1 ⟨k+3,3,2⟩).gen+1) 0,false,tt2,by omega,by(try simp);try omega,by simp[*],by simp[*],by simp[*],by simp[*];done,by simp[*],by simp[*],.inr ⟨rfl,_,rfl,by simp[*]⟩,by simp[*],⟨by simp[*];done,by simp[*],hlen,by omega⟩,fun d i c hd hne=>by have hd2:d≠k+3:=(by omega);simp[*]⟩)))
 all_goals clear h1 h2 hb2 ha2 hO2 hL2
 all_goals rintro m ⟨fr,hp⟩ ⟨n2,g2,g5,ls,ps,c1,w,nm,hmm,hnl,f0,f2,f3,b3,a3,a5,hc1,b2,⟨hb,ha,_,hle3⟩,hfar⟩
 all_goals simp at f0 f2 f3 b3 a3 a5 hc1 b2 ha hfar
 all_goals simp only at hb
 all_goals have HF:=Lib.hid hfar
 all_goals clear hfar
 all_goals have t3:=tx_take ls
 all_goals rcases hc1 with rfl|⟨rfl,g',rfl,a2⟩
 all_goals
  repeat' (first|((apply W_srdB (c:=3) (idx:=[0,1,2]) (d:=34));(kernel_rfl);(kernel_rfl);(simp only[List.map_cons,List.map_nil,Array.getD_eq_getD_getElem?,List.getElem?_toArray,List.getElem?_cons_zero,List.getElem?_cons_succ,Option.getD_some]);(repeat' (first|exact Free.nil|((with_reducible apply Free_cons);(exact Zc))));(exact rfl);(exact Zc);(exact okFn_139);(decide);(exact Zc);(apply names (k+3) (by omega));(constructor);((conv=>lhs;simp -implicitDefEqProofs [*,-Int.natCast_add])<;>exact rfl);(exact Zc);(assumption);(omega);rotate_left;(rintro _ hpp ⟨⟨a,rfl⟩,hpf⟩);rotate_right;(rintro _ hp2 h1c ⟨nl3,m2,rfl,hs2,hn2,⟨hb2,ha2,_,hle2⟩,hf2⟩;have hO2:=hf2.own (by omega);have hL2:=hf2.all (k:=k+2) (by omega);clear hf2;have b1:(ls.length+nl3.length)*16≤140737488355328:=(by omega);have b2:ls.length+nl3.length≤9223372036854775807:=(by omega));(refine W_srdl (by kernel_rfl) ?_);(repeat (first|((with_reducible apply Wd_u);(exact Zc))|((with_reducible apply Wd_n);(exact Zc))));(with_reducible apply Wd_nil);(apply drawF_of (ps:=[(0,2),(1,2),(0,3),(1,3)]));(kernel_rfl);(iterate 2 refine Zk ?_);(refine List.forall_mem_cons.2 ⟨?_,?_⟩);((focus (refine apart_r (by simp) (by simp) rfl ?_;(repeat' (refine List.forall_mem_cons.2 ⟨⟨trivial,rfl,by simp[Facet.nm],by simp[Facet.nm],by simp[Facet.nm],by simp[Facet.nm, *]⟩,?_⟩));exact fun y hy=>by cases hy)));(refine List.forall_mem_cons.2 ⟨?_,?_⟩);((focus (refine apart_r (by simp) (by simp) rfl ?_;(repeat' (refine List.forall_mem_cons.2 ⟨⟨trivial,rfl,by simp[Facet.nm],by simp[Facet.nm],by simp[Facet.nm],by simp[Facet.nm, *]⟩,?_⟩));exact fun y hy=>by cases hy)));(exact Zz))|(refine Z1 ?_)|(refine Z2 ?_ ?_)|(intro h h';try simp[*,-h] at h')|(exact⟨⟨_,rfl⟩,fun d i c hd hne=>(hpf d i c (by omega) hne).trans (by have hd2:d≠k+3:=(by omega);first|exact HF.out d i c hd hne|(simp[*];done)|(simp[*];exact HF.out d i c hd hne))⟩)|((with_reducible apply Wo_call (f:=138));(iterate 5 exact Z5);(apply may (k+3) (by omega));(decide);(constructor);((conv=>lhs;simp -implicitDefEqProofs [*,-Int.natCast_add])<;>exact rfl);(exact Zc);(assumption);(omega);rotate_left;(rintro _ hpp ⟨⟨a,rfl⟩,hpf⟩);rotate_right;(rintro _ hp2 (⟨rfl,⟨hb2,ha2,_,_⟩,hf2⟩|⟨rfl,hn2,⟨hb2,ha2,_,hle2⟩,hf2⟩)<;>(have hO2:=hf2.own (by omega);have hL2:=hf2.all (k:=k+2) (by omega);clear hf2)))|((with_reducible apply Wo_call (f:=141));(iterate 5 exact Z5);(apply must1 (k+3) (by omega));(exact Zc);(decide);(constructor);((conv=>lhs;simp -implicitDefEqProofs [*,-Int.natCast_add])<;>exact rfl);(exact Zc);(assumption);(omega);rotate_left;(rintro _ hpp ⟨⟨a,rfl⟩,hpf⟩);rotate_right;(rintro _ hp2 ⟨rfl,hn2,⟨hb2,ha2,_,hle2⟩,hf2⟩;have hO2:=hf2.own (by omega);have hL2:=hf2.all (k:=k+2) (by omega);clear hf2))|((with_reducible apply Wo_call (f:=169));(iterate 5 exact Z5);(apply stmts_ok (k+3) (by omega));(constructor);((conv=>lhs;simp -implicitDefEqProofs [*,-Int.natCast_add])<;>exact rfl);(exact Zc);(assumption);(omega);rotate_left;(rintro _ hpp ⟨⟨a,rfl⟩,hpf⟩);rotate_right;(rintro _ hp2 ⟨sl,m2,rfl,hs2,hn2,⟨hb2,ha2,_,hle2⟩,hf2⟩;have hO2:=hf2.own (by omega);have hL2:=hf2.all (k:=k+2) (by omega);clear hf2))|fail)
 all_goals have hfar:=HF.out
 all_goals first
  |(exact⟨⟨nm,ps,ls,w,sl⟩,m2,by simp[Sy.Fu.row, *],by(try simp[Sy.Fu.size] at*);omega,by omega,⟨by simp[*],by simp[*],hlen,by omega⟩,fun d i c hd hne=>by have hd2:d≠k+3:=(by omega);simp[*];exact hfar d i c hd hne⟩)
  |(exact⟨⟨nm,[],ls,w,sl⟩,m2,by simp[Sy.Fu.row, *],by(try simp[Sy.Fu.size] at*);omega,by omega,⟨by simp[*],by simp[*],hlen,by omega⟩,fun d i c hd hne=>by have hd2:d≠k+3:=(by omega);simp[*];exact hfar d i c hd hne⟩)
  |(exact⟨T.length+1 - (m2+1),by omega,m2+1,g2+1,g5,ls++nl3,ps,.sl false 1 (txRows ps),w,nm,by omega,by(try simp at*);omega,by simp[*],by simp[*],by simp[*],by simp[*];done,by simp[*],by simp[*],.inl rfl,by simp[*],⟨by simp[*];done,by simp[*],hlen,by omega⟩,fun d i c hd hne=>by have hd2:d≠k+3:=(by omega);simp[*];exact hfar d i c hd hne⟩)
  |(exact⟨T.length+1 - (m2+1),by omega,m2+1,g2+1,g5,ls++nl3,[],.own ⟨k+3,3,2⟩ g' 0,w,nm,by omega,by(try simp at*);omega,by simp[*],by simp[*],by simp[*],by simp[*];done,by simp[*],by simp[*],(.inr ⟨rfl,g',rfl,by simp[*]⟩),by simp[*],⟨by simp[*];done,by simp[*],hlen,by omega⟩,fun d i c hd hne=>by have hd2:d≠k+3:=(by omega);simp[*];exact hfar d i c hd hne⟩)
@[simp] theorem Fu_row_mk (nm:Tx)(ps ls:List Tx)(w:Bool)(b:List Sy.St):(Sy.Fu.mk nm ps ls w b).row=[tz nm.1,.sl false 1 (txRows ps),.sl false 1 (txRows ls),bz w,.sl false 5 (stRows b)]:=rfl
@[simp] theorem Fu_size_mk (nm:Tx)(ps ls:List Tx)(w:Bool)(b:List Sy.St):(Sy.Fu.mk nm ps ls w b).size=ps.length+ls.length+stSize b+1:=rfl
def RP (T:List Tok)(e:Int)(q gx gy n D:Nat)(hp1:Hp)(v:AV)(hp2:Hp):Prop:= ∃(x:Sy.Pr) (n2:Nat),v= .agg x.row∧n+x.size≤n2∧Rd T e q gx gy n2 hp2∧Far D q hp1 hp2
theorem ar_take (l:List (Tx×Int)):(arRows l).take l.length=arRows l:=by rw[List.take_of_length_le (by simp[arRows])]
theorem ar_len (l:List (Tx×Int)):(arRows l).length=l.length:=by simp[arRows]
theorem ar_snoc (l:List (Tx×Int))(s:Tx)(z:Int):arRows (l++[(s,z)])=arRows l++[[tz s.1,iz z]]:=by simp[arRows]
theorem fu_take (l:List Sy.Fu):(l.map Sy.Fu.row).take l.length=l.map Sy.Fu.row:=by rw[List.take_of_length_le (by simp)]
theorem prog_w {T:List Tok}{e:Int}{q n gx gy:Nat}(D:Nat)(hD:2≤D)(d:Nat)(hp1:Hp)(hr:Rd T e q gx gy n hp1):HB Tryz.prog E47 (Lm X46) D d 119 [.ptr ⟨1,q,0⟩ gx 0] hp1 (RP T e q gx gy n D hp1) (Wr D q hp1):=by
 obtain⟨k,rfl⟩: ∃k,D=k+2:=⟨D - 2,by omega⟩
 clear hD
 refine lim_hpcBZk (k1:=k+3) (PR:=Wr (k+2) q hp1) rfl Tryz.func119 rfl rfl bodyOk_119 rfl rvs_119 rtys_119 ?_
 obtain⟨h1,h2,hlen,hle⟩:=hr
 repeat' (first|(refine ZN ?_)|(refine Z2 ?_ ?_)|(intro h h';try simp[*,-h] at h')|(exact⟨⟨_,rfl⟩,fun d i c hd hne=>(hpf d i c (by omega) hne).trans (by have hd2:d≠k+3:=(by omega);first|exact HF.out d i c hd hne|(simp[*];done)|(simp[*];exact HF.out d i c hd hne))⟩)|fail)
 refine W_loopS (n:=T.length+1 - n) (fun s0 m s=> ∃(n2 gv ga gf:Nat) (vs:List Tx) (ar:List (Tx×Int)),T.length+1 - n2≤m∧n+vs.length+ar.length≤n2∧s.fr 0= .ptr ⟨1,q,0⟩ gx 0∧s.fr 2= .ptr ⟨k+3,2,0⟩ ((hp1 ⟨k+3,2,0⟩).gen+1) 0∧s.fr 3= .ptr ⟨k+3,3,0⟩ ((hp1 ⟨k+3,3,0⟩).gen+1) 0∧s.hp ⟨k+3,3,0⟩= .box ((hp1 ⟨k+3,3,0⟩).gen+1) [.own ⟨k+3,3,1⟩ gv vs.length,.own ⟨k+3,3,2⟩ ga ar.length,.own ⟨k+3,3,3⟩ gf 0] false∧s.hp ⟨k+3,3,1⟩= .arr gv 1 9 (txRows vs) false∧s.hp ⟨k+3,3,2⟩= .arr ga 2 227 (arRows ar) false∧s.hp ⟨k+3,3,3⟩= .arr gf 5 230 [] false∧s.hp ⟨k+3,2,0⟩= .box ((hp1 ⟨k+3,2,0⟩).gen+1) [.own ⟨k+3,2,1⟩ ((hp1 ⟨k+3,2,1⟩).gen+1) 0,.own ⟨k+3,2,2⟩ ((hp1 ⟨k+3,2,2⟩).gen+1) 0,.own ⟨k+3,2,3⟩ ((hp1 ⟨k+3,2,3⟩).gen+1) 0] false∧Rd T e q gx gy n2 s.hp∧Far (k+2) q hp1 s.hp) ⟨n,(hp1 ⟨k+3,3,1⟩).gen+1,(hp1 ⟨k+3,3,2⟩).gen+1,(hp1 ⟨k+3,3,3⟩).gen+1,[],[],by omega,by simp,by simp,by simp,by simp,by simp;done,by simp,by simp[arRows],by simp,by simp,⟨by simp[*],by simp[*],hlen,hle⟩,fun d i c hd hne=>by have hd2:d≠k+3:=(by omega);simp[*]⟩ ?_
 clear h1 h2
 rintro m ⟨fr,hp⟩ ⟨n2,gv,ga,gf,vs,ar,hmm,hnl,f0,f2,f3,b3,a1,a2,a3,b2,⟨hb,ha,_,hle3⟩,hfar⟩
 simp at f0 f2 f3 b3 a1 a2 a3 b2 ha hfar
 simp only at hb
 have HF:=Lib.hid hfar
 have t1:=tx_take vs
 have t2:=ar_take ar
 have t4:=ar_len ar
 have t6:=ar_snoc ar
 clear hfar
 have x1:(ar.length+1)*24≤140737488355328:=by omega
 have x2:ar.length≤9223372036854775806:=by omega
 repeat' (first|((apply W_srdB (c:=3) (idx:=[0,1,2]) (d:=11));(kernel_rfl);(kernel_rfl);(simp only[List.map_cons,List.map_nil,Array.getD_eq_getD_getElem?,List.getElem?_toArray,List.getElem?_cons_zero,List.getElem?_cons_succ,Option.getD_some]);(repeat' (first|exact Free.nil|((with_reducible apply Free_cons);(exact Zc))));(exact rfl);(exact Zc);(exact okFn_139);(decide);(exact Zc);(apply names (k+3) (by omega));(constructor);((conv=>lhs;simp -implicitDefEqProofs [*,-Int.natCast_add])<;>exact rfl);(exact Zc);(assumption);(omega);rotate_left;(rintro _ hpp ⟨⟨a,rfl⟩,hpf⟩);rotate_right;(rintro _ hp2 h1c ⟨nl3,m2,rfl,hs2,hn2,⟨hb2,ha2,_,hle2⟩,hf2⟩;have hO2:=hf2.own (by omega);have hL2:=hf2.all (k:=k+2) (by omega);clear hf2;have b1:(vs.length+nl3.length)*16≤140737488355328:=(by omega);have b2:vs.length+nl3.length≤9223372036854775807:=(by omega));(refine W_srdl (by kernel_rfl) ?_);(repeat (first|((with_reducible apply Wd_u);(exact Zc))|((with_reducible apply Wd_n);(exact Zc))));(with_reducible apply Wd_nil);(apply drawF_of (ps:=[(0,2),(1,2),(0,3),(1,3)]));(kernel_rfl);(iterate 2 refine Zk ?_);(refine List.forall_mem_cons.2 ⟨?_,?_⟩);((focus (refine apart_r (by simp) (by simp) rfl ?_;(repeat' (refine List.forall_mem_cons.2 ⟨⟨trivial,rfl,by simp[Facet.nm],by simp[Facet.nm],by simp[Facet.nm],by simp[Facet.nm, *]⟩,?_⟩));exact fun y hy=>by cases hy)));(refine List.forall_mem_cons.2 ⟨?_,?_⟩);((focus (refine apart_r (by simp) (by simp) rfl ?_;(repeat' (refine List.forall_mem_cons.2 ⟨⟨trivial,rfl,by simp[Facet.nm],by simp[Facet.nm],by simp[Facet.nm],by simp[Facet.nm, *]⟩,?_⟩));exact fun y hy=>by cases hy)));(exact Zz))|((apply W_srdB (c:=3) (idx:=[0,1,2]) (d:=43));(kernel_rfl);(kernel_rfl);(simp only[List.map_cons,List.map_nil,Array.getD_eq_getD_getElem?,List.getElem?_toArray,List.getElem?_cons_zero,List.getElem?_cons_succ,Option.getD_some]);(repeat' (first|exact Free.nil|((with_reducible apply Free_cons);(exact Zc))));(exact rfl);(exact Zc);(exact okFn_142);(decide);(exact Zc);(apply fun_w (k+3) (by omega));(constructor);((conv=>lhs;simp -implicitDefEqProofs [*,-Int.natCast_add])<;>exact rfl);(exact Zc);(assumption);(omega);rotate_left;(rintro _ hpp ⟨⟨a,rfl⟩,hpf⟩);rotate_right;(rintro _ hp2 h1c ⟨⟨fn,fp,fl,fw,fb⟩,m2,rfl,hs2,hn2,⟨hb2,ha2,_,hle2⟩,hf2⟩;have hO2:=hf2.own (by omega);have hL2:=hf2.all (k:=k+2) (by omega);clear hf2;simp only[Fu_row_mk,Fu_size_mk] at*);(refine W_srdl (by kernel_rfl) ?_);(repeat (first|((with_reducible apply Wd_u);(exact Zc))|((with_reducible apply Wd_n);(exact Zc))));(with_reducible apply Wd_nil);(apply drawF_of (ps:=[(0,2),(1,2),(0,3),(1,3),(0,4),(1,4)]));(kernel_rfl);(iterate 2 refine Zk ?_);(refine List.forall_mem_cons.2 ⟨?_,?_⟩);((focus (refine apart_r (by simp) (by simp) rfl ?_;(repeat' (refine List.forall_mem_cons.2 ⟨⟨trivial,rfl,by simp[Facet.nm],by simp[Facet.nm],by simp[Facet.nm],by simp[Facet.nm, *]⟩,?_⟩));exact fun y hy=>by cases hy)));(refine List.forall_mem_cons.2 ⟨?_,?_⟩);((focus (refine apart_r (by simp) (by simp) rfl ?_;(repeat' (refine List.forall_mem_cons.2 ⟨⟨trivial,rfl,by simp[Facet.nm],by simp[Facet.nm],by simp[Facet.nm],by simp[Facet.nm, *]⟩,?_⟩));exact fun y hy=>by cases hy)));(iterate 2 refine Zs ?_);(exact Zz))|(refine Z1 ?_)|(refine Z2 ?_ ?_)|(intro h h';try simp[*,-h] at h')|(exact⟨⟨_,rfl⟩,fun d i c hd hne=>(hpf d i c (by omega) hne).trans (by have hd2:d≠k+3:=(by omega);first|exact HF.out d i c hd hne|(simp[*];done)|(simp[*];exact HF.out d i c hd hne))⟩)|((with_reducible apply Wo_call (f:=138));(iterate 5 exact Z5);(apply may (k+3) (by omega));(decide);(constructor);((conv=>lhs;simp -implicitDefEqProofs [*,-Int.natCast_add])<;>exact rfl);(exact Zc);(assumption);(omega);rotate_left;(rintro _ hpp ⟨⟨a,rfl⟩,hpf⟩);rotate_right;(rintro _ hp2 (⟨rfl,⟨hb2,ha2,_,_⟩,hf2⟩|⟨rfl,hn2,⟨hb2,ha2,_,hle2⟩,hf2⟩)<;>(have hO2:=hf2.own (by omega);have hL2:=hf2.all (k:=k+2) (by omega);clear hf2)))|((with_reducible apply Wo_call (f:=141));(iterate 5 exact Z5);(apply must1 (k+3) (by omega));(exact Zc);(decide);(constructor);((conv=>lhs;simp -implicitDefEqProofs [*,-Int.natCast_add])<;>exact rfl);(exact Zc);(assumption);(omega);rotate_left;(rintro _ hpp ⟨⟨a,rfl⟩,hpf⟩);rotate_right;(rintro _ hp2 ⟨rfl,hn2,⟨hb2,ha2,_,hle2⟩,hf2⟩;have hO2:=hf2.own (by omega);have hL2:=hf2.all (k:=k+2) (by omega);clear hf2))|((fail_if_success (have hbl:=tt1));((with_reducible apply Wo_call (f:=140));(iterate 5 exact Z5);(apply take (k+3) (by omega));(decide);(constructor);((conv=>lhs;simp -implicitDefEqProofs [*,-Int.natCast_add])<;>exact rfl);(exact Zc);(assumption);(omega);rotate_left;(rintro _ hpp ⟨⟨a,rfl⟩,hpf⟩);rotate_right;(rintro _ hp2 ⟨⟨tk1,tt1,tn1,ta1⟩,rfl,hn2,⟨hb2,ha2,_,hle2⟩,hf2⟩;have hO2:=hf2.own (by omega);have hL2:=hf2.all (k:=k+2) (by omega);clear hf2;simp only[Tok.row_mk])))|((with_reducible apply Wo_call (f:=140));(iterate 5 exact Z5);(apply take (k+3) (by omega));(decide);(constructor);((conv=>lhs;simp -implicitDefEqProofs [*,-Int.natCast_add])<;>exact rfl);(exact Zc);(assumption);(omega);rotate_left;(rintro _ hpp ⟨⟨a,rfl⟩,hpf⟩);rotate_right;(rintro _ hp2 ⟨⟨tk2,tt2,tn2,ta2⟩,rfl,hn2,⟨hb2,ha2,_,hle2⟩,hf2⟩;have hO2:=hf2.own (by omega);have hL2:=hf2.all (k:=k+2) (by omega);clear hf2;simp only[Tok.row_mk]))|fail)
 rotate_left
 ·have hfar:=HF.out
  exact⟨T.length+1 - (n2+1+1+1+1+1+1),by omega,n2+1+1+1+1+1+1,gv,ga+1,gf,vs,ar++[(tt1,IntKind.i64.wrap tn2)],by omega,by(try simp at*);omega,by simp[*],by simp[*],by simp[*],by simp[*];done,by simp[*],by simp[*],by simp[*],by simp[*],⟨by simp[*];done,by simp[*],hlen,by omega⟩,fun d i c hd hne=>by have hd2:d≠k+3:=(by omega);simp[*];exact hfar d i c hd hne⟩
 ·have hfar:=HF.out
  exact⟨T.length+1 - (m2+1),by omega,m2+1,gv+1,ga,gf,vs++nl3,ar,by omega,by(try simp at*);omega,by simp[*],by simp[*],by simp[*],by simp[*];done,by simp[*],by simp[*],by simp[*],by simp[*],⟨by simp[*];done,by simp[*],hlen,by omega⟩,fun d i c hd hne=>by have hd2:d≠k+3:=(by omega);simp[*];exact hfar d i c hd hne⟩
 refine W_loopS (n:=T.length+1 - n) (fun s0 m s=> ∃(n2 gv ga gf:Nat) (vs:List Tx) (ar:List (Tx×Int)) (fs:List Sy.Fu),T.length+1 - n2≤m∧n+vs.length+ar.length+fuSize fs≤n2∧s.fr 0= .ptr ⟨1,q,0⟩ gx 0∧s.fr 2= .ptr ⟨k+3,2,0⟩ ((hp1 ⟨k+3,2,0⟩).gen+1) 0∧s.fr 3= .ptr ⟨k+3,3,0⟩ ((hp1 ⟨k+3,3,0⟩).gen+1) 0∧s.hp ⟨k+3,3,0⟩= .box ((hp1 ⟨k+3,3,0⟩).gen+1) [.own ⟨k+3,3,1⟩ gv vs.length,.own ⟨k+3,3,2⟩ ga ar.length,.own ⟨k+3,3,3⟩ gf fs.length] false∧s.hp ⟨k+3,3,1⟩= .arr gv 1 9 (txRows vs) false∧s.hp ⟨k+3,3,2⟩= .arr ga 2 227 (arRows ar) false∧s.hp ⟨k+3,3,3⟩= .arr gf 5 230 (fs.map Sy.Fu.row) false∧s.hp ⟨k+3,2,0⟩= .box ((hp1 ⟨k+3,2,0⟩).gen+1) [.own ⟨k+3,2,1⟩ ((hp1 ⟨k+3,2,1⟩).gen+1) 0,.own ⟨k+3,2,2⟩ ((hp1 ⟨k+3,2,2⟩).gen+1) 0,.own ⟨k+3,2,3⟩ ((hp1 ⟨k+3,2,3⟩).gen+1) 0] false∧Rd T e q gx gy n2 s.hp∧Far (k+2) q hp1 s.hp) ⟨m2,gv,ga,gf+1,vs,ar,[⟨fn,fp,fl,fw,fb⟩],by omega,by(try simp at*);omega,by simp[*],by simp[*],by simp[*],by simp[*];done,by simp[*],by simp[*],by simp[*],by simp[*],⟨by simp[*];done,by simp[*],hlen,by omega⟩,fun d i c hd hne=>by have hd2:d≠k+3:=(by omega);simp[*];exact HF.out d i c hd hne⟩ ?_
 clear hb2 ha2 hO2 hL2 b3 a1 a2 a3 b2 ha hb HF t1 t2 t4 t6
 rintro m ⟨fr,hp⟩ ⟨n2,gv,ga,gf,vs,ar,fs,hmm,hnl,f0,f2,f3,b3,a1,a2,a3,b2,⟨hb,ha,_,hle3⟩,hfar⟩
 simp at f0 f2 f3 b3 a1 a2 a3 b2 ha hfar
 simp only at hb
 have HF:=Lib.hid hfar
 have t1:=tx_take vs
 have t2:=ar_take ar
 have t4:=ar_len ar
 have t6:=ar_snoc ar
 clear hfar
 have t3:=fu_take fs
 have t5:=fuSize_len fs
 have x1:(fs.length+1)*96≤140737488355328:=by omega
 have x2:fs.length≤9223372036854775806:=by omega
 by_cases hlt:n2<T.length
 all_goals (first|have e1:(n2:Int)<T.length:=(by omega)|have e1: ¬(n2:Int)<T.length:=(by omega))
 repeat' (first|((apply W_rdB (c:=3) (idx:=[0,1,2]) (d:=60));(kernel_rfl);(kernel_rfl);(simp only[List.map_cons,List.map_nil,Array.getD_eq_getD_getElem?,List.getElem?_toArray,List.getElem?_cons_zero,List.getElem?_cons_succ,Option.getD_some]);(repeat' (first|exact Free.nil|((with_reducible apply Free_cons);(exact Zc))));(exact rfl);(exact Zc);(exact okFn_142);(decide);(exact Zc);(apply fun_w (k+3) (by omega));(constructor);((conv=>lhs;simp -implicitDefEqProofs [*,-Int.natCast_add])<;>exact rfl);(exact Zc);(assumption);(omega);rotate_left;(rintro _ hpp ⟨⟨a,rfl⟩,hpf⟩);rotate_right;(rintro _ hp2 h1c ⟨⟨fn,fp,fl,fw,fb⟩,m2,rfl,hs2,hn2,⟨hb2,ha2,_,hle2⟩,hf2⟩;have hO2:=hf2.own (by omega);have hL2:=hf2.all (k:=k+2) (by omega);clear hf2;simp only[Fu_row_mk,Fu_size_mk] at*);(refine W_rdl (by kernel_rfl) ?_);(repeat (first|((with_reducible apply Wd_u);(exact Zc))|((with_reducible apply Wd_n);(exact Zc))));(with_reducible apply Wd_nil);(apply drawF_of (ps:=[(0,2),(1,2),(0,3),(1,3),(0,4),(1,4)]));(kernel_rfl);(iterate 2 refine Zk ?_);(refine List.forall_mem_cons.2 ⟨?_,?_⟩);((focus (refine apart_r (by simp) (by simp) rfl ?_;(repeat' (refine List.forall_mem_cons.2 ⟨⟨trivial,rfl,by simp[Facet.nm],by simp[Facet.nm],by simp[Facet.nm],by simp[Facet.nm, *]⟩,?_⟩));exact fun y hy=>by cases hy)));(refine List.forall_mem_cons.2 ⟨?_,?_⟩);((focus (refine apart_r (by simp) (by simp) rfl ?_;(repeat' (refine List.forall_mem_cons.2 ⟨⟨trivial,rfl,by simp[Facet.nm],by simp[Facet.nm],by simp[Facet.nm],by simp[Facet.nm, *]⟩,?_⟩));exact fun y hy=>by cases hy)));(iterate 2 refine Zs ?_);(exact Zz))|((apply W_srdB (c:=3) (idx:=[0,1,2]) (d:=60));(kernel_rfl);(kernel_rfl);(simp only[List.map_cons,List.map_nil,Array.getD_eq_getD_getElem?,List.getElem?_toArray,List.getElem?_cons_zero,List.getElem?_cons_succ,Option.getD_some]);(repeat' (first|exact Free.nil|((with_reducible apply Free_cons);(exact Zc))));(exact rfl);(exact Zc);(exact okFn_142);(decide);(exact Zc);(apply fun_w (k+3) (by omega));(constructor);((conv=>lhs;simp -implicitDefEqProofs [*,-Int.natCast_add])<;>exact rfl);(exact Zc);(assumption);(omega);rotate_left;(rintro _ hpp ⟨⟨a,rfl⟩,hpf⟩);rotate_right;(rintro _ hp2 h1c ⟨⟨fn,fp,fl,fw,fb⟩,m2,rfl,hs2,hn2,⟨hb2,ha2,_,hle2⟩,hf2⟩;have hO2:=hf2.own (by omega);have hL2:=hf2.all (k:=k+2) (by omega);clear hf2;simp only[Fu_row_mk,Fu_size_mk] at*);(refine W_srdl (by kernel_rfl) ?_);(repeat (first|((with_reducible apply Wd_u);(exact Zc))|((with_reducible apply Wd_n);(exact Zc))));(with_reducible apply Wd_nil);(apply drawF_of (ps:=[(0,2),(1,2),(0,3),(1,3),(0,4),(1,4)]));(kernel_rfl);(iterate 2 refine Zk ?_);(refine List.forall_mem_cons.2 ⟨?_,?_⟩);((focus (refine apart_r (by simp) (by simp) rfl ?_;(repeat' (refine List.forall_mem_cons.2 ⟨⟨trivial,rfl,by simp[Facet.nm],by simp[Facet.nm],by simp[Facet.nm],by simp[Facet.nm, *]⟩,?_⟩));exact fun y hy=>by cases hy)));(refine List.forall_mem_cons.2 ⟨?_,?_⟩);((focus (refine apart_r (by simp) (by simp) rfl ?_;(repeat' (refine List.forall_mem_cons.2 ⟨⟨trivial,rfl,by simp[Facet.nm],by simp[Facet.nm],by simp[Facet.nm],by simp[Facet.nm, *]⟩,?_⟩));exact fun y hy=>by cases hy)));(iterate 2 refine Zs ?_);(exact Zz))|(refine Z1 ?_)|(refine Z2 ?_ ?_)|(intro h h';try simp[*,-h] at h')|(exact⟨⟨_,rfl⟩,fun d i c hd hne=>(hpf d i c (by omega) hne).trans (by have hd2:d≠k+3:=(by omega);first|exact HF.out d i c hd hne|(simp[*];done)|(simp[*];exact HF.out d i c hd hne))⟩)|fail)
 ·have hfar:=HF.out
  have t7:=fuSize_app fs [⟨fn,fp,fl,fw,fb⟩]
  simp only[fuSize_cons,fuSize_nil,Fu_size_mk] at t7
  exact⟨T.length+1 - m2,by omega,m2,gv,ga,gf+1,vs,ar,fs++[⟨fn,fp,fl,fw,fb⟩],by omega,by(try simp at*);omega,by simp[*],by simp[*],by simp[*],by simp[*];done,by simp[*],by simp[*],by simp[*],by simp[*],⟨by simp[*];done,by simp[*],hlen,by omega⟩,fun d i c hd hne=>by have hd2:d≠k+3:=(by omega);simp[*];exact hfar d i c hd hne⟩
 ·have hfar:=HF.out
  exact⟨⟨vs,ar,fs⟩,n2,by simp[Sy.Pr.row],by(try simp[Sy.Pr.size]);omega,⟨by simp[*];done,by simp[*],hlen,by omega⟩,fun d i c hd hne=>by have hd2:d≠k+3:=(by omega);simp[*];exact hfar d i c hd hne⟩
def RC (T:List Tok)(e:Int)(gx gy gp:Nat)(hp1:Hp)(v:AV)(hp2:Hp):Prop:=v= .tup []∧ ∃(x:Sy.Pr) (n2:Nat),hp2 ⟨0,5,0⟩= .box gp x.row false∧x.size≤T.length∧Rd T e 25 gx gy n2 hp2∧ ∀d i c,d≤1→(⟨d,i,c⟩:Nm)≠⟨1,25,0⟩→(⟨d,i,c⟩:Nm)≠⟨0,5,0⟩→hp2 ⟨d,i,c⟩=hp1 ⟨d,i,c⟩
theorem closure_w {T:List Tok}{e:Int}{gx gy gp:Nat}{c1 c2 c3:AV}(d:Nat)(hp1:Hp)(hr:Rd T e 25 gx gy 0 hp1)(hp:hp1 ⟨0,5,0⟩= .box gp [c1,c2,c3] false):HB Tryz.prog E47 (Lm X46) 1 d 118 [.ptr ⟨1,25,0⟩ gx 0,.ptr ⟨0,5,0⟩ gp 0] hp1 (RC T e gx gy gp hp1) (Wr 1 25 hp1):=by
 refine lim_hpcBk (k1:=2) (PR:=Wr 1 25 hp1) rfl Tryz.func118 rfl rfl bodyOk_118 rfl rvs_118 ?_
 obtain⟨h1,h2,hlen,hle⟩:=hr
 repeat' (first|(refine ZN ?_)|(refine Z2 ?_ ?_)|(intro h h';try simp[*,-h] at h')|((with_reducible apply Wo_call (f:=119));(iterate 5 exact Z5);(apply prog_w 2 (by omega));(constructor);((conv=>lhs;simp -implicitDefEqProofs [*,-Int.natCast_add])<;>exact rfl);(exact Zc);(assumption);(omega);rotate_left;(rintro _ hpp ⟨⟨a,rfl⟩,hpf⟩);rotate_right;(rintro _ hp2 ⟨⟨xv,xa,xf⟩,m2,rfl,hn2,⟨hb2,ha2,_,hle2⟩,hf2⟩;have hO2:=hf2.own (by omega);have hL2:=hf2.all (k:=1) (by omega);clear hf2;simp only[Sy.Pr.row] at*))|fail)
 ·exact⟨rfl,⟨xv,xa,xf⟩,m2,by simp[Sy.Pr.row],by omega,⟨by simp[*],by simp[*],hlen,hle2⟩,fun d i c hd h8 h9=>by simp[*]⟩
 ·exact⟨⟨a,rfl⟩,fun d i c hd hne=>hpf d i c (by omega) hne⟩
abbrev cv (c:Int):AV:= .sc (.int .u8 c)
def digB (c:Int):Bool:=decide (48≤c)&&decide (c≤57)
def letB (c:Int):Bool:=(decide (97≤c)&&decide (c≤122))||(decide (65≤c)&&decide (c≤90))
def innB (c:Int):Bool:=letB c||digB c||(c==95)
def notB (c:Int):Bool:=c !=10
theorem digit_w {X:Orc}(hX: ∀f a,X.dat f a=none)(c:Int):(Lm X).dat 205 [cv c]=some [bv (digB c)]:=by
 refine fnW (P:=Tryz.prog) (E:=E47) (X:=X) Tryz.func205 (hX _ _) rfl bodyOk_205 rfl rtys_205 rvs_205 ?_
 repeat' (first|(refine ZN ?_)|(refine Z2 ?_ ?_)|(intro h h';try simp[*,-h] at h'))
 all_goals (first|(simp_all[digB];done)|(simp_all[digB];omega))
theorem letter_w {X:Orc}(hX: ∀f a,X.dat f a=none)(c:Int):(Lm X).dat 208 [cv c]=some [bv (letB c)]:=by
 refine fnW (P:=Tryz.prog) (E:=E47) (X:=X) Tryz.func208 (hX _ _) rfl bodyOk_208 rfl rtys_208 rvs_208 ?_
 repeat' (first|(refine ZN ?_)|(refine Z2 ?_ ?_)|(intro h h';try simp[*,-h] at h'))
 all_goals (first|(simp_all[letB];done)|(simp_all[letB];omega))
theorem inName_w {X:Orc}(hX: ∀f a,X.dat f a=none)(c:Int):(Lm X).dat 210 [cv c]=some [bv (innB c)]:=by
 refine fnW (P:=Tryz.prog) (E:=E47) (X:=X) Tryz.func210 (hX _ _) rfl bodyOk_210 rfl rtys_210 rvs_210 ?_
 have d1:=digit_w hX
 have l1:=letter_w hX
 repeat' (first|(refine ZN ?_)|(refine Z2 ?_ ?_)|(intro h h';try simp[*,-h] at h'))
 all_goals (first|(simp_all[innB];done)|(simp_all[innB];omega))
theorem not_w {X:Orc}(hX: ∀f a,X.dat f a=none)(c:Int):(Lm X).dat 165 [cv c]=some [bv (notB c)]:=by
 refine fnW (P:=Tryz.prog) (E:=E47) (X:=X) Tryz.func165 (hX _ _) rfl bodyOk_165 rfl rtys_165 rvs_165 ?_
 repeat' (first|(refine ZN ?_)|(refine Z2 ?_ ?_)|(intro h h';try simp[*,-h] at h'))
 all_goals (first|(simp_all[notB];done)|(simp_all[notB];omega))
theorem front_d {X:Orc}(hX: ∀f a,X.dat f a=none)(s:ByteArray)(hs:s.size<9223372036854775807): ∃rs,(Lm X).dat 164 [tv s,.fn 205 []]=some rs∧ ∃n,n≤s.size∧(∀h:n<s.size,digB (s[n]).toNat=false)∧rs=[tv (s.extract 0 n)]:=by
 refine fnR (P:=Tryz.prog) (E:=E47) (X:=X) (R:=fun rs=> ∃n,n≤s.size∧(∀h:n<s.size,digB (s[n]).toNat=false)∧rs=[tv (s.extract 0 n)]) Tryz.func164 (hX _ _) rfl bodyOk_164 rfl rtys_164 rvs_164 ?_
 have d1:=digit_w hX
 repeat' (first|(refine ZN ?_)|(refine Z2 ?_ ?_)|(intro h h';try simp[*,-h] at h'))
 refine W_loopS (n:=s.size) (fun s0 m z=> ∃i:Nat,s.size - i≤m∧i≤s.size∧z.fr 0=tv s∧z.fr 1= .fn 205 []∧z.fr 5=iv i) ⟨0,by omega,by omega,by simp,by simp,by simp⟩ ?_
 rintro m ⟨fr,hp⟩ ⟨i,hm,hi,f0,f1,f5⟩
 simp at f0 f1 f5
 by_cases hlt:i<s.size
 all_goals (first|have e1:(i:Int)<s.size:=(by omega)|have e1: ¬(i:Int)<s.size:=(by omega))
 repeat' (first|(refine ZN ?_)|(refine Z2 ?_ ?_)|(intro h h';try simp[*,-h] at h'))
 ·exact⟨s.size - (i+1),by omega,i+1,by omega,by omega,by simp[*],by simp[*],by simp[*,wrapN (k:=i) (by omega)]⟩
 ·exact⟨i,hi,fun _=>h',rfl⟩
 ·exact⟨i,hi,fun hh=>absurd hh hlt,rfl⟩
theorem front_n {X:Orc}(hX: ∀f a,X.dat f a=none)(s:ByteArray)(hs:s.size<9223372036854775807): ∃rs,(Lm X).dat 164 [tv s,.fn 210 []]=some rs∧ ∃n,n≤s.size∧(∀h:n<s.size,innB (s[n]).toNat=false)∧rs=[tv (s.extract 0 n)]:=by
 refine fnR (P:=Tryz.prog) (E:=E47) (X:=X) (R:=fun rs=> ∃n,n≤s.size∧(∀h:n<s.size,innB (s[n]).toNat=false)∧rs=[tv (s.extract 0 n)]) Tryz.func164 (hX _ _) rfl bodyOk_164 rfl rtys_164 rvs_164 ?_
 have d1:=inName_w hX
 repeat' (first|(refine ZN ?_)|(refine Z2 ?_ ?_)|(intro h h';try simp[*,-h] at h'))
 refine W_loopS (n:=s.size) (fun s0 m z=> ∃i:Nat,s.size - i≤m∧i≤s.size∧z.fr 0=tv s∧z.fr 1= .fn 210 []∧z.fr 5=iv i) ⟨0,by omega,by omega,by simp,by simp,by simp⟩ ?_
 rintro m ⟨fr,hp⟩ ⟨i,hm,hi,f0,f1,f5⟩
 simp at f0 f1 f5
 by_cases hlt:i<s.size
 all_goals (first|have e1:(i:Int)<s.size:=(by omega)|have e1: ¬(i:Int)<s.size:=(by omega))
 repeat' (first|(refine ZN ?_)|(refine Z2 ?_ ?_)|(intro h h';try simp[*,-h] at h'))
 ·exact⟨s.size - (i+1),by omega,i+1,by omega,by omega,by simp[*],by simp[*],by simp[*,wrapN (k:=i) (by omega)]⟩
 ·exact⟨i,hi,fun _=>h',rfl⟩
 ·exact⟨i,hi,fun hh=>absurd hh hlt,rfl⟩
theorem front_c {X:Orc}(hX: ∀f a,X.dat f a=none)(s:ByteArray)(hs:s.size<9223372036854775807): ∃rs,(Lm X).dat 164 [tv s,.fn 165 []]=some rs∧ ∃n,n≤s.size∧(∀h:n<s.size,notB (s[n]).toNat=false)∧rs=[tv (s.extract 0 n)]:=by
 refine fnR (P:=Tryz.prog) (E:=E47) (X:=X) (R:=fun rs=> ∃n,n≤s.size∧(∀h:n<s.size,notB (s[n]).toNat=false)∧rs=[tv (s.extract 0 n)]) Tryz.func164 (hX _ _) rfl bodyOk_164 rfl rtys_164 rvs_164 ?_
 have d1:=not_w hX
 repeat' (first|(refine ZN ?_)|(refine Z2 ?_ ?_)|(intro h h';try simp[*,-h] at h'))
 refine W_loopS (n:=s.size) (fun s0 m z=> ∃i:Nat,s.size - i≤m∧i≤s.size∧z.fr 0=tv s∧z.fr 1= .fn 165 []∧z.fr 5=iv i) ⟨0,by omega,by omega,by simp,by simp,by simp⟩ ?_
 rintro m ⟨fr,hp⟩ ⟨i,hm,hi,f0,f1,f5⟩
 simp at f0 f1 f5
 by_cases hlt:i<s.size
 all_goals (first|have e1:(i:Int)<s.size:=(by omega)|have e1: ¬(i:Int)<s.size:=(by omega))
 repeat' (first|(refine ZN ?_)|(refine Z2 ?_ ?_)|(intro h h';try simp[*,-h] at h'))
 ·exact⟨s.size - (i+1),by omega,i+1,by omega,by omega,by simp[*],by simp[*],by simp[*,wrapN (k:=i) (by omega)]⟩
 ·exact⟨i,hi,fun _=>h',rfl⟩
 ·exact⟨i,hi,fun hh=>absurd hh hlt,rfl⟩
theorem prefix_w {X:Orc}(hX: ∀f a,X.dat f a=none)(s t:ByteArray): ∃rs,(Lm X).dat 204 [tv s,tv t]=some rs∧ ∃b,(b=true→t.size≤s.size)∧rs=[bv b]:=by
 refine fnR (P:=Tryz.prog) (E:=E47) (X:=X) (R:=fun rs=> ∃b,(b=true→t.size≤s.size)∧rs=[bv b]) Tryz.func204 (hX _ _) rfl bodyOk_204 rfl rtys_204 rvs_204 ?_
 repeat' (first|(refine ZN ?_)|(refine Z2 ?_ ?_)|(intro h h';try simp[*,-h] at h'))
 ·exact⟨_,fun _=>h',rfl⟩
 ·exact⟨_,by simp,rfl⟩
theorem number_w {X:Orc}(hX: ∀f a,X.dat f a=none)(s:ByteArray)(hs:s.size<9223372036854775807): ∃rs,(Lm X).dat 206 [tv s]=some rs∧ ∃(k n e:Int) (t:ByteArray),(t=s∧e=0∨e=2)∧rs=[.agg [iz k,tz t,uz n,iz 0],iz e]:=by
 refine fnR (P:=Tryz.prog) (E:=E47) (X:=X) (R:=fun rs=> ∃(k n e:Int) (t:ByteArray),(t=s∧e=0∨e=2)∧rs=[.agg [iz k,tz t,uz n,iz 0],iz e]) Tryz.func206 (hX _ _) rfl bodyOk_206 rfl rtys_206 rvs_206 ?_
 repeat' (first|(refine ZN ?_)|(refine Z2 ?_ ?_)|(intro h h';try simp[*,-h] at h'))
 refine W_loopS (n:=s.size) (fun s0 m z=> ∃(i:Nat) (a:Int),s.size - i≤m∧i≤s.size∧z.fr 0=tv s∧z.fr 4= .sc (.int .u64 a)∧z.fr 5=iv i∧z.fr 2=s0.fr 2∧z.hp=s0.hp) ⟨0,0,by omega,by omega,by simp,by simp,by simp,rfl,rfl⟩ ?_
 rintro m ⟨fr,hp⟩ ⟨i,a,hm,hi,f0,f4,f5,f2,fh⟩
 simp at f0 f4 f5 f2 fh
 by_cases hlt:i<s.size
 all_goals (first|have e1:(i:Int)<s.size:=(by omega)|have e1: ¬(i:Int)<s.size:=(by omega))
 repeat' (first|(refine ZN ?_)|(refine Z2 ?_ ?_)|(intro h h';try simp[*,-h] at h'))
 ·exact⟨0,0,2,⟨#[]⟩,.inr rfl,rfl⟩
 ·refine⟨s.size - (i+1),by omega,i+1,?_⟩
  apply Exists.intro
  refine⟨by omega,by omega,by simp[*],?_,by simp[*,wrapN (k:=i) (by omega)],by simp[*],by simp[*]⟩
  (conv=>lhs;simp[*])<;>exact rfl
 ·exact⟨2,_,0,s,.inl ⟨rfl,rfl⟩,rfl⟩
theorem byte_w {X:Orc}(hX: ∀f a,X.dat f a=none)(s:ByteArray): ∃rs,(Lm X).dat 207 [tv s]=some rs∧ ∃(k n e:Int) (t:ByteArray),(t.size=3∧3≤s.size∧e=0∨e=3)∧rs=[.agg [iz k,tz t,uz n,iz 0],iz e]:=by
 refine fnR (P:=Tryz.prog) (E:=E47) (X:=X) (R:=fun rs=> ∃(k n e:Int) (t:ByteArray),(t.size=3∧3≤s.size∧e=0∨e=3)∧rs=[.agg [iz k,tz t,uz n,iz 0],iz e]) Tryz.func207 (hX _ _) rfl bodyOk_207 rfl rtys_207 rvs_207 ?_
 by_cases h3:s.size<3
 all_goals (first|(have e1:(s.size:Int)<3:=(by omega))|(have e1: ¬(s.size:Int)<3:=(by omega);have e2:2<s.size:=(by omega);have e3:1<s.size:=(by omega);have e4:3≤s.size:=(by omega)))
 repeat' (first|(refine ZN ?_)|(refine Z2 ?_ ?_)|(intro h h';try simp[*,-h] at h'))
 all_goals (first|exact⟨2,_,0,s.extract 0 3,.inl ⟨by simp;omega,by omega,rfl⟩,rfl⟩|exact⟨0,0,3,⟨#[]⟩,.inr rfl,rfl⟩)
theorem isWord_w {X:Orc}(hX: ∀f a,X.dat f a=none)(s:ByteArray): ∃rs,(Lm X).dat 212 [tv s]=some rs∧ ∃b,rs=[bv b]:=by
 refine fnR (P:=Tryz.prog) (E:=E47) (X:=X) (R:=fun rs=> ∃b,rs=[bv b]) Tryz.func212 (hX _ _) rfl bodyOk_212 rfl rtys_212 rvs_212 ?_
 repeat' (first|(refine ZN ?_)|(refine Z2 ?_ ?_)|(intro h h';try simp[*,-h] at h'))
 refine W_loopS (n:=10) (fun s0 m z=> ∃i:Nat,10 - i≤m∧i≤10∧z.fr 0=tv s∧z.fr 2=bv false∧z.fr 4=iv i) ⟨0,by omega,by omega,by simp,by simp,by simp⟩ ?_
 rintro m ⟨fr,hp⟩ ⟨i,hm,hi,f0,f2,f4⟩
 simp at f0 f2 f4
 obtain(rfl|rfl|rfl|rfl|rfl|rfl|rfl|rfl|rfl|rfl|rfl):i=0∨i=1∨i=2∨i=3∨i=4∨i=5∨i=6∨i=7∨i=8∨i=9∨i=10:=by omega
 all_goals simp at f4
 repeat' (first|(refine ZN ?_)|(refine Z2 ?_ ?_)|(intro h h';try simp[*,-h] at h'))
 all_goals (first|exact⟨_,rfl⟩|exact⟨9,by omega,1,by omega,by omega,by simp[*],by simp[*],by(first|(simp[*];done)|(simp[*];decide+kernel))⟩|exact⟨8,by omega,2,by omega,by omega,by simp[*],by simp[*],by(first|(simp[*];done)|(simp[*];decide+kernel))⟩|exact⟨7,by omega,3,by omega,by omega,by simp[*],by simp[*],by(first|(simp[*];done)|(simp[*];decide+kernel))⟩|exact⟨6,by omega,4,by omega,by omega,by simp[*],by simp[*],by(first|(simp[*];done)|(simp[*];decide+kernel))⟩|exact⟨5,by omega,5,by omega,by omega,by simp[*],by simp[*],by(first|(simp[*];done)|(simp[*];decide+kernel))⟩|exact⟨4,by omega,6,by omega,by omega,by simp[*],by simp[*],by(first|(simp[*];done)|(simp[*];decide+kernel))⟩|exact⟨3,by omega,7,by omega,by omega,by simp[*],by simp[*],by(first|(simp[*];done)|(simp[*];decide+kernel))⟩|exact⟨2,by omega,8,by omega,by omega,by simp[*],by simp[*],by(first|(simp[*];done)|(simp[*];decide+kernel))⟩|exact⟨1,by omega,9,by omega,by omega,by simp[*],by simp[*],by(first|(simp[*];done)|(simp[*];decide+kernel))⟩|exact⟨0,by omega,10,by omega,by omega,by simp[*],by simp[*],by(first|(simp[*];done)|(simp[*];decide+kernel))⟩)
theorem hasPrefix_w {X:Orc}(hX: ∀f a,X.dat f a=none)(s t:ByteArray): ∃rs,(Lm X).dat 163 [tv s,tv t]=some rs∧ ∃b,(b=true→t.size≤s.size)∧rs=[bv b]:=by
 refine fnR (P:=Tryz.prog) (E:=E47) (X:=X) (R:=fun rs=> ∃b,(b=true→t.size≤s.size)∧rs=[bv b]) Tryz.func163 (hX _ _) rfl bodyOk_163 rfl rtys_163 rvs_163 ?_
 obtain⟨_,h1,b,hb,rfl⟩:=prefix_w hX s t
 repeat' (first|(refine ZN ?_)|(refine Z2 ?_ ?_)|(intro h h';try simp[*,-h] at h'))
 exact⟨b,hb,rfl⟩
theorem name_w {X:Orc}(hX: ∀f a,X.dat f a=none)(s:ByteArray): ∃rs,(Lm X).dat 209 [tv s]=some rs∧ ∃(k n e:Int) (t:ByteArray),(t=s∧e=0∨e=2)∧rs=[.agg [iz k,tz t,uz n,iz 0],iz e]:=by
 refine fnR (P:=Tryz.prog) (E:=E47) (X:=X) (R:=fun rs=> ∃(k n e:Int) (t:ByteArray),(t=s∧e=0∨e=2)∧rs=[.agg [iz k,tz t,uz n,iz 0],iz e]) Tryz.func209 (hX _ _) rfl bodyOk_209 rfl rtys_209 rvs_209 ?_
 obtain⟨_,h1,b,rfl⟩:=isWord_w hX s
 repeat' (first|(refine ZN ?_)|(refine Z2 ?_ ?_)|(intro h h';try simp[*,-h] at h'))
 all_goals (first|exact⟨_,_,0,s,.inl ⟨rfl,rfl⟩,rfl⟩|exact⟨0,0,2,⟨#[]⟩,.inr rfl,rfl⟩)
theorem first_w {X:Orc}(hX: ∀f a,X.dat f a=none)(s:ByteArray)(h0:0<s.size)(hs:s.size<9223372036854775807): ∃rs,(Lm X).dat 166 [tv s]=some rs∧ ∃(k n e:Int) (t:ByteArray),(1≤t.size∧t.size≤s.size∧e=0∨1≤e)∧rs=[.agg [iz k,tz t,uz n,iz 0],iz e]:=by
 refine fnR (P:=Tryz.prog) (E:=E47) (X:=X) (R:=fun rs=> ∃(k n e:Int) (t:ByteArray),(1≤t.size∧t.size≤s.size∧e=0∨1≤e)∧rs=[.agg [iz k,tz t,uz n,iz 0],iz e]) Tryz.func166 (hX _ _) rfl bodyOk_166 rfl rtys_166 rvs_166 ?_
 obtain⟨_,fd1,nd,hnd,hpd,rfl⟩:=front_d hX s hs
 obtain⟨_,fn1,nn,hnn,hpn,rfl⟩:=front_n hX s hs
 obtain⟨_,nu,k1,n1,e1,t1,hr1,rfl⟩:=number_w hX (s.extract 0 nd) (by simp;omega)
 obtain⟨_,na,k2,n2,e2,t2,hr2,rfl⟩:=name_w hX (s.extract 0 nn)
 obtain⟨_,bq,k3,n3,e3,t3,hr3,rfl⟩:=byte_w hX s
 have d1:=digit_w hX
 have l1:=letter_w hX
 have pw: ∀t,∃b,(b=true→t.size≤s.size)∧(Lm X).dat 163 [tv s,tv t]=some [bv b]:=fun t=>by
  obtain⟨_,h1,b,hb,rfl⟩:=hasPrefix_w hX s t
  exact⟨b,hb,h1⟩
 obtain⟨bp,hbp⟩: ∃bp:ByteArray→Bool,∀t,(bp t=true→t.size≤s.size)∧(Lm X).dat 163 [tv s,tv t]=some [bv (bp t)]:=⟨fun t=>Classical.choose (pw t),fun t=>Classical.choose_spec (pw t)⟩
 have hb1:=fun t=>(hbp t).1
 have hb2:=fun t=>(hbp t).2
 clear hbp pw
 repeat' (first|(refine ZN ?_)|(refine Z2 ?_ ?_)|(intro h h';try simp[*,-h] at h'))
 ·have z1:nd≠0:=(by rintro rfl;have q:digB ↑s[0].toNat=true:=h';rw[hpd h0] at q;cases q)
  rcases hr1 with⟨rfl,rfl⟩|rfl
  ·exact⟨k1,n1,0,_,.inl ⟨by simp;omega,by simp;omega,rfl⟩,rfl⟩
  ·exact⟨k1,n1,2,t1,.inr (by decide),rfl⟩
 ·rcases hr3 with⟨ha,hb,rfl⟩|rfl
  ·exact⟨k3,n3,0,_,.inl ⟨by omega,by omega,rfl⟩,rfl⟩
  ·exact⟨k3,n3,3,t3,.inr (by decide),rfl⟩
 ·have z1:nn≠0:=(by rintro rfl;have q:innB ↑s[0].toNat=true:=(by simp only[innB,Bool.or_eq_true];exact .inl (.inl h'));rw[hpn h0] at q;cases q)
  rcases hr2 with⟨rfl,rfl⟩|rfl
  ·exact⟨k2,n2,0,_,.inl ⟨by simp;omega,by simp;omega,rfl⟩,rfl⟩
  ·exact⟨k2,n2,2,t2,.inr (by decide),rfl⟩
 refine W_loopS (n:=24) (fun s0 m z=> ∃i:Nat,24 - i≤m∧i≤24∧z.fr 0=tv s∧z.fr 2=s0.fr 2∧z.hp=s0.hp∧z.fr 31=iv i) ⟨0,by omega,by omega,by simp,rfl,rfl,by simp⟩ ?_
 rintro m ⟨fr,hp⟩ ⟨i,hm,hi,f0,f2,fh,f4⟩
 simp at f0 f2 f4 fh
 obtain(rfl|rfl|rfl|rfl|rfl|rfl|rfl|rfl|rfl|rfl|rfl|rfl|rfl|rfl|rfl|rfl|rfl|rfl|rfl|rfl|rfl|rfl|rfl|rfl|rfl):i=0∨i=1∨i=2∨i=3∨i=4∨i=5∨i=6∨i=7∨i=8∨i=9∨i=10∨i=11∨i=12∨i=13∨i=14∨i=15∨i=16∨i=17∨i=18∨i=19∨i=20∨i=21∨i=22∨i=23∨i=24:=by omega
 all_goals simp at f4
 repeat' (first|(refine ZN ?_)|(refine Z2 ?_ ?_)|(intro h h';try simp[*,-h] at h'))
 all_goals (first|exact⟨_,_,0,_,.inl ⟨by decide,hb1 _ h',rfl⟩,rfl⟩|exact⟨0,0,3,⟨#[]⟩,.inr (by decide),rfl⟩|exact⟨23,by omega,1,by omega,by omega,by simp[*],by simp[*],by simp[*],by(first|(simp[*];done)|(simp[*];decide+kernel))⟩|exact⟨22,by omega,2,by omega,by omega,by simp[*],by simp[*],by simp[*],by(first|(simp[*];done)|(simp[*];decide+kernel))⟩|exact⟨21,by omega,3,by omega,by omega,by simp[*],by simp[*],by simp[*],by(first|(simp[*];done)|(simp[*];decide+kernel))⟩|exact⟨20,by omega,4,by omega,by omega,by simp[*],by simp[*],by simp[*],by(first|(simp[*];done)|(simp[*];decide+kernel))⟩|exact⟨19,by omega,5,by omega,by omega,by simp[*],by simp[*],by simp[*],by(first|(simp[*];done)|(simp[*];decide+kernel))⟩|exact⟨18,by omega,6,by omega,by omega,by simp[*],by simp[*],by simp[*],by(first|(simp[*];done)|(simp[*];decide+kernel))⟩|exact⟨17,by omega,7,by omega,by omega,by simp[*],by simp[*],by simp[*],by(first|(simp[*];done)|(simp[*];decide+kernel))⟩|exact⟨16,by omega,8,by omega,by omega,by simp[*],by simp[*],by simp[*],by(first|(simp[*];done)|(simp[*];decide+kernel))⟩|exact⟨15,by omega,9,by omega,by omega,by simp[*],by simp[*],by simp[*],by(first|(simp[*];done)|(simp[*];decide+kernel))⟩|exact⟨14,by omega,10,by omega,by omega,by simp[*],by simp[*],by simp[*],by(first|(simp[*];done)|(simp[*];decide+kernel))⟩|exact⟨13,by omega,11,by omega,by omega,by simp[*],by simp[*],by simp[*],by(first|(simp[*];done)|(simp[*];decide+kernel))⟩|exact⟨12,by omega,12,by omega,by omega,by simp[*],by simp[*],by simp[*],by(first|(simp[*];done)|(simp[*];decide+kernel))⟩|exact⟨11,by omega,13,by omega,by omega,by simp[*],by simp[*],by simp[*],by(first|(simp[*];done)|(simp[*];decide+kernel))⟩|exact⟨10,by omega,14,by omega,by omega,by simp[*],by simp[*],by simp[*],by(first|(simp[*];done)|(simp[*];decide+kernel))⟩|exact⟨9,by omega,15,by omega,by omega,by simp[*],by simp[*],by simp[*],by(first|(simp[*];done)|(simp[*];decide+kernel))⟩|exact⟨8,by omega,16,by omega,by omega,by simp[*],by simp[*],by simp[*],by(first|(simp[*];done)|(simp[*];decide+kernel))⟩|exact⟨7,by omega,17,by omega,by omega,by simp[*],by simp[*],by simp[*],by(first|(simp[*];done)|(simp[*];decide+kernel))⟩|exact⟨6,by omega,18,by omega,by omega,by simp[*],by simp[*],by simp[*],by(first|(simp[*];done)|(simp[*];decide+kernel))⟩|exact⟨5,by omega,19,by omega,by omega,by simp[*],by simp[*],by simp[*],by(first|(simp[*];done)|(simp[*];decide+kernel))⟩|exact⟨4,by omega,20,by omega,by omega,by simp[*],by simp[*],by simp[*],by(first|(simp[*];done)|(simp[*];decide+kernel))⟩|exact⟨3,by omega,21,by omega,by omega,by simp[*],by simp[*],by simp[*],by(first|(simp[*];done)|(simp[*];decide+kernel))⟩|exact⟨2,by omega,22,by omega,by omega,by simp[*],by simp[*],by simp[*],by(first|(simp[*];done)|(simp[*];decide+kernel))⟩|exact⟨1,by omega,23,by omega,by omega,by simp[*],by simp[*],by simp[*],by(first|(simp[*];done)|(simp[*];decide+kernel))⟩|exact⟨0,by omega,24,by omega,by omega,by simp[*],by simp[*],by simp[*],by(first|(simp[*];done)|(simp[*];decide+kernel))⟩)
theorem Lex_w {X:Orc}(hX: ∀f a,X.dat f a=none)(s:ByteArray)(hs:s.size<9223372036854775807): ∃rs,(Lm X).dat 135 [tv s]=some rs∧ ∃(T:List Tok) (a e:Int),T.length≤s.size∧T.length≤20000∧0≤e∧rs=[.vec 4 (T.map Tok.row),iz a,iz e]:=by
 refine fnR (P:=Tryz.prog) (E:=E47) (X:=X) (R:=fun rs=> ∃(T:List Tok) (a e:Int),T.length≤s.size∧T.length≤20000∧0≤e∧rs=[.vec 4 (T.map Tok.row),iz a,iz e]) Tryz.func135 (hX _ _) rfl bodyOk_135 rfl rtys_135 rvs_135 ?_
 by_cases h2:s.size≤20000
 all_goals (first|have e1:(s.size:Int)≤20000:=(by omega)|have e1: ¬(s.size:Int)≤20000:=(by omega))
 repeat' (first|(refine ZN ?_)|(refine Z2 ?_ ?_)|(intro h h';try simp[*,-h] at h')|(with_reducible first|apply W_scope|apply W_sscope|apply W_slabel|apply W_label)|fail)
 ·exact⟨[],0,2,by simp,by simp,by decide,rfl⟩
 rotate_left
 ·exact⟨[],0,2,by simp,by simp,by decide,rfl⟩
 refine W_loopS (n:=s.size) (fun s0 m z=> ∃(i g:Nat) (T:List Tok),s.size - i≤m∧i≤s.size∧T.length≤i∧z.fr 0=tv s∧z.fr 5= .own ⟨0,5,0⟩ g T.length∧z.fr 6=iv i∧z.hp ⟨0,5,0⟩= .arr g 4 223 (T.map Tok.row) false) ⟨0,1,[],by omega,by omega,by simp,by simp,by simp,by simp,by simp⟩ ?_
 rintro m ⟨fr,hp⟩ ⟨i,g,T,hm,hi,hT,f0,f5,f6,h5⟩
 simp at f0 f5 f6 h5
 have x1:(T.length+1)*40≤140737488355328:=by omega
 have x2:T.length≤9223372036854775806:=by omega
 by_cases hlt:i<s.size
 all_goals (first|have e1:(i:Int)<s.size:=(by omega)|have e1: ¬(i:Int)<s.size:=(by omega))
 ·obtain⟨_,fw,k1,n1,ee,t1,hr1,rfl⟩:=first_w hX (s.extract i s.size) (by simp;omega) (by simp;omega)
  obtain⟨_,pw,b1,hb1,rfl⟩:=hasPrefix_w hX (s.extract i s.size) ⟨#[47,47]⟩
  obtain⟨_,cw,nc,hnc,hpc,rfl⟩:=front_c hX (s.extract i s.size) (by simp;omega)
  repeat' (first|(refine ZN ?_)|(refine Z2 ?_ ?_)|(intro h h';try simp[*,-h] at h')|(with_reducible first|apply W_scope|apply W_sscope|apply W_slabel|apply W_label)|fail)
  ·exact⟨s.size - (i+1),by omega,i+1,g,T,by omega,by omega,by omega,by simp[*],by simp[*],by simp[*,wrapN (k:=i) (by omega)],by simp[*]⟩
  ·have hn0:i+1≤s.size:=(by omega)
   have hx:(s.extract i s.size).size=s.size - i:=by simp
   have z1:nc≠0:=by
    rintro rfl
    have q:=hpc (by omega)
    have q2:(s.extract i s.size)[0]'(by omega)=s.data[i]:=by simp[ByteArray.getElem_extract];rfl
    rw[q2] at q
    simp[notB] at q
    omega
   rw[hx] at hnc
   have z2:min nc (s.size - i)=nc:=by omega
   have z3:IntKind.i64.wrap ((i:Int)+nc)=(i:Int)+nc:=wrap64 (by omega) (by omega)
   clear hpc
   exact⟨s.size - (i+nc),by omega,i+nc,g,T,by omega,by omega,by omega,by simp[*],by simp[*],by simp[*],by simp[*]⟩
  ·exact⟨[],i,ee,by simp,by simp,by omega,rfl⟩
  ·obtain⟨h6,h7,rfl⟩|h6:=hr1
   ·have hx:(s.extract i s.size).size=s.size - i:=by simp
    rw[hx] at h7
    have z3:IntKind.i64.wrap ((i:Int)+t1.size)=(i:Int)+t1.size:=wrap64 (by omega) (by omega)
    clear hpc hnc
    exact⟨s.size - (i+t1.size),by omega,i+t1.size,g+1,T++[⟨k1,⟨t1,by omega⟩,n1,i⟩],by omega,by omega,by simp;omega,by simp[*],by simp[*],by simp[*],by first|(simp[*];done)|(simp[*];rfl)⟩
   ·omega
  ·exact⟨s.size - (i+1),by omega,i+1,g,T,by omega,by omega,by omega,by simp[*],by simp[*],by simp[*,wrapN (k:=i) (by omega)],by simp[*]⟩
  ·exact⟨s.size - (i+1),by omega,i+1,g,T,by omega,by omega,by omega,by simp[*],by simp[*],by simp[*,wrapN (k:=i) (by omega)],by simp[*]⟩
 repeat' (first|(refine ZN ?_)|(refine Z2 ?_ ?_)|(intro h h';try simp[*,-h] at h')|(with_reducible first|apply W_scope|apply W_sscope|apply W_slabel|apply W_label)|fail)
 exact⟨T,0,0,by omega,by omega,by decide,rfl⟩
end
section
open Go Go.Ab Go.Ab.Sy Go.RowKit
theorem nt_read1 :Tryz.f136.ntmps=13:=rfl
theorem rs_read1 :Tryz.f136.results= #[]:=rfl
theorem catch_idle (p q:Addr)(w:World):
  CallsD Tryz.prog 136 #[.pointer (some p),.pointer (some q)] .returning w fun e u' w'=>e= .returned (.tuple #[])∧u'= .returning∧w'=w:=by
 refine callsD_of_wpS Tryz.func136 rfl fun c₀ cs hu=>?_
 apply wpS_seq
 apply wpS_region
 simp[wpOpsS,go_sem,recoverD,hu,nt_read1,Exit.thenS]
 refine wpS_of_wp (wp_block ?_)
 refine wp_seq (wp_region ?_)
 simp[wpOps,Oper.wp,Oper.upon,go_sem,Exit.then]
 left
 refine wp_cond_true ?_ ?_
 ·simp[Act.eval,Array.replicate]
 refine wp_region ?_
 simp[wpOps,Oper.wp,Oper.upon,go_sem,Exit.then]
 left
 cases c₀
 simp_all[bodyPostS,results,rs_read1]
theorem mixed47 :Tryz.prog.follows .mixedOrders=true:=by kernel_rfl
theorem E47_law :ELaw Tryz.prog E47:=⟨fun t h=>by simp at h,fun _=>rfl⟩
theorem X46_ok :OrcOk Tryz.prog X46:=⟨(fun f a rs h=>nomatch h),(fun k d f a hp v hp' h=>nomatch h)⟩
theorem Lm46_ok :OrcOk Tryz.prog (Lm X46):=lim_ok mixed47 E47_law X46_ok
def frW (g4 g5:Nat)(a:Int):Nat→AV:=fun t=>if t=0 then .ptr ⟨1,4,0⟩ g4 0 else if t=1 then .ptr ⟨1,5,0⟩ g5 0 else if t=9 then bv true else if t=10 then .agg [iv a] else .any
def catchHp (a:Int)(g4 g5:Nat)(hp:Hp):Hp:=upd (upd (upd hp ⟨2,3,0⟩ (.box ((hp ⟨2,3,0⟩).gen+1) [iv a] false)) ⟨1,4,0⟩ (.box g4 [iv a] false)) ⟨1,5,0⟩ (.box g5 [iv 3] false)
def CW (I K:Nat→Prop)(m:Mp)(hp:Hp)(w:World)(a:Int)(g4 g5:Nat)(e:Ending)(u':FrameMode)(w':World):Prop:=e= .returned (.tuple #[])∧u'= .panicking [{v:=wrongV a,recovered:=true}]∧
   ∃I' m',Gam I' K m' (catchHp a g4 g5 hp) w'∧Ext I K m hp w I' m' (catchHp a g4 g5 hp) w'
@[simp] theorem frW_0 {g4 g5:Nat}{a:Int}:frW g4 g5 a 0= .ptr ⟨1,4,0⟩ g4 0:=rfl
@[simp] theorem frW_1 {g4 g5:Nat}{a:Int}:frW g4 g5 a 1= .ptr ⟨1,5,0⟩ g5 0:=rfl
@[simp] theorem frW_9 {g4 g5:Nat}{a:Int}:frW g4 g5 a 9=bv true:=rfl
@[simp] theorem frW_10 {g4 g5:Nat}{a:Int}:frW g4 g5 a 10= .agg [iv a]:=rfl
def CR (a:Int)(g4 g5:Nat)(hp:Hp)(e:Ab.Ex)(s:AS):Prop:=e= .normal∧s.hp=catchHp a g4 g5 hp
theorem catch_wrong {I K:Nat→Prop}{m:Mp}{hp:Hp}{w:World}{a:Int}{g4 g5:Nat}{x4 x5:AV}{p q:Value}(G:Gam I K m hp w)(h4:Rep 1 I m hp w (.ptr ⟨1,4,0⟩ g4 0) p)(h5:Rep 1 I m hp w (.ptr ⟨1,5,0⟩ g5 0) q)
  (b4:hp ⟨1,4,0⟩= .box g4 [x4] false) (b5:hp ⟨1,5,0⟩= .box g5 [x5] false):
  CallsD Tryz.prog 136 #[p,q] (.panicking (panE (wrongV a))) w (CW I K m hp w a g4 g5):=by
 refine callsD_of_wpS Tryz.func136 rfl fun c₀ cs hu=>?_
 apply wpS_seq
 apply wpS_region
 simp[wpOpsS,go_sem,recoverD,hu,panE,nt_read1,Exit.thenS]
 refine wpS_of_wp (wp_block ?_)
 refine wp_seq (wp_region ?_)
 simp[wpOps,Oper.wp,Oper.upon,go_sem,Exit.then,wrongV]
 left
 refine wp_cond_false ?_ ?_
 ·simp[Act.eval,Array.replicate]
 refine wp_seq (wp_region ?_)
 simp[wpOps,Oper.wp,Oper.upon,go_sem,Exit.then,Instr.typeAssert]
 left;left;left
 refine W.wp (N:=13) (k:=2) (K:=K) (B:=⟨I,m,hp,w,[]⟩) (E:=E47) (call:=Lm X46) (st:=⟨frW g4 g5 a,hp⟩) mixed47 E47_law Lm46_ok (R:=CR a g4 g5 hp) ?_ (by kernel_rfl) ?_ ?_ ?_
 ·repeat' (first|(refine ZN ?_)|(refine Z2 ?_ ?_)|(intro h h';try simp[*,-h] at h'))
  exact⟨rfl,rfl⟩
 ·refine⟨I,m,G,.refl _ _ _ _ _,fun t=>?_,by simp,rfl⟩
  show Rep 2 I m hp w (frW g4 g5 a t) _
  by_cases e0:t=0
  ·subst e0;simpa[Act.eval] using Rep.depth (Nat.le_succ 1) _ _ h4
  by_cases e1:t=1
  ·subst e1;simpa[Act.eval] using Rep.depth (Nat.le_succ 1) _ _ h5
  by_cases e2:t=9
  ·subst e2;simp[Act.eval,Rep]
  by_cases e3:t=10
  ·subst e3;simp[Act.eval,Rep,RepL]
  simp[frW,e0,e1,e2,e3,Rep]
 ·rintro e s a' w' ⟨rfl,rh⟩ ⟨I1,m1,G1,E1,_,_,hd⟩
  rw[rh] at G1 E1
  refine⟨hd,_,rfl,?_⟩
  refine⟨.tuple #[],by simp[results,rs_read1],?_⟩
  exact⟨rfl,rfl,I1,m1,G1,E1⟩
 ·rintro v hp' a' w' ⟨h,_⟩
  exact nomatch h
end
section
open Go Go.Ab Go.Ab.Sy
theorem Steps_linear {P:Program}{m a b:Machine}(ha:Steps P m a)(hb:Steps P m b):Steps P a b∨Steps P b a:=by
 obtain⟨n,hn⟩:=ha
 obtain⟨k,hk⟩:=hb
 rcases Nat.le_total n k with h|h
 ·obtain⟨j,rfl⟩:=Nat.exists_eq_add_of_le h
  rw[runN_add,hn] at hk
  exact .inl ⟨j,hk⟩
 ·obtain⟨j,rfl⟩:=Nat.exists_eq_add_of_le h
  rw[runN_add,hk] at hn
  exact .inr ⟨j,hn⟩
theorem Steps_ended {P:Program}{a b:Machine}{o:Outcome}{w:World}(h:Steps P a b)(he:step P a= .ended o w):b=a:=by
 obtain⟨n,hn⟩:=h
 cases n with
 |zero=>simp[runN] at hn;exact hn.symm
 |succ n=>simp[runN,he] at hn
def deadF :Frame:={fn:=0,tmps:= #[],todo:=[],defers:=[{target:= .fn (.methodOf 0 "") #[],args:= #[]}],mode:= .returning,kind:= .normal}
theorem dead_step (P:Program)(fr:Frame)(w:World)(h1:fr.defers=[{target:= .fn (.methodOf 0 "") #[],args:= #[]}])(h2:fr.mode= .returning∨ ∃c,fr.mode= .panicking c): ∃o w',step P (lone fr [] w)= .ended o w':=by
 have h: ∃o w',(stepG P true {frame:=fr,callers:=[],status:= .running,dying:=none} w).bare= .ended o w':=by
  rcases h2 with h2|⟨c,h2⟩<;>simp[stepG,unwind,callDeferred,h1,h2,go_sem]
 obtain⟨o,w',h⟩:=h
 exact⟨o,w',step_lone_ended h⟩
theorem calls_one {P:Program}{f:FuncId}{args:Array Value}{w:World}{ch:List PanicEntry}{R1:Value→World→Prop}{R2:World→Prop}(h1:Calls P f args w fun e w'=> ∃u,e= .returned u∧R1 u w')(h2:Calls P f args w fun e w'=>e= .panicked ch∧R2 w'):False:=by
 obtain⟨_,w1,f1,⟨u,rfl,_⟩,c1,_,l1⟩:=h1 [deadF]
 obtain⟨_,w2,f2,⟨rfl,_⟩,c2,_,l2⟩:=h2 [deadF]
 have s1:=Steps.trans c1 (.one (step_leave_returned l1))
 have s2:=Steps.trans c2 (.one (step_leave_panicked l2))
 obtain⟨o1,v1,e1⟩:=dead_step P (deadF.finish u) w1 rfl (.inl rfl)
 obtain⟨o2,v2,e2⟩:=dead_step P (deadF.raise ch) w2 rfl (.inr ⟨ch,rfl⟩)
 have he:lone (deadF.finish u) [] w1=lone (deadF.raise ch) [] w2:=by
  rcases Steps_linear s1 s2 with h|h
  ·exact(Steps_ended h e1).symm
  ·exact Steps_ended h e2
 simp[lone,deadF,Frame.finish,Frame.raise] at he
def s1 :ByteArray:=⟨#[102,117,110,99,32,109,97,105,110,40,41,32,123,32,112,117,116,40,39,104,39,41,59,32,112,117,116,40,39,105,39,41,59,32,125]⟩
def T1 :List (List AV):=[[iv 3,tv ⟨#[102,117,110,99]⟩,uv 0,iv 0],[iv 1,tv ⟨#[109,97,105,110]⟩,uv 0,iv 5],[iv 4,tv ⟨#[40]⟩,uv 0,iv 9],[iv 4,tv ⟨#[41]⟩,uv 0,iv 10],[iv 4,tv ⟨#[123]⟩,uv 0,iv 12],[iv 3,tv ⟨#[112,117,116]⟩,uv 0,iv 14],[iv 4,tv ⟨#[40]⟩,uv 0,iv 17],[iv 2,tv ⟨#[39,104,39]⟩,uv 104,iv 18],[iv 4,tv ⟨#[41]⟩,uv 0,iv 21],[iv 4,tv ⟨#[59]⟩,uv 0,iv 22],[iv 3,tv ⟨#[112,117,116]⟩,uv 0,iv 24],[iv 4,tv ⟨#[40]⟩,uv 0,iv 27],[iv 2,tv ⟨#[39,105,39]⟩,uv 105,iv 28],[iv 4,tv ⟨#[41]⟩,uv 0,iv 31],[iv 4,tv ⟨#[59]⟩,uv 0,iv 32],[iv 4,tv ⟨#[125]⟩,uv 0,iv 34]]
def x1 :Sy.Pr:=⟨[],[],[⟨⟨⟨#[109,97,105,110]⟩,by decide⟩,[],[],false,[.mk 3 tx0 [.mk 1 0 104 tx0 []] [] [],.mk 3 tx0 [.mk 1 0 105 tx0 []] [] []]⟩]⟩
theorem lex_x :(Lm X46).dat 135 [tv s1]=some [.vec 4 T1,iv 0,iv 0]:=lim_dat.2 ⟨200,by kernel_rfl⟩
def LX (s:ByteArray)(T:List Tok)(e:Int):Prop:=s=s1→T.map Tok.row=T1∧e=0
theorem lx_of {s:ByteArray}{T:List Tok}{a e:Int}(h:(Lm X46).dat 135 [tv s]=some [.vec 4 (T.map Tok.row),iv a,iv e]):LX s T e:=by
 rintro rfl
 rw[lex_x] at h
 injection h with h
 injection h with h1 h
 injection h with h2 h
 injection h with h3 h
 injection h1 with _ h1
 injection h3 with h3
 injection h3 with _ h3
 exact⟨h1.symm,h3.symm⟩
theorem lx_no {s:ByteArray}{T:List Tok}{e:Int}(h:LX s T e)(he:0<e):s≠s1:=fun hs=>by have:=(h hs).2;omega
theorem lx_0 {s:ByteArray}{T:List Tok}{e:Int}(h:LX s T e):LX s T 0:=fun hs=>⟨(h hs).1,rfl⟩
def HX (c1 c2 c3:AV)(g:Hp):Hp:=upd (upd (upd (fun n=>if 2≤n.d then .no 0 else g n) ⟨0,5,0⟩ (.box 1 [c1,c2,c3] false)) ⟨1,25,1⟩ (.arr 1 4 223 T1 false)) ⟨1,25,0⟩ (.box 1 [.own ⟨1,25,1⟩ 1 16,iv 0,iv 35] false)
theorem run_x (c1 c2 c3:AV)(g:Hp):((evCall Tryz.prog E47 X46 200).hpc 1 28 118 [.ptr ⟨1,25,0⟩ 1 0,.ptr ⟨0,5,0⟩ 1 0] (HX c1 c2 c3 g)).map (fun r=>(r.1,r.2 ⟨0,5,0⟩,r.2 ⟨1,25,0⟩))=some (.tup [],.box 1 x1.row false,.box 1 [.own ⟨1,25,1⟩ 1 16,iv 16,iv 35] false):=by kernel_rfl
theorem closure_x {T:List Tok}{hp1:Hp}{c1 c2 c3:AV}(hT:T.map Tok.row=T1)(hr:Rd T 35 25 1 1 0 hp1)(hb:hp1 ⟨0,5,0⟩= .box 1 [c1,c2,c3] false)(h2: ∀d i c,hp1 ⟨d+2,i,c⟩= .no 0):
  ∃hp2,(Lm X46).hpc 1 28 118 [.ptr ⟨1,25,0⟩ 1 0,.ptr ⟨0,5,0⟩ 1 0] hp1=some (.tup [],hp2)∧hp2 ⟨0,5,0⟩= .box 1 x1.row false∧hp2 ⟨1,25,0⟩= .box 1 [.own ⟨1,25,1⟩ 1 16,iv 16,iv 35] false:=by
 have hl:T.length=16:=by have:=congrArg List.length hT;simpa[T1] using this
 have hbx:=hr.box
 have har:=hr.arr
 rw[hl] at hbx
 rw[hT] at har
 have e1:HX c1 c2 c3 hp1=hp1:=by
  funext n
  obtain⟨d,i,c⟩:=n
  simp only[HX,upd]
  by_cases a1:(⟨d,i,c⟩:Nm)=⟨1,25,0⟩
  ·rw[if_pos a1,a1,hbx];rfl
  rw[if_neg a1]
  by_cases a2:(⟨d,i,c⟩:Nm)=⟨1,25,1⟩
  ·rw[if_pos a2,a2,har]
  rw[if_neg a2]
  by_cases a3:(⟨d,i,c⟩:Nm)=⟨0,5,0⟩
  ·rw[if_pos a3,a3,hb]
  rw[if_neg a3]
  by_cases a4:2≤d
  ·rw[if_pos a4]
   obtain⟨k,rfl⟩:=Nat.exists_eq_add_of_le' a4
   exact(h2 k i c).symm
  ·rw[if_neg a4]
 have h:=run_x c1 c2 c3 hp1
 rw[e1] at h
 cases hc:(evCall Tryz.prog E47 X46 200).hpc 1 28 118 [.ptr ⟨1,25,0⟩ 1 0,.ptr ⟨0,5,0⟩ 1 0] hp1 with
 |none=>rw[hc] at h;cases h
 |some r=>
  rw[hc] at h
  obtain⟨v,hp2⟩:=r
  simp only[Option.map_some,Option.some.injEq,Prod.mk.injEq] at h
  obtain⟨rfl,h5,h6⟩:=h
  exact⟨hp2,lim_hpc.2 ⟨200,hc⟩,h5,h6⟩
theorem no_world {K:Nat→Prop}{B:Base}{st:AS}{a:Act}{w:World}{gx gp nn:Nat}{v:AV}{hp2:Hp}{v':Value}{hp':Hp}(hc:(Lm X46).hpc 1 28 118 [.ptr ⟨1,25,0⟩ gx 0,.ptr ⟨0,5,0⟩ gp 0] st.hp=some (v,hp2))(hn:Pan Tryz.prog E47 (Lm X46) (.fn 1 118 [.ptr ⟨1,25,0⟩ gx 0,.ptr ⟨0,5,0⟩ gp 0] st.hp) nn v' hp')(S:StR 1 41 K B st a w)(f1:st.fr 1= .fn 118 [.ptr ⟨0,5,0⟩ gp 0])(f9:st.fr 9= .ptr ⟨1,25,0⟩ gx 0):False:=by
 obtain⟨I,m,G,_,hf,_,_⟩:=S
 have h9:=hf 9
 have h1:=hf 1
 rw[f9] at h9
 rw[f1] at h1
 obtain⟨u,h5⟩: ∃u,Rep 1 I m st.hp w (.ptr ⟨0,5,0⟩ gp 0) u:=by
  rw[Rep] at h1
  obtain⟨us,_,h1⟩:=h1
  rw[RepL] at h1
  obtain⟨v,_,_,h1,_⟩:=h1
  exact⟨v,h1⟩
 have hA:AllR (Rep 1 I m st.hp w) [.ptr ⟨1,25,0⟩ gx 0,.ptr ⟨0,5,0⟩ gp 0] [_,u]:= .cons h9 (.cons h5 .nil)
 exact calls_one (Lm46_ok.2 _ _ _ _ _ _ _ hc okFn_118 I K m w _ G hA) (pan_ok mixed47 E47_law Lm46_ok nn _ v' hp' hn I K m w _ okFn_118 G hA)
structure RH (s:ByteArray)(T:List Tok)(gp g4 g5:Nat)(hp:Hp)(st:AS):Prop where
 f0:st.fr 0=tv s
 f1:st.fr 1= .fn 118 [.ptr ⟨0,5,0⟩ gp 0]
 f4:st.fr 4= .ptr ⟨1,4,0⟩ g4 0∧st.hp ⟨1,4,0⟩= .box g4 [iv 0] false
 f5:st.fr 5= .ptr ⟨1,5,0⟩ g5 0∧st.hp ⟨1,5,0⟩= .box g5 [iv 0] false
 f6: ∃g,st.fr 6= .own ⟨1,12,1000⟩ g T.length∧st.hp ⟨1,12,1000⟩= .arr g 4 223 (T.map Tok.row) false
 low: ∀i c,st.hp ⟨0,i,c⟩=hp ⟨0,i,c⟩
 lx:LX s T 0
 u25: ∀c,st.hp ⟨1,25,c⟩=hp ⟨1,25,c⟩
 up: ∀d i c,st.hp ⟨d+2,i,c⟩=hp ⟨d+2,i,c⟩
theorem read_head {c0 c1 c2 c3 c4:Code}(hb:Tryz.f117.body=some (.seq c0 (.seq c1 (.seq c2 (.seq c3 c4))))){s:ByteArray}(hs:s.size<9223372036854775807){gp:Nat}{hp:Hp}:
  ∃T:List Tok,T.length≤20000∧Wch Tryz.prog E47 1 (Lm X46) (EndB Tryz.prog 0 0 [.cell 4 3,.cell 5 38] (fun v hp'=> ∃a e:Int,v= .tup [iv a,iv e]∧0<e∧s≠s1∧ ∀i c,hp' ⟨0,i,c⟩=hp ⟨0,i,c⟩) (fun _ _=>False)) (RH s T gp ((hp ⟨1,4,0⟩).gen+1) ((hp ⟨1,5,0⟩).gen+1) hp) [c0,c1,c2] ⟨frame0 [tv s,.fn 118 [.ptr ⟨0,5,0⟩ gp 0]],hp⟩:=by
 obtain⟨_,hL,T,at',e,h1,h2,h3,rfl⟩:=Lex_w (X:=X46) (fun _ _=>rfl) s hs
 have hx:LX s T e:=lx_of hL
 refine⟨T,h2,?_⟩
 cases hb
 simp only[Wch]
 repeat' (first|(refine ZN ?_)|(refine Z2 ?_ ?_)|(intro h h';try simp[*,-h] at h'))
 ·exact⟨at',e,rfl,by omega,lx_no hx (by omega),fun i c=>by simp⟩
 ·exact⟨by simp,by simp,⟨by simp,by simp⟩,⟨by simp,by simp⟩,⟨_,by simp;rfl,by simp⟩,fun i c=>by simp,lx_0 hx,fun c=>by simp,fun d i c=>by simp⟩
structure RT (T:List Tok)(gp g4 g5 gx gy n:Nat)(e:Int)(hp:Hp)(st:AS):Prop where
 f1:st.fr 1= .fn 118 [.ptr ⟨0,5,0⟩ gp 0]
 f4:st.fr 4= .ptr ⟨1,4,0⟩ g4 0∧st.hp ⟨1,4,0⟩= .box g4 [iv 0] false
 f5:st.fr 5= .ptr ⟨1,5,0⟩ g5 0∧st.hp ⟨1,5,0⟩= .box g5 [iv 0] false
 f9:st.fr 9= .ptr ⟨1,25,0⟩ gx 0
 rd:Rd T e 25 gx gy n st.hp
 low: ∀i c,st.hp ⟨0,i,c⟩=hp ⟨0,i,c⟩
theorem read_d5 {c0 c1 c2 c3 d5 d6 d7 d8 d9:Code}{x:Operand}(hb:Tryz.f117.body=some (.seq c0 (.seq c1 (.seq c2 (.seq c3 (.seq d5 (.seq d6 (.seq (.seq d7 (.cond x d8 .skip)) (.seq d9 .ret))))))))){s:ByteArray}{T:List Tok}{gp g4 g5:Nat}{hp:Hp}{st:AS}(hT:T.length≤20000)(h:RH s T gp g4 g5 hp st):W Tryz.prog E47 1 (Lm X46) d5 st (fun e s2=>e= .normal∧ ∃gx gy,RT T gp g4 g5 gx gy 0 s.size hp s2∧gx=(hp ⟨1,25,0⟩).gen+1∧gy=(hp ⟨1,25,1⟩).gen+1∧ ∀d i c,s2.hp ⟨d+2,i,c⟩=hp ⟨d+2,i,c⟩):=by
 obtain⟨fr,hq⟩:=st
 obtain⟨f0,f1,⟨f4,b4⟩,⟨f5,b5⟩,⟨g6,f6,b6⟩,low,hlx,u25,up⟩:=h
 simp only at f0 f1 f4 b4 f5 b5 f6 b6 low u25 up
 clear hlx
 cases hb
 repeat' (first|(refine ZN ?_)|(refine Z2 ?_ ?_)|(intro h h';try simp[*,-h] at h'))
 exact⟨rfl,(hp ⟨1,25,0⟩).gen+1,(hp ⟨1,25,1⟩).gen+1,⟨by simp[*],⟨by simp[*],by simp[*]⟩,⟨by simp[*],by simp[*]⟩,by simp[*],⟨by simp[*],by simp[*],by omega,by omega⟩,fun i c=>by simp[*]⟩,rfl,rfl,fun d i c=>by simp[*]⟩
def RC1 (T:List Tok)(e:Int)(gx gy gp:Nat)(hp1:Hp)(v:AV)(hp2:Hp)(x:Sy.Pr)(n2:Nat):Prop:=v= .tup []∧hp2 ⟨0,5,0⟩= .box gp x.row false∧x.size≤T.length∧Rd T e 25 gx gy n2 hp2∧ ∀d i c,d≤1→(⟨d,i,c⟩:Nm)≠⟨1,25,0⟩→(⟨d,i,c⟩:Nm)≠⟨0,5,0⟩→hp2 ⟨d,i,c⟩=hp1 ⟨d,i,c⟩
structure RQ (T:List Tok)(gp g4 g5 gx gy n:Nat)(e:Int)(hp:Hp)(p:Sy.Pr)(st:AS):Prop where
 f4:st.fr 4= .ptr ⟨1,4,0⟩ g4 0∧st.hp ⟨1,4,0⟩= .box g4 [iv 0] false
 f5:st.fr 5= .ptr ⟨1,5,0⟩ g5 0∧st.hp ⟨1,5,0⟩= .box g5 [iv 0] false
 f9:st.fr 9= .ptr ⟨1,25,0⟩ gx 0
 rd:Rd T e 25 gx gy n st.hp
 bx:st.hp ⟨0,5,0⟩= .box gp p.row false
 low: ∀i c,(⟨0,i,c⟩:Nm)≠⟨0,5,0⟩→st.hp ⟨0,i,c⟩=hp ⟨0,i,c⟩
theorem read_d6 {c0 c1 c2 c3 d5 d6 d7 d8 d9:Code}{x:Operand}(hb:Tryz.f117.body=some (.seq c0 (.seq c1 (.seq c2 (.seq c3 (.seq d5 (.seq d6 (.seq (.seq d7 (.cond x d8 .skip)) (.seq d9 .ret))))))))){T:List Tok}{gp g4 g5 gx gy:Nat}{e:Int}{hp:Hp}{st:AS}{v:AV}{hp2:Hp}{p:Sy.Pr}{n:Nat}(h:RT T gp g4 g5 gx gy 0 e hp st)(hc:(Lm X46).hpc 1 28 118 [.ptr ⟨1,25,0⟩ gx 0,.ptr ⟨0,5,0⟩ gp 0] st.hp=some (v,hp2))(hr:RC1 T e gx gy gp st.hp v hp2 p n):
  W Tryz.prog E47 1 (Lm X46) d6 st (fun e1 s2=>e1= .normal∧RQ T gp g4 g5 gx gy n e hp p s2):=by
 obtain⟨fr,hq⟩:=st
 obtain⟨f1,⟨f4,b4⟩,⟨f5,b5⟩,f9,rd,low⟩:=h
 obtain⟨rfl,hb5,hps,hrd,hlow⟩:=hr
 simp only at f1 f4 b4 f5 b5 f9 rd low hc hlow
 cases hb
 repeat' (first|(refine ZN ?_)|(refine Z2 ?_ ?_)|(intro h h';try simp[*,-h] at h'))
 exact⟨rfl,⟨by simp[*],by rw[←b4];exact hlow 1 4 0 (by omega) (by simp) (by simp)⟩,⟨by simp[*],by rw[←b5];exact hlow 1 5 0 (by omega) (by simp) (by simp)⟩,by simp[*],hrd,hb5,fun i c hne=>(hlow 0 i c (by omega) (by simp) hne).trans (low i c)⟩
theorem read_d6p {c0 c1 c2 c3 d5 d6 d7 d8 d9:Code}{x:Operand}(hb:Tryz.f117.body=some (.seq c0 (.seq c1 (.seq c2 (.seq c3 (.seq d5 (.seq d6 (.seq (.seq d7 (.cond x d8 .skip)) (.seq d9 .ret))))))))){T:List Tok}{gp g4 g5 gx gy nn N:Nat}{e:Int}{hp:Hp}{st:AS}{v:Value}{hp':Hp}{K:Nat→Prop}{B:Base}{a:Act}{w:World}{Q:Exit→Act→World→Prop}(hN:N=41)(h:RT T gp g4 g5 gx gy 0 e hp st)(hc:Pan Tryz.prog E47 (Lm X46) (.fn 1 118 [.ptr ⟨1,25,0⟩ gx 0,.ptr ⟨0,5,0⟩ gp 0] st.hp) nn v hp')(S:StR 1 N K B st a w)
  (hQ: ∀fr a' w',fr 4=st.fr 4→fr 5=st.fr 5→StR 1 N K B ⟨fr,hp'⟩ a' w'→Q (.panic (panE v)) a' w'):d6.wp Tryz.prog Q a w:=by
 subst hN
 obtain⟨fr,hq⟩:=st
 obtain⟨f1,_,_,f9,_,_⟩:=h
 simp only at f1 f9 hc
 have hcal:PanCalls Tryz.prog 1 118 [.ptr ⟨1,25,0⟩ gx 0,.ptr ⟨0,5,0⟩ gp 0] hq v hp':=pan_ok mixed47 E47_law Lm46_ok nn _ v hp' hc
 cases hb
 refine region_panS (P:=Tryz.prog) (E:=E47) (call:=Lm X46) (k:=1) (pre:=[_,_]) (st':=⟨setd (setd fr (some 26) (fr 1)) (some 27) (fr 9),hq⟩) (f:=118) (cs:=[.ptr ⟨0,5,0⟩ gp 0]) (v:=v) (hp':=hp') E47_law Lm46_ok (by kernel_rfl) S rfl ?_ okFn_118 (by decide) ?_ ?_
 ·simp[f1]
 ·simpa[f9] using hcal
 ·exact fun a' w' S'=>hQ (setd (setd fr (some 26) (fr 1)) (some 27) (fr 9)) a' w' rfl rfl S'
theorem read_d7 {c0 c1 c2 c3 d5 d6 d7 d8 d9:Code}{x:Operand}(hb:Tryz.f117.body=some (.seq c0 (.seq c1 (.seq c2 (.seq c3 (.seq d5 (.seq d6 (.seq (.seq d7 (.cond x d8 .skip)) (.seq d9 .ret))))))))){T:List Tok}{gp g4 g5 gx gy n:Nat}{e:Int}{hp:Hp}{p:Sy.Pr}{st:AS}(h:RQ T gp g4 g5 gx gy n e hp p st):
  W Tryz.prog E47 1 (Lm X46) d7 st (fun e1 s2=>e1= .normal∧opA s2.fr x=bv (decide (n<T.length))∧RQ T gp g4 g5 gx gy n e hp p s2):=by
 obtain⟨fr,hq⟩:=st
 obtain⟨⟨f4,b4⟩,⟨f5,b5⟩,f9,⟨h1,h2,hlen,hle⟩,bx,low⟩:=h
 simp only at f4 b4 f5 b5 f9 bx low h1 h2
 cases hb
 repeat' (first|(refine ZN ?_)|(refine Z2 ?_ ?_)|(intro h h';try simp[*,-h] at h'))
 exact⟨rfl,by simp[opA],⟨by simp[*],by simp[*]⟩,⟨by simp[*],by simp[*]⟩,by simp[*],⟨h1,h2,hlen,hle⟩,bx,low⟩
theorem read_d8p {c0 c1 c2 c3 d5 d6 d7 d8 d9:Code}{x:Operand}(hb:Tryz.f117.body=some (.seq c0 (.seq c1 (.seq c2 (.seq c3 (.seq d5 (.seq d6 (.seq (.seq d7 (.cond x d8 .skip)) (.seq d9 .ret))))))))){T:List Tok}{gp g4 g5 gx gy n N nn:Nat}{e:Int}{hp:Hp}{p:Sy.Pr}{st:AS}{K:Nat→Prop}{B:Base}{v:Value}{hp':Hp}{a:Act}{w:World}{Q:Exit→Act→World→Prop}(hN:N=41)(h:RQ T gp g4 g5 gx gy n e hp p st)(hc:Pan Tryz.prog E47 (Lm X46) (.fn 1 137 [.ptr ⟨1,25,0⟩ gx 0] st.hp) nn v hp')(S:StR 1 N K B st a w)
  (hQ: ∀fr a' w',fr 4=st.fr 4→fr 5=st.fr 5→StR 1 N K B ⟨fr,hp'⟩ a' w'→Q (.panic (panE v)) a' w'):d8.wp Tryz.prog Q a w:=by
 subst hN
 obtain⟨fr,hq⟩:=st
 obtain⟨_,_,f9,rd,_,_⟩:=h
 simp only at f9 rd hc
 have hcal:PanCalls Tryz.prog 1 137 [.ptr ⟨1,25,0⟩ gx 0] hq v hp':=pan_ok mixed47 E47_law Lm46_ok nn _ v hp' hc
 cases hb
 refine region_panS (P:=Tryz.prog) (E:=E47) (call:=Lm X46) (k:=1) (pre:=[_]) (st':=⟨setd fr (some 39) (fr 9),hq⟩) (f:=137) (cs:=[]) (v:=v) (hp':=hp') E47_law Lm46_ok (by kernel_rfl) S rfl ?_ okFn_137 (by decide) ?_ ?_
 ·simp[opA]
 ·simpa[f9] using hcal
 ·exact fun a' w' S'=>hQ (setd fr (some 39) (fr 9)) a' w' rfl rfl S'
theorem read_d9 {c0 c1 c2 c3 d5 d6 d7 d8 d9:Code}{x:Operand}(hb:Tryz.f117.body=some (.seq c0 (.seq c1 (.seq c2 (.seq c3 (.seq d5 (.seq d6 (.seq (.seq d7 (.cond x d8 .skip)) (.seq d9 .ret))))))))){T:List Tok}{gp g4 g5 gx gy n:Nat}{e:Int}{hp:Hp}{p:Sy.Pr}{st:AS}(h:RQ T gp g4 g5 gx gy n e hp p st):
  W Tryz.prog E47 1 (Lm X46) (.seq d9 .ret) st (fun e1 s2=>e1= .ret∧RQ T gp g4 g5 gx gy n e hp p s2):=by
 obtain⟨fr,hq⟩:=st
 obtain⟨⟨f4,b4⟩,⟨f5,b5⟩,f9,⟨h1,h2,hlen,hle⟩,bx,low⟩:=h
 simp only at f4 b4 f5 b5 f9 bx low h1 h2
 cases hb
 repeat' (first|(refine ZN ?_)|(refine Z2 ?_ ?_)|(intro h h';try simp[*,-h] at h'))
 exact⟨rfl,⟨by simp[*],by simp[*]⟩,⟨by simp[*],by simp[*]⟩,by simp[*],⟨by simp[*],by simp[*],hlen,hle⟩,by simp[*],fun i c hne=>by simpa using low i c hne⟩
theorem rs_read :Tryz.f117.results.toList=[.cell 4 3,.cell 5 38]:=rfl
theorem read_end {N:Nat}{K:Nat→Prop}{B:Base}{fr:Nat→AV}{hq:Hp}{act:Act}{w:World}{a e:Int}{g4 g5:Nat}(S:StR 1 N K B ⟨fr,hq⟩ act w)(f4:fr 4= .ptr ⟨1,4,0⟩ g4 0)(b4:hq ⟨1,4,0⟩= .box g4 [iv a] false)(f5:fr 5= .ptr ⟨1,5,0⟩ g5 0)(b5:hq ⟨1,5,0⟩= .box g5 [iv e] false):
  ∃v,(results Tryz.f117 act.tmps).run Tryz.prog w= .ok v w∧ ∃I' m',Sim I' K m' hq w (.tup [iv a,iv e]) 0 B.I B.m B.hp B.w v:=by
 obtain⟨I1,m1,G1,E1,hf1,_,hd1⟩:=S
 have h:(lowerRes Tryz.prog fr 0 0 [.cell 4 3,.cell 5 38]).run hq=some (.tup [iv a,iv e],hq):=by
  simp[f4,f5,b4,b5]
 obtain⟨us',hrun,I2,m2,G2,E2,R2⟩:=lowerRes_ok (k:=0) G1 hf1 h
 exact⟨retV us',run_results _ _ us' (by rw[rs_read];exact hrun),I2,m2,G2,E1.trans E2,R2⟩
theorem read_c3 {c0 c1 c2 c3 d5 d6 d7 d8 d9:Code}{x:Operand}(hb:Tryz.f117.body=some (.seq c0 (.seq c1 (.seq c2 (.seq c3 (.seq d5 (.seq d6 (.seq (.seq d7 (.cond x d8 .skip)) (.seq d9 .ret))))))))){a:Act}{w:World}{Q:Exit→Act→World→Prop}(hs:a.tmps.size=41)
  (hQ:Q .normal {(a.put (some 20) (.func (.func 136) #[] #[a.eval (.tmp 4),a.eval (.tmp 5)])) with defers:={target:= .fn (.func 136) #[a.eval (.tmp 4),a.eval (.tmp 5)],args:= #[]}::a.defers} w):c3.wp Tryz.prog Q a w:=by
 cases hb
 refine wp_region ?_
 have hmf: ∀(fn:Fn) (first cap:Array Value) (w:World),(Instr.makeFunc fn first cap).run Tryz.prog w= .ok (.func fn first cap) w:=fun _ _ _ _=>rfl
 simp[wpOps,Oper.wp,Oper.upon,go_sem,hmf,Region.wanted,hs]
 exact .inl (.inl (by simpa[Act.put,Act.eval,hs] using hQ))
end
end Go.Proofs.YtpedpkegmalgmaaGreatDoor
