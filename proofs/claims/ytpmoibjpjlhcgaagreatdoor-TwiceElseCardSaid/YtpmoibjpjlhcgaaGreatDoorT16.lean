/- A part of the proof: Ed, Ee, Ef, Fa, Fb, Fc, Fd, Fe, Gu. -/
import Derived.Test.YtpmoibjpjlhcgaaGreatDoorT15
import Derived.Test.YtpmoibjpjlhcgaaGreatDoorT13
set_option linter.unusedSimpArgs false
set_option linter.unusedVariables false
set_option maxRecDepth 200000
set_option maxHeartbeats 8000000
namespace Go.Proofs.YtpmoibjpjlhcgaaGreatDoor
section
open Go Go.Ab Go.Ab.Sy
theorem em1_w {d k N fn:Nat}{hp1:Hp}{P:GP}{dep:Int}{dn:Nat->Prop}{o a b n:Int}(hfn:fn<P.n)(hcs:GT P fn dep dn N N hp1)(hN:N<=3700000000000):HB P0 E47 (Lm X47) k d 179 [.ptr ⟨0,29,0⟩ 1 0,.agg [iv o,iv a,iv b,uv n]] hp1 (fun v hp2=>v= .tup []/\(∃N2,N+0<=N2/\N2<=N+2600/\GT P fn dep dn N2 N2 hp2)/\KG k hp1 hp2) (fun _ _=>False):=by
 refine Af (k1:=k+1) (PR:=fun _ _=>False) rfl Tryz.func179 (Aj Zd) rfl Afa rfl rvs_179 ?_
 have HK:=KG.refl k hp1
 repeat' (first|refine ZN ?_|refine Z2 ?_ ?_|(intro h h';try simp[*,-h] at h')|((with_reducible apply Ap (f:=123));exact Zv;(apply Bk);exact ZG;exact ZT;(refine KG.aft HK ?_;clear hcs HK;intro hp2 hO2 hcs HK))|((with_reducible apply Ap (f:=184));exact Zv;(apply Ck);exact hfn;exact ZG;exact ZT;(refine KG.aft HK ?_;clear hcs HK;intro hp2 hO2 hcs HK))|((with_reducible apply Ap (f:=181));exact Zv;(apply Ch);exact hfn;exact ZG;exact ZT;(refine KG.aft HK ?_;clear hcs HK;intro hp2 hO2 hcs HK))|((with_reducible apply Ap (f:=180));exact Zv;(apply Ca);exact ZG;exact ZT;(refine KG.aft HK ?_;clear hcs HK;rintro hp2 hO2 ⟨N2,hN1,hN2,hcs⟩ HK))|fail)
 all_goals exact⟨rfl,⟨_,Zo,Zo,hcs⟩,HK⟩
theorem em2_w {d k N fn:Nat}{hp1:Hp}{P:GP}{dep:Int}{dn:Nat->Prop}{o a b n:Int}(hfn:fn<P.n)(hcs:GT P fn dep dn N N hp1)(hN:N<=3700000000000):HB P0 E47 (Lm X47) k d 182 [.ptr ⟨0,29,0⟩ 1 0,.agg [iv o,iv a,iv b,uv n]] hp1 (fun v hp2=>v= .tup []/\(∃N2,N+0<=N2/\N2<=N+2600/\GT P fn dep dn N2 N2 hp2)/\KG k hp1 hp2) (fun _ _=>False):=by
 refine Af (k1:=k+1) (PR:=fun _ _=>False) rfl Tryz.func182 (Aj Zd) rfl Aca rfl rvs_182 ?_
 have HK:=KG.refl k hp1
 repeat' (first|refine ZN ?_|refine Z2 ?_ ?_|(intro h h';try simp[*,-h] at h')|((with_reducible apply Ap (f:=123));exact Zv;(apply Bk);exact ZG;exact ZT;(refine KG.aft HK ?_;clear hcs HK;intro hp2 hO2 hcs HK))|((with_reducible apply Ap (f:=184));exact Zv;(apply Ck);exact hfn;exact ZG;exact ZT;(refine KG.aft HK ?_;clear hcs HK;intro hp2 hO2 hcs HK))|((with_reducible apply Ap (f:=181));exact Zv;(apply Ch);exact hfn;exact ZG;exact ZT;(refine KG.aft HK ?_;clear hcs HK;intro hp2 hO2 hcs HK))|((with_reducible apply Ap (f:=180));exact Zv;(apply Ca);exact ZG;exact ZT;(refine KG.aft HK ?_;clear hcs HK;rintro hp2 hO2 ⟨N2,hN1,hN2,hcs⟩ HK))|fail)
 all_goals exact⟨rfl,⟨_,Zo,Zo,hcs⟩,HK⟩
theorem em3_w {d k N fn:Nat}{hp1:Hp}{P:GP}{dep:Int}{dn:Nat->Prop}{o a b n:Int}(hfn:fn<P.n)(hcs:GT P fn dep dn N N hp1)(hN:N<=3700000000000):HB P0 E47 (Lm X47) k d 183 [.ptr ⟨0,29,0⟩ 1 0,.agg [iv o,iv a,iv b,uv n]] hp1 (fun v hp2=>v= .tup []/\(∃N2,N+0<=N2/\N2<=N+2600/\GT P fn dep dn N2 N2 hp2)/\KG k hp1 hp2) (fun _ _=>False):=by
 refine Af (k1:=k+1) (PR:=fun _ _=>False) rfl Tryz.func183 (Aj Zd) rfl Aba rfl rvs_183 ?_
 have HK:=KG.refl k hp1
 repeat' (first|refine ZN ?_|refine Z2 ?_ ?_|(intro h h';try simp[*,-h] at h')|((with_reducible apply Ap (f:=123));exact Zv;(apply Bk);exact ZG;exact ZT;(refine KG.aft HK ?_;clear hcs HK;intro hp2 hO2 hcs HK))|((with_reducible apply Ap (f:=184));exact Zv;(apply Ck);exact hfn;exact ZG;exact ZT;(refine KG.aft HK ?_;clear hcs HK;intro hp2 hO2 hcs HK))|((with_reducible apply Ap (f:=181));exact Zv;(apply Ch);exact hfn;exact ZG;exact ZT;(refine KG.aft HK ?_;clear hcs HK;intro hp2 hO2 hcs HK))|((with_reducible apply Ap (f:=180));exact Zv;(apply Ca);exact ZG;exact ZT;(refine KG.aft HK ?_;clear hcs HK;rintro hp2 hO2 ⟨N2,hN1,hN2,hcs⟩ HK))|fail)
 all_goals exact⟨rfl,⟨_,Zo,Zo,hcs⟩,HK⟩
theorem em4_w {d k N fn:Nat}{hp1:Hp}{P:GP}{dep:Int}{dn:Nat->Prop}{o a b n:Int}(hfn:fn<P.n)(hcs:GT P fn dep dn N N hp1)(hN:N<=3700000000000):HB P0 E47 (Lm X47) k d 185 [.ptr ⟨0,29,0⟩ 1 0,.agg [iv o,iv a,iv b,uv n]] hp1 (fun v hp2=>v= .tup []/\(∃N2,N+0<=N2/\N2<=N+2600/\GT P fn dep dn N2 N2 hp2)/\KG k hp1 hp2) (fun _ _=>False):=by
 refine Af (k1:=k+1) (PR:=fun _ _=>False) rfl Tryz.func185 (Aj Zd) rfl Z9 rfl rvs_185 ?_
 have HK:=KG.refl k hp1
 repeat' (first|refine ZN ?_|refine Z2 ?_ ?_|(intro h h';try simp[*,-h] at h')|((with_reducible apply Ap (f:=123));exact Zv;(apply Bk);exact ZG;exact ZT;(refine KG.aft HK ?_;clear hcs HK;intro hp2 hO2 hcs HK))|((with_reducible apply Ap (f:=184));exact Zv;(apply Ck);exact hfn;exact ZG;exact ZT;(refine KG.aft HK ?_;clear hcs HK;intro hp2 hO2 hcs HK))|((with_reducible apply Ap (f:=181));exact Zv;(apply Ch);exact hfn;exact ZG;exact ZT;(refine KG.aft HK ?_;clear hcs HK;intro hp2 hO2 hcs HK))|((with_reducible apply Ap (f:=180));exact Zv;(apply Ca);exact ZG;exact ZT;(refine KG.aft HK ?_;clear hcs HK;rintro hp2 hO2 ⟨N2,hN1,hN2,hcs⟩ HK))|fail)
 all_goals exact⟨rfl,⟨_,Zo,Zo,hcs⟩,HK⟩
theorem em5_w {d k N fn:Nat}{hp1:Hp}{P:GP}{dep:Int}{dn:Nat->Prop}{o a b n:Int}(hfn:fn<P.n)(hcs:GT P fn dep dn N N hp1)(hN:N<=3700000000000):HB P0 E47 (Lm X47) k d 186 [.ptr ⟨0,29,0⟩ 1 0,.agg [iv o,iv a,iv b,uv n]] hp1 (fun v hp2=>v= .tup []/\(∃N2,N+0<=N2/\N2<=N+2600/\GT P fn dep dn N2 N2 hp2)/\KG k hp1 hp2) (fun _ _=>False):=by
 refine Af (k1:=k+1) (PR:=fun _ _=>False) rfl Tryz.func186 (Aj Zd) rfl Z7 rfl rvs_186 ?_
 have HK:=KG.refl k hp1
 repeat' (first|refine ZN ?_|refine Z2 ?_ ?_|(intro h h';try simp[*,-h] at h')|((with_reducible apply Ap (f:=123));exact Zv;(apply Bk);exact ZG;exact ZT;(refine KG.aft HK ?_;clear hcs HK;intro hp2 hO2 hcs HK))|((with_reducible apply Ap (f:=184));exact Zv;(apply Ck);exact hfn;exact ZG;exact ZT;(refine KG.aft HK ?_;clear hcs HK;intro hp2 hO2 hcs HK))|((with_reducible apply Ap (f:=181));exact Zv;(apply Ch);exact hfn;exact ZG;exact ZT;(refine KG.aft HK ?_;clear hcs HK;intro hp2 hO2 hcs HK))|((with_reducible apply Ap (f:=180));exact Zv;(apply Ca);exact ZG;exact ZT;(refine KG.aft HK ?_;clear hcs HK;rintro hp2 hO2 ⟨N2,hN1,hN2,hcs⟩ HK))|fail)
 all_goals exact⟨rfl,⟨_,Zo,Zo,hcs⟩,HK⟩
theorem em6_w {d k N fn:Nat}{hp1:Hp}{P:GP}{dep:Int}{dn:Nat->Prop}{o a b n:Int}(hfn:fn<P.n)(hcs:GT P fn dep dn N N hp1)(hN:N<=3700000000000):HB P0 E47 (Lm X47) k d 187 [.ptr ⟨0,29,0⟩ 1 0,.agg [iv o,iv a,iv b,uv n]] hp1 (fun v hp2=>v= .tup []/\(∃N2,N+0<=N2/\N2<=N+2600/\GT P fn dep dn N2 N2 hp2)/\KG k hp1 hp2) (fun _ _=>False):=by
 refine Af (k1:=k+1) (PR:=fun _ _=>False) rfl Tryz.func187 (Aj Zd) rfl Z4 rfl rvs_187 ?_
 have HK:=KG.refl k hp1
 repeat' (first|refine ZN ?_|refine Z2 ?_ ?_|(intro h h';try simp[*,-h] at h')|((with_reducible apply Ap (f:=123));exact Zv;(apply Bk);exact ZG;exact ZT;(refine KG.aft HK ?_;clear hcs HK;intro hp2 hO2 hcs HK))|((with_reducible apply Ap (f:=184));exact Zv;(apply Ck);exact hfn;exact ZG;exact ZT;(refine KG.aft HK ?_;clear hcs HK;intro hp2 hO2 hcs HK))|((with_reducible apply Ap (f:=181));exact Zv;(apply Ch);exact hfn;exact ZG;exact ZT;(refine KG.aft HK ?_;clear hcs HK;intro hp2 hO2 hcs HK))|((with_reducible apply Ap (f:=180));exact Zv;(apply Ca);exact ZG;exact ZT;(refine KG.aft HK ?_;clear hcs HK;rintro hp2 hO2 ⟨N2,hN1,hN2,hcs⟩ HK))|fail)
 all_goals exact⟨rfl,⟨_,Zo,Zo,hcs⟩,HK⟩
theorem em7_w {d k N fn:Nat}{hp1:Hp}{P:GP}{dep:Int}{dn:Nat->Prop}{o a b n:Int}(hfn:fn<P.n)(hcs:GT P fn dep dn N N hp1)(hN:N<=3700000000000):HB P0 E47 (Lm X47) k d 188 [.ptr ⟨0,29,0⟩ 1 0,.agg [iv o,iv a,iv b,uv n]] hp1 (fun v hp2=>v= .tup []/\(∃N2,N+0<=N2/\N2<=N+2600/\GT P fn dep dn N2 N2 hp2)/\KG k hp1 hp2) (fun _ _=>False):=by
 refine Af (k1:=k+1) (PR:=fun _ _=>False) rfl Tryz.func188 (Aj Zd) rfl Z3 rfl rvs_188 ?_
 have HK:=KG.refl k hp1
 repeat' (first|refine ZN ?_|refine Z2 ?_ ?_|(intro h h';try simp[*,-h] at h')|((with_reducible apply Ap (f:=123));exact Zv;(apply Bk);exact ZG;exact ZT;(refine KG.aft HK ?_;clear hcs HK;intro hp2 hO2 hcs HK))|((with_reducible apply Ap (f:=184));exact Zv;(apply Ck);exact hfn;exact ZG;exact ZT;(refine KG.aft HK ?_;clear hcs HK;intro hp2 hO2 hcs HK))|((with_reducible apply Ap (f:=181));exact Zv;(apply Ch);exact hfn;exact ZG;exact ZT;(refine KG.aft HK ?_;clear hcs HK;intro hp2 hO2 hcs HK))|((with_reducible apply Ap (f:=180));exact Zv;(apply Ca);exact ZG;exact ZT;(refine KG.aft HK ?_;clear hcs HK;rintro hp2 hO2 ⟨N2,hN1,hN2,hcs⟩ HK))|fail)
 all_goals exact⟨rfl,⟨_,Zo,Zo,hcs⟩,HK⟩
theorem em12_w {d k N fn:Nat}{hp1:Hp}{P:GP}{dep:Int}{dn:Nat->Prop}{o a b n:Int}(hfn:fn<P.n)(hcs:GT P fn dep dn N N hp1)(hN:N<=3700000000000):HB P0 E47 (Lm X47) k d 196 [.ptr ⟨0,29,0⟩ 1 0,.agg [iv o,iv a,iv b,uv n]] hp1 (fun v hp2=>v= .tup []/\(∃N2,N+0<=N2/\N2<=N+2600/\GT P fn dep dn N2 N2 hp2)/\KG k hp1 hp2) (fun _ _=>False):=by
 refine Af (k1:=k+1) (PR:=fun _ _=>False) rfl Tryz.func196 (Aj Zd) rfl Zb rfl rvs_196 ?_
 have HK:=KG.refl k hp1
 repeat' (first|refine ZN ?_|refine Z2 ?_ ?_|(intro h h';try simp[*,-h] at h')|((with_reducible apply Ap (f:=123));exact Zv;(apply Bk);exact ZG;exact ZT;(refine KG.aft HK ?_;clear hcs HK;intro hp2 hO2 hcs HK))|((with_reducible apply Ap (f:=184));exact Zv;(apply Ck);exact hfn;exact ZG;exact ZT;(refine KG.aft HK ?_;clear hcs HK;intro hp2 hO2 hcs HK))|((with_reducible apply Ap (f:=181));exact Zv;(apply Ch);exact hfn;exact ZG;exact ZT;(refine KG.aft HK ?_;clear hcs HK;intro hp2 hO2 hcs HK))|((with_reducible apply Ap (f:=180));exact Zv;(apply Ca);exact ZG;exact ZT;(refine KG.aft HK ?_;clear hcs HK;rintro hp2 hO2 ⟨N2,hN1,hN2,hcs⟩ HK))|fail)
 all_goals exact⟨rfl,⟨_,Zo,Zo,hcs⟩,HK⟩
theorem em13_w {d k N fn:Nat}{hp1:Hp}{P:GP}{dep:Int}{dn:Nat->Prop}{o a b n:Int}(hfn:fn<P.n)(hcs:GT P fn dep dn N N hp1)(hN:N<=3700000000000):HB P0 E47 (Lm X47) k d 197 [.ptr ⟨0,29,0⟩ 1 0,.agg [iv o,iv a,iv b,uv n]] hp1 (fun v hp2=>v= .tup []/\(∃N2,N+0<=N2/\N2<=N+2600/\GT P fn dep dn N2 N2 hp2)/\KG k hp1 hp2) (fun _ _=>False):=by
 refine Af (k1:=k+1) (PR:=fun _ _=>False) rfl Tryz.func197 (Aj Zd) rfl Za rfl rvs_197 ?_
 have HK:=KG.refl k hp1
 repeat' (first|refine ZN ?_|refine Z2 ?_ ?_|(intro h h';try simp[*,-h] at h')|((with_reducible apply Ap (f:=123));exact Zv;(apply Bk);exact ZG;exact ZT;(refine KG.aft HK ?_;clear hcs HK;intro hp2 hO2 hcs HK))|((with_reducible apply Ap (f:=184));exact Zv;(apply Ck);exact hfn;exact ZG;exact ZT;(refine KG.aft HK ?_;clear hcs HK;intro hp2 hO2 hcs HK))|((with_reducible apply Ap (f:=181));exact Zv;(apply Ch);exact hfn;exact ZG;exact ZT;(refine KG.aft HK ?_;clear hcs HK;intro hp2 hO2 hcs HK))|((with_reducible apply Ap (f:=180));exact Zv;(apply Ca);exact ZG;exact ZT;(refine KG.aft HK ?_;clear hcs HK;rintro hp2 hO2 ⟨N2,hN1,hN2,hcs⟩ HK))|fail)
 all_goals exact⟨rfl,⟨_,Zo,Zo,hcs⟩,HK⟩
theorem em10_w {d k N fn:Nat}{hp1:Hp}{P:GP}{dep:Int}{dn:Nat->Prop}{o b n:Int}{a:Nat}{G:Sf}(hG:P.sfs[a]?=some G)(hfn:fn<P.n)(hcs:GT P fn dep dn N N hp1)(hN:N<=3700000000000):HB P0 E47 (Lm X47) k d 192 [.ptr ⟨0,29,0⟩ 1 0,.agg [iv o,iv a,iv b,uv n]] hp1 (fun v hp2=>v= .tup []/\(∃N2,N+0<=N2/\N2<=N+2600/\GT P fn dep dn N2 N2 hp2)/\KG k hp1 hp2) (fun _ _=>False):=by
 refine Af (k1:=k+1) (PR:=fun _ _=>False) rfl Tryz.func192 (Aj Zd) rfl Zt rfl rvs_192 ?_
 have HK:=KG.refl k hp1
 have HG:=Lib.hid hG
 clear hG
 repeat' (first|refine ZN ?_|refine Z2 ?_ ?_|(intro h h';try simp[*,-h] at h')|((with_reducible apply Ap (f:=193));exact Zv;(apply(ecall_w HG.out hfn));exact ZG;exact ZT;(refine KG.aft HK ?_;clear hcs HK;rintro hp2 hO2 ⟨N2,hN1,hN2,hcs⟩ HK))|fail)
 exact⟨rfl,⟨_,Zo,Zo,hcs⟩,HK⟩
theorem em11_w {d k N fn:Nat}{hp1:Hp}{P:GP}{dep:Int}{dn:Nat->Prop}{o a b n:Int}(hfn:fn<P.n)(hcs:GT P fn dep dn N N hp1)(hN:N<=3700000000000):HB P0 E47 (Lm X47) k d 194 [.ptr ⟨0,29,0⟩ 1 0,.agg [iv o,iv a,iv b,uv n]] hp1 (fun v hp2=>v= .tup []/\(∃N2,N+0<=N2/\N2<=N+2600/\GT P fn dep dn N2 N2 hp2)/\KG k hp1 hp2) (fun _ _=>False):=by
 refine Af (k1:=k+1) (PR:=fun _ _=>False) rfl Tryz.func194 (Aj Zd) rfl Zg rfl rvs_194 ?_
 have HK:=KG.refl k hp1
 repeat' (first|refine ZN ?_|refine Z2 ?_ ?_|(intro h h';try simp[*,-h] at h')|((with_reducible apply Ap (f:=195));exact Zv;(apply(L5a hfn));exact ZG;exact ZT;(refine KG.aft HK ?_;clear hcs HK;rintro hp2 hO2 ⟨N2,hN1,hN2,hcs⟩ HK))|fail)
 exact⟨rfl,⟨_,Zo,Zo,hcs⟩,HK⟩
theorem em8_w {d k N fn:Nat}{hp1:Hp}{P:GP}{dep:Int}{dn:Nat->Prop}{o b n:Int}{q:Nat}{F:Sf}(hF:P.sfs[fn]?=some F)(hq:q<F.code.length)(hfn:fn<P.n)(hcs:GT P fn dep dn N N hp1)(hN:N<=3700000000000):HB P0 E47 (Lm X47) k d 189 [.ptr ⟨0,29,0⟩ 1 0,.agg [iv o,iv q,iv b,uv n]] hp1 (fun v hp2=>v= .tup []/\(∃N2,N+0<=N2/\N2<=N+2600/\GT P fn dep dn N2 N2 hp2)/\KG k hp1 hp2) (fun _ _=>False):=by
 refine Af (k1:=k+1) (PR:=fun _ _=>False) rfl Tryz.func189 (Aj Zd) rfl Z0 rfl rvs_189 ?_
 have hcs0:=hcs
 obtain⟨gc,gh,c,hl,en,cells,hcN,hhl,hen,hce,hho,b0,b3,b4,b5,b7,b8,b10,q0,hpl⟩:=hcs0
 have tkc:=Bj hcN
 have HHO:=Lib.hid hho
 have HPL:=Lib.hid hpl
 have HEN:=Lib.hid hen
 have HCE:=Lib.hid hce
 clear hho hpl hen hce
 have HK:=KG.refl k hp1
 have hho: ∀M:Nat,HoK P (M+1) ((M:Int),(fn:Int),(q:Int)):=fun M=>⟨M,fn,F,rfl,Zo,rfl,hF,Or.inr ⟨q,rfl,hq⟩⟩
 have HOK:=Lib.hid hho
 clear hho hF hq
 repeat' (first|refine ZN ?_|refine Z2 ?_ ?_|(intro h h';try simp[*,-h] at h'))
 have hpX:=Nd (d:=11) (k:=k+1) (op:=18) (r:=0) (fh:=fn) (pl:=q) (hp1:=(upd hp1 ⟨k+1,3,0⟩ (.box ((hp1 ⟨k+1,3,0⟩).gen+1) [iv o,iv q,iv b,uv n] false))) (GT.congr hcs (fun i c h=>Zi)) Zo (HOK.out N)
 rcases hpX with⟨v,hp2,hcall,rfl,hcn,hk2⟩|⟨_,_,_,_,h⟩
 rotate_left
 ·exact h.elim
 repeat' (first|((with_reducible apply Bd (d:=4));exact rfl;(exact Dx [] Zz))|(refine Z1 ?_)|(refine Z2 ?_ ?_)|(intro h h';try simp[*,-h] at h'))
 have HKn:=KG.step HK hk2 Zo (fun d i c hd=>by simp[Zl hd]);have hO2:=hk2.own Zo;clear hcs HK;have hcs:=hcn;have HK:=HKn;clear hcn HKn hk2
 exact⟨rfl,⟨_,Zo,Zo,hcs⟩,HK⟩
theorem em9_w {d k N fn:Nat}{hp1:Hp}{P:GP}{dep:Int}{dn:Nat->Prop}{o b n:Int}{q:Nat}{F:Sf}(hF:P.sfs[fn]?=some F)(hq:q<F.code.length)(hfn:fn<P.n)(hcs:GT P fn dep dn N N hp1)(hN:N<=3700000000000):HB P0 E47 (Lm X47) k d 191 [.ptr ⟨0,29,0⟩ 1 0,.agg [iv o,iv q,iv b,uv n]] hp1 (fun v hp2=>v= .tup []/\(∃N2,N+0<=N2/\N2<=N+2600/\GT P fn dep dn N2 N2 hp2)/\KG k hp1 hp2) (fun _ _=>False):=by
 refine Af (k1:=k+1) (PR:=fun _ _=>False) rfl Tryz.func191 (Aj Zd) rfl Zu rfl rvs_191 ?_
 have HK:=KG.refl k hp1
 have hho: ∀M:Nat,HoK P (M+1) ((M:Int),(fn:Int),(q:Int)):=fun M=>⟨M,fn,F,rfl,Zo,rfl,hF,Or.inr ⟨q,rfl,hq⟩⟩
 have HOK:=Lib.hid hho
 clear hho hF hq
 repeat' (first|refine ZN ?_|refine Z2 ?_ ?_|(intro h h';try simp[*,-h] at h')|((with_reducible apply Ap (f:=184));exact Zv;(apply Ck);exact hfn;exact ZG;exact ZT;(refine KG.aft HK ?_;clear hcs HK;intro hp2 hO2 hcs HK))|fail)
 have hcs0:=hcs
 obtain⟨gc,gh,c,hl,en,cells,hcN,hhl,hen,hce,hho,b0,b3,b4,b5,b7,b8,b10,q0,hpl⟩:=hcs0
 have tkc:=Bj hcN
 have HHO:=Lib.hid hho
 have HPL:=Lib.hid hpl
 have HEN:=Lib.hid hen
 have HCE:=Lib.hid hce
 clear hho hpl hen hce
 have hpX:=Nd (d:=13) (k:=k+1) (op:=19) (r:=1) (fh:=fn) (pl:=q) hcs Zo (HOK.out (N+1))
 rcases hpX with⟨v,hp2,hcall,rfl,hcn,hk2⟩|⟨_,_,_,_,h⟩
 rotate_left
 ·exact h.elim
 repeat' (first|((with_reducible apply Bd (d:=6));exact rfl;(exact Dx [] Zz))|(refine Z1 ?_)|(refine Z2 ?_ ?_)|(intro h h';try simp[*,-h] at h'))
 have HKn:=KG.step HK hk2 Zo (fun d i c hd=>by simp[Zl hd]);have hO2:=hk2.own Zo;clear hcs HK;have hcs:=hcn;have HK:=HKn;clear hcn HKn hk2
 exact⟨rfl,⟨_,Zo,Zo,hcs⟩,HK⟩
abbrev MM :AV:= .dmp false [.int .i64 1,.int .i64 2,.int .i64 3,.int .i64 4,.int .i64 5,.int .i64 6,.int .i64 7,.int .i64 8,.int .i64 9,.int .i64 10,.int .i64 11,.int .i64 12,.int .i64 13] [[.fn 179 []],[.fn 182 []],[.fn 183 []],[.fn 185 []],[.fn 186 []],[.fn 187 []],[.fn 188 []],[.fn 189 []],[.fn 191 []],[.fn 192 []],[.fn 194 []],[.fn 196 []],[.fn 197 []]]
theorem Xi : ∃rs,(Lm X47).dat 122 []=some rs/\rs=[MM]:=by
 refine fnR (P:=P0) (E:=E47) (X:=X47) (R:=fun rs=>rs=[MM]) Tryz.func122 (An _ _) rfl Baa rfl Joa rvs_122 ?_
 all_goals exact ZS
theorem Wo_gen {P:Program}{E:Cfg}{k:Nat}{call:Orc}{all:Array Oper}{os}{fr:Nat->AV}{hp:Hp}{Q PQ}(h: ∀hp':Hp,hp'=hp->Wo P E k call all os ⟨fr,hp'⟩ Q PQ):Wo P E k call all os ⟨fr,hp⟩ Q PQ:=h _ rfl
theorem W_gen {P:Program}{E:Cfg}{k:Nat}{call:Orc}{c:Code}{fr:Nat->AV}{hp:Hp}{Q}(h: ∀hp':Hp,hp'=hp->W P E k call c ⟨fr,hp'⟩ Q):W P E k call c ⟨fr,hp⟩ Q:=h _ rfl
theorem W_cut {P:Program}{E:Cfg}{k:Nat}{call:Orc}{a b:Code}{st}{Q}(M:AS->Prop)(h1:W P E k call a st (fun e s=>e=Ab.Ex.normal/\M s))(h2: ∀s,M s->W P E k call b s Q):W P E k call (.seq a b) st Q:=Fj (h1.mono (fun e s ⟨he,hm⟩=>by subst he;exact Dt (h2 s hm)))
theorem Ms {d k N fn:Nat}{hp1:Hp}{P:GP}{f0 dep:Int}{dn:Nat->Prop}(hfn:fn<P.n)(hcs:GT P f0 dep dn N N hp1)(hN:N<=3600000000000):HB P0 E47 (Lm X47) k d 124 [.ptr ⟨0,29,0⟩ 1 0,iv fn,MM] hp1 (fun v hp2=>v= .tup []/\(∃(N2:Nat) (dep2:Int),N<=N2/\N2<=N+1400000000/\GT P fn dep2 (fun i=>dn i\/i=fn) N2 N2 hp2)/\KG k hp1 hp2) (fun _ _=>False):=by
 refine Af (k1:=k+1) (PR:=fun _ _=>False) rfl Tryz.func124 (Aj Zd) rfl A8a rfl rvs_124 ?_
 obtain⟨gc,gh,c,hl,en,cells,hcN,hhl,hen,hce,hho,b0,b3,b4,b5,b7,b8,b10,q0,hpl⟩:=hcs
 have tkc:=Bj hcN
 have HHO:=Lib.hid hho
 have HPL:=Lib.hid hpl
 have HEN:=Lib.hid hen
 have HCE:=Lib.hid hce
 clear hho hpl hen hce
 have HK:=KG.refl k hp1
 have hsn:=P.hn
 have hn1:=P.n1
 have hn2:=P.n2
 have hw:IntKind.i64.wrap ((P.n:Int) - 1)=(P.n:Int) - 1:=Ad Zo Zo
 obtain⟨F,hF⟩: ∃F,P.sfs[fn]?=some F:=⟨_,List.getElem?_eq_getElem Zo⟩
 obtain⟨hcl,⟨p,sl,fi,hp_,hpb,hs_,hsb,hf_,hfb⟩,⟨ds,hds,hdl⟩,hins⟩:=P.hF fn F hF
 have hrow:=Lg hF
 obtain⟨gp_,gs_,gf_,gw_,gc_⟩:=F
 simp only at hp_ hs_ hf_ hcl hdl
 subst hp_ hs_ hf_
 rw[Jo] at hrow
 have hge: ∀(h:fn<P.sfs.length),(P.sfs[fn]).row=[iz p,iz sl,iz fi,bz gw_,.sl false 4 (gc_.map Si.row)]:=fun h=>by have h3:=hrow;simp[h] at h3;exact h3
 have hf1:(fn:Int)<P.n:=Zo
 have hel:(ir en).length=P.n:=by simp[HEN.out]
 obtain⟨ev,hev⟩: ∃ev,en[fn]?=some ev:=⟨_,List.getElem?_eq_getElem (by have:=HEN.out;omega)⟩
 have hes:=Oj en fn N
 have heg:=B5 hev
 generalize hR:ir en=R at*
 have hege: ∀(h:fn<R.length),R[fn]=[iv ev]:=fun h=>by have h3:=heg;rw[List.getElem?_eq_getElem h] at h3;exact Option.some.inj h3
 generalize hR2:ir (en.set fn N)=R2 at*
 have HR2:=Lib.hid hR2
 clear hev hR hR2
 have hw1:IntKind.i64.wrap ((fi:Int)+p)=((fi+p:Nat):Int):=Ad Zo Zo
 have hw2:IntKind.i64.wrap ((fi:Int)+sl)=((fi+sl:Nat):Int):=Ad Zo Zo
 obtain⟨L,hL⟩: ∃L,gc_.length=L:=⟨_,rfl⟩
 rw[hL] at hcl hdl
 have hmk:(L:Int)*8<=140737488355328:=Zo
 have hmk2:(L:Int)<=9223372036854775807:=Zo
 have hmk3:L*8<=140737488355328:=Zo
 have hmk4:L<=9223372036854775807:=Zo
 have hf2:fn+1<=P.n:=hfn
 have HF:=Lib.hid hF
 have HDS:=Lib.hid hds
 have HIN:=Lib.hid hins
 have hrow2:(hp1 ⟨k+1,6,0⟩).gen=(hp1 ⟨k+1,6,0⟩).gen:=rfl
 clear hF hds hins hrow2
 repeat' (first
  |((with_reducible apply Bd (d:=21));exact rfl;(exact Dx [] Zz))
  |((with_reducible first|apply Wo_u|apply Wo_n|apply ex2|apply W_c|apply Wd_u|apply Wd_n|apply ex4|apply Dp|apply EndQ_normal|apply Dq|apply Bt|apply Ct|apply EndBZ_normal);exact Zc)
  |(with_reducible first|apply H7|apply W_ss|apply My|apply W_rl|apply Dn|apply D3|apply E7|apply Ga|apply H8|apply K9|apply E8|apply Gb|apply Dt|apply Er|apply Et|apply Es|apply Mj|apply Mg|apply Mk|apply Mh|apply panW|apply panB|apply Gv|apply Gu)
  |((with_reducible apply Mw);exact rfl;exact Zc;exact Zc)
  |((with_reducible apply Mx);exact rfl;exact Zc;(exact rfl))
  |((with_reducible apply Mv);exact rfl;(exact Zc))
  |((with_reducible apply Wd_gx);exact rfl;(exact Zc))
  |((with_reducible apply Sx);exact rfl;(exact Zc))
  |((with_reducible apply Sz);exact rfl;(exact Zc))
  |((with_reducible apply S6);exact rfl;(exact Zc))
  |((with_reducible apply S7);exact rfl;(exact Zc))
  |((with_reducible first|apply C5|apply Jv);kernel_rfl)
  |((with_reducible apply A6);kernel_rfl)
  |((with_reducible apply Mi);rotate_left;exact rfl)
  |((with_reducible apply Dm);exact Zc)
  |(intro h h';try simp[*,-h] at h')
  |fail)
 refine W_cut (fun z=> ∃(N2 g6:Nat),N<=N2/\N2<=N+11/\z.fr 0= .ptr ⟨0,29,0⟩ 1 0/\z.fr 1=iv fn/\z.fr 2=MM/\z.fr 6= .ptr ⟨k+1,6,0⟩ g6 0/\GT P fn dep dn N2 N2 z.hp/\KG k hp1 z.hp/\z.hp ⟨k+1,6,0⟩= .box g6 [iv p,iv sl,iv fi,bv gw_,.sl false 4 (gc_.map Si.row)] false) ?_ ?_
 ·by_cases hlast:fn+1=P.n
  ·have e1:(P.n:Int) - 1=fn:=Zo
   rw[e1] at hw
   clear hlast
   repeat' (first|refine ZN ?_|refine Z2 ?_ ?_|(intro h h';try simp[*,-h] at h'))
   refine⟨rfl,N,(hp1 ⟨k+1,6,0⟩).gen+1,Zo,Zo,Zi,Zi,Zi,Zi,⟨gc,gh,c,hl,en.set fn N,cells,hcN,hhl,by simp[HEN.out],HCE.out,HHO.out,Zm,Zm,Zm,Zm,Zm,by rw[HR2.out];simp[*],Zm,Zm,?_⟩,fun d i c hd n1=>?_,Zi⟩
   ·intro i F hF hd
    obtain⟨g,l,h1,h2,h3⟩:=HPL.out i F hF hd
    exact⟨g,l,h1,h2,Zm⟩
   ·have hd2:d≠k+1:=Zo
    by_cases hd0:d=0
    ·subst hd0
     have n2:i≠29:=Zo
     simp[n2]
    ·simp[hd0,hd2]
  ·have e1: ¬(fn:Int)=(P.n:Int) - 1:=Zo
   obtain⟨kv,hkv⟩: ∃kv,P.bk[fn]?=some kv:=⟨_,List.getElem?_eq_getElem (by have:=P.hk;omega)⟩
   have hkg:=B5 hkv
   have hkl:(ir P.bk).length=P.n:=by simp[P.hk]
   have hkge: ∀(h:fn<(ir P.bk).length),(ir P.bk)[fn]=[iv kv]:=fun h=>by have h3:=hkg;rw[List.getElem?_eq_getElem h] at h3;exact Option.some.inj h3
   generalize hS:ir P.bk=S at*
   have HKV:=Lib.hid hkv
   have HS:=Lib.hid hS
   clear hkv hS
   repeat' (first|refine ZN ?_|refine Z2 ?_ ?_|(intro h h';try simp[*,-h] at h')|((with_reducible apply Ap (f:=123));exact Zv;(apply(Bk (N:=N) (P:=P) (f:=fn) (dep:=dep) (dn:=dn)));(focus (refine⟨gc,gh,c,hl,en.set fn N,cells,Zm,hhl,by simp[HEN.out],HCE.out,HHO.out,Zm,Zm,by rw[HS.out];simp[*],Zm,Zm,by rw[HR2.out];simp[*],Zm,Zm,?_⟩;(focus (intro i F hF hd;obtain⟨g,l,h1,h2,h3⟩:=HPL.out i F hF hd;exact⟨g,l,h1,h2,Zm⟩))));exact ZT;(rintro _ hp2 ⟨rfl,hcn,hk2⟩;have HKn:KG k hp1 hp2:=fun d i c hd n1=>(hk2 d i c Zo n1).trans (by have hd2:d≠k+1:=Zo;by_cases hd0:d=0;(focus (subst hd0;have n2:i≠29:=Zo;have n3:i≠27:=Zo;simp[n2,n3]));(simp[hd0,hd2]));have hO2:=hk2.own Zo;clear HK;have hcs:=hcn;have HK:=HKn;clear hcn HKn hk2))|fail)
   repeat' (first|refine ZN ?_|refine Z2 ?_ ?_|(intro h h';try simp[*,-h] at h')|((with_reducible apply Ap (f:=198));exact Zv;(apply(L8a Zo Zo));exact ZG;exact ZT;(refine KG.aft HK ?_;clear hcs HK;rintro hp2 hO2 ⟨N2,hN1,hN2,hcs⟩ HK))|fail)
   exact⟨rfl,_,(hp1 ⟨k+1,6,0⟩).gen+1,Zo,Zo,Zi,Zi,Zi,Zi,hcs,HK,Zm⟩
 clear hcN hhl b0 b3 b4 b5 b7 b8 b10 q0 tkc
 clear HK
 rintro⟨fr,hp⟩ ⟨N2,g6,hN1,hN2,f0,f1,f2,f6,hcs,HK,b6⟩
 simp only at f0 f1 f2 f6 hcs HK b6
 obtain⟨gc,gh,c,hl,en,cells,hcN,hhl,hen,hce,hho,b0,b3,b4,b5,b7,b8,b10,q0,hpl⟩:=hcs
 have tkc:=Bj hcN
 have HHO:=Lib.hid hho
 have HPL:=Lib.hid hpl
 have HEN:=Lib.hid hen
 have HCE:=Lib.hid hce
 clear hho hpl hen hce
 have hce2:=HCE.out
 repeat' (first|((with_reducible apply Bd (d:=63));exact rfl;(refine Dx [(0,8),(1,8),(2,8),(3,8),(4,8)] ?_);(iterate 5 refine Zs ?_);(exact Zz))|(refine Z1 ?_)|(refine Z2 ?_ ?_)|(intro h h';try simp[*,-h] at h'))
 refine W_gen fun hpE hE=>?_
 have hcs:GT P fn dep (fun i=>dn i\/i=fn) N2 N2 hpE:=by
  refine⟨gc,gh,c,hl,en,cells.set fn (.own ⟨0,27,fn+1⟩ ((hp ⟨0,27,fn+1⟩).gen+1) L),hcN,hhl,HEN.out,by simp[HCE.out],HHO.out,by rw[hE];simp[*],by rw[hE];simp[*],by rw[hE];simp[*],by rw[hE];simp[*],by rw[hE];simp[*],by rw[hE];simp[*],by rw[hE];simp[*],by rw[hE];simp[*],?_⟩
  intro i G hG hd
  by_cases hif:i=fn
  ·subst hif
   have hG2:=HF.out
   rw[hG] at hG2
   cases hG2
   refine⟨(hp ⟨0,27,i+1⟩).gen+1,List.replicate L 0,Zm,Zm,by rw[hE];simp[*]⟩
  ·obtain⟨g',l',h1,h2,h3⟩:=HPL.out i G hG (hd.resolve_right hif)
   exact⟨g',l',by rw[List.getElem?_set_ne Zo];exact h1,h2,by rw[hE];simp[*]⟩
 have HKE:KG k hp1 hpE:=fun d i c hd n1=>by
  refine Eq.trans ?_ (HK d i c hd n1)
  have hd2:d≠k+1:=Zo
  by_cases hd0:d=0
  ·subst hd0
   have n2:i≠29:=Zo
   have n3:i≠27:=Zo
   rw[hE]
   simp[n2,n3]
  ·rw[hE]
   simp[hd0,hd2]
 clear HK hE
 obtain⟨SS,hSS⟩: ∃SS,gc_.map Si.row=SS:=⟨_,rfl⟩
 refine Ag (n:=L) (fun s0 m z=> ∃(j N3:Nat) (dep3:Int),L - j<=m/\j<=L/\N<=N3/\N3<=N+11+2600*j/\z.fr 0= .ptr ⟨0,29,0⟩ 1 0/\z.fr 1=iv fn/\z.fr 2=MM/\z.fr 74= .sl false 4 SS/\z.fr 75=iv L/\z.fr 76=iv j/\GT P fn dep3 (fun i=>dn i\/i=fn) N3 N3 z.hp/\KG k hp1 z.hp) ⟨0,N2,dep,Zo,Zo,Zo,Zo,Zm,Zm,Zm,Zm,Zm,Zm,hcs,HKE⟩ ?_
 clear HKE hcs hcN hhl b0 b3 b4 b5 b7 b8 b10 q0 tkc hce2 f0 f1 f2 f6 b6 hrow hge
 rintro m ⟨fr,hp⟩ ⟨j,N3,dep3,hm,hj,hN3,hN4,f0,f1,f2,f74,f75,f76,hcs,HK⟩
 simp only at f0 f1 f2 f74 f75 f76 hcs HK
 by_cases hlt:j<L
 ·have e1:(j:Int)<L:=Zo
  have hwj:IntKind.i64.wrap ((j:Int)+1)=(j:Int)+1:=wrapN Zo
  obtain⟨c0,hc0⟩: ∃c0,gc_[j]?=some c0:=⟨_,List.getElem?_eq_getElem Zo⟩
  have hio:=HIN.out j c0 hc0
  have hci:=si_get hc0
  rw[hSS] at hci
  obtain⟨co,ca,cb,cn⟩:=c0
  simp only at hci
  have hsl:SS.length=L:=by rw[<-hSS];simp[hL]
  have hcge: ∀(h:j<SS.length),SS[j]=[iz co,iz ca,iz cb,uz cn]:=fun h=>by have h3:=hci;rw[List.getElem?_eq_getElem h] at h3;exact Option.some.inj h3
  obtain⟨gc,gh,c,hl,en,cells,hcN,hhl,hen,hce,hho,b0,b3,b4,b5,b7,b8,b10,q0,hpl⟩:=hcs
  have tkc:=Bj hcN
  have HHO:=Lib.hid hho
  have hpl0:=hpl fn _ HF.out (Or.inr rfl)
  have HPL:=Lib.hid hpl
  have HEN:=Lib.hid hen
  have HCE:=Lib.hid hce
  clear hho hpl hen hce
  obtain⟨gq,l,hq1,hq2,hq3⟩:=hpl0
  simp only at hq1 hq2
  rw[hL] at hq1 hq2
  have hce2:=HCE.out
  have hq1e: ∀(h:fn<cells.length),cells[fn]= .own ⟨0,27,fn+1⟩ gq L:=fun h=>by have h3:=hq1;rw[List.getElem?_eq_getElem h] at h3;exact Option.some.inj h3
  obtain⟨x,hx⟩: ∃x,l[j]?=some x:=⟨_,List.getElem?_eq_getElem Zo⟩
  have hxg:=B5 hx
  have hxs:=Oj l j N3
  have hxl:(ir l).length=L:=by simp[hq2]
  obtain⟨y,hy⟩: ∃y,ds[j]?=some y:=⟨_,List.getElem?_eq_getElem Zo⟩
  have hyg:=B5 hy
  have hyl:(ir ds).length=L:=by simp[hdl]
  have hdr:(dr P.dss)[fn]?=some [.sl false 1 (ir ds)]:=by simp[HDS.out]
  have hdn:(dr P.dss).length=P.n:=by simp[P.hd]
  generalize hQ:ir l=Q at*
  generalize hQ2:ir (l.set j N3)=Q2 at*
  generalize hDD:ir ds=DD at*
  generalize hDR:dr P.dss=DR at*
  have hxge: ∀(h:j<Q.length),Q[j]=[iv x]:=fun h=>by have h3:=hxg;rw[List.getElem?_eq_getElem h] at h3;exact Option.some.inj h3
  have hyge: ∀(h:j<DD.length),DD[j]=[iv y]:=fun h=>by have h3:=hyg;rw[List.getElem?_eq_getElem h] at h3;exact Option.some.inj h3
  have hdge: ∀(h:fn<DR.length),DR[fn]=[.sl false 1 DD]:=fun h=>by have h3:=hdr;rw[List.getElem?_eq_getElem h] at h3;exact Option.some.inj h3
  have HQ2:=Lib.hid hQ2
  have HDR:=Lib.hid hDR
  have HL2:=Lib.hid hq2
  have HIO:=Lib.hid hio
  clear hx hy hQ hQ2 hDD hDR hc0 hio hq2 hSS
  by_cases hy0:0<=y
  ·repeat' (first|((with_reducible apply Bd (d:=81));exact rfl;(exact Dx [] Zz))|(refine Z1 ?_)|(refine Z2 ?_ ?_)|(intro h h';try simp[*,-h] at h'))
   refine Wo_gen fun hpE hE=>?_
   have hb8:hpE ⟨k+1,8,0⟩= .box ((hp ⟨k+1,8,0⟩).gen+1) [iv co,iv ca,iv cb,uv cn] false:=by rw[hE];simp
   have hcs:GT P fn y (fun i=>dn i\/i=fn) N3 N3 hpE:=by
    refine⟨gc,gh,c,hl,en,cells,hcN,hhl,HEN.out,HCE.out,HHO.out,by rw[hE];simp[*],by rw[HDR.out];rw[hE];simp[*],by rw[hE];simp[*],by rw[hE];simp[*],by rw[hE];simp[*],by rw[hE];simp[*],by rw[hE];simp[*],by rw[hE];simp[*],?_⟩
    intro i G hG hd
    by_cases hif:i=fn
    ·subst hif
     have hG2:=HF.out
     rw[hG] at hG2
     cases hG2
     refine⟨gq,l.set j N3,Zm,by simp[HL2.out,hL],by rw[HQ2.out];rw[hE];simp[*]⟩
    ·obtain⟨g',l',h1,h2,h3⟩:=HPL.out i G hG hd
     exact⟨g',l',h1,h2,by rw[hE];simp[*]⟩
   have HKE:KG k hp1 hpE:=fun d i c hd n1=>by
    refine Eq.trans ?_ (HK d i c hd n1)
    have hd2:d≠k+1:=Zo
    by_cases hd0:d=0
    ·subst hd0
     have n2:i≠29:=Zo
     have n3:i≠27:=Zo
     rw[hE];simp[n2,n3]
    ·rw[hE];simp[hd0,hd2]
   clear HK hE hcN hhl b0 b3 b4 b5 b7 b8 b10 q0 tkc
   have HK:=HKE
   clear HKE
   obtain⟨⟨o,ho,ho1,ho2⟩,hi10,hi89⟩:=HIO.out
   simp only at ho hi10 hi89
   have ho3:o=1\/o=2\/o=3\/o=4\/o=5\/o=6\/o=7\/o=8\/o=9\/o=10\/o=11\/o=12\/o=13:=Zo
   subst ho
   rcases ho3 with rfl|rfl|rfl|rfl|rfl|rfl|rfl|rfl|rfl|rfl|rfl|rfl|rfl
   ·clear hi10 hi89
    repeat' (first|refine ZN ?_|refine Z2 ?_ ?_|(intro h h';try simp[*,-h] at h')|((with_reducible apply Ap (f:=179));exact Zv;(apply(em1_w hfn));exact ZG;exact ZT;(refine KG.aft HK ?_;clear hcs HK;rintro hp2 hO2 ⟨N2,hN1,hN2,hcs⟩ HK))|fail)
    exact⟨L - (j+1),Zo,j+1,_,y,Zo,Zo,Zo,Zo,Zm,Zm,Zm,Zm,Zm,Zm,hcs,HK⟩
   ·clear hi10 hi89
    repeat' (first|refine ZN ?_|refine Z2 ?_ ?_|(intro h h';try simp[*,-h] at h')|((with_reducible apply Ap (f:=182));exact Zv;(apply(em2_w hfn));exact ZG;exact ZT;(refine KG.aft HK ?_;clear hcs HK;rintro hp2 hO2 ⟨N2,hN1,hN2,hcs⟩ HK))|fail)
    exact⟨L - (j+1),Zo,j+1,_,y,Zo,Zo,Zo,Zo,Zm,Zm,Zm,Zm,Zm,Zm,hcs,HK⟩
   ·clear hi10 hi89
    repeat' (first|refine ZN ?_|refine Z2 ?_ ?_|(intro h h';try simp[*,-h] at h')|((with_reducible apply Ap (f:=183));exact Zv;(apply(em3_w hfn));exact ZG;exact ZT;(refine KG.aft HK ?_;clear hcs HK;rintro hp2 hO2 ⟨N2,hN1,hN2,hcs⟩ HK))|fail)
    exact⟨L - (j+1),Zo,j+1,_,y,Zo,Zo,Zo,Zo,Zm,Zm,Zm,Zm,Zm,Zm,hcs,HK⟩
   ·clear hi10 hi89
    repeat' (first|refine ZN ?_|refine Z2 ?_ ?_|(intro h h';try simp[*,-h] at h')|((with_reducible apply Ap (f:=185));exact Zv;(apply(em4_w hfn));exact ZG;exact ZT;(refine KG.aft HK ?_;clear hcs HK;rintro hp2 hO2 ⟨N2,hN1,hN2,hcs⟩ HK))|fail)
    exact⟨L - (j+1),Zo,j+1,_,y,Zo,Zo,Zo,Zo,Zm,Zm,Zm,Zm,Zm,Zm,hcs,HK⟩
   ·clear hi10 hi89
    repeat' (first|refine ZN ?_|refine Z2 ?_ ?_|(intro h h';try simp[*,-h] at h')|((with_reducible apply Ap (f:=186));exact Zv;(apply(em5_w hfn));exact ZG;exact ZT;(refine KG.aft HK ?_;clear hcs HK;rintro hp2 hO2 ⟨N2,hN1,hN2,hcs⟩ HK))|fail)
    exact⟨L - (j+1),Zo,j+1,_,y,Zo,Zo,Zo,Zo,Zm,Zm,Zm,Zm,Zm,Zm,hcs,HK⟩
   ·clear hi10 hi89
    repeat' (first|refine ZN ?_|refine Z2 ?_ ?_|(intro h h';try simp[*,-h] at h')|((with_reducible apply Ap (f:=187));exact Zv;(apply(em6_w hfn));exact ZG;exact ZT;(refine KG.aft HK ?_;clear hcs HK;rintro hp2 hO2 ⟨N2,hN1,hN2,hcs⟩ HK))|fail)
    exact⟨L - (j+1),Zo,j+1,_,y,Zo,Zo,Zo,Zo,Zm,Zm,Zm,Zm,Zm,Zm,hcs,HK⟩
   ·clear hi10 hi89
    repeat' (first|refine ZN ?_|refine Z2 ?_ ?_|(intro h h';try simp[*,-h] at h')|((with_reducible apply Ap (f:=188));exact Zv;(apply(em7_w hfn));exact ZG;exact ZT;(refine KG.aft HK ?_;clear hcs HK;rintro hp2 hO2 ⟨N2,hN1,hN2,hcs⟩ HK))|fail)
    exact⟨L - (j+1),Zo,j+1,_,y,Zo,Zo,Zo,Zo,Zm,Zm,Zm,Zm,Zm,Zm,hcs,HK⟩
   ·obtain⟨q,rfl,hqq⟩:=hi89 Zd
    have HQQ:=Lib.hid hqq
    clear hqq hi10 hi89
    repeat' (first|refine ZN ?_|refine Z2 ?_ ?_|(intro h h';try simp[*,-h] at h')|((with_reducible apply Ap (f:=189));exact Zv;(apply(em8_w HF.out HQQ.out hfn));exact ZG;exact ZT;(refine KG.aft HK ?_;clear hcs HK;rintro hp2 hO2 ⟨N2,hN1,hN2,hcs⟩ HK))|fail)
    exact⟨L - (j+1),Zo,j+1,_,y,Zo,Zo,Zo,Zo,Zm,Zm,Zm,Zm,Zm,Zm,hcs,HK⟩
   ·obtain⟨q,rfl,hqq⟩:=hi89 Zd
    have HQQ:=Lib.hid hqq
    clear hqq hi10 hi89
    repeat' (first|refine ZN ?_|refine Z2 ?_ ?_|(intro h h';try simp[*,-h] at h')|((with_reducible apply Ap (f:=191));exact Zv;(apply(em9_w HF.out HQQ.out hfn));exact ZG;exact ZT;(refine KG.aft HK ?_;clear hcs HK;rintro hp2 hO2 ⟨N2,hN1,hN2,hcs⟩ HK))|fail)
    exact⟨L - (j+1),Zo,j+1,_,y,Zo,Zo,Zo,Zo,Zm,Zm,Zm,Zm,Zm,Zm,hcs,HK⟩
   ·obtain⟨a,G,rfl,hGG⟩:=hi10 Zd
    have HGG:=Lib.hid hGG
    clear hGG hi10 hi89
    repeat' (first|refine ZN ?_|refine Z2 ?_ ?_|(intro h h';try simp[*,-h] at h')|((with_reducible apply Ap (f:=192));exact Zv;(apply(em10_w HGG.out hfn));exact ZG;exact ZT;(refine KG.aft HK ?_;clear hcs HK;rintro hp2 hO2 ⟨N2,hN1,hN2,hcs⟩ HK))|fail)
    exact⟨L - (j+1),Zo,j+1,_,y,Zo,Zo,Zo,Zo,Zm,Zm,Zm,Zm,Zm,Zm,hcs,HK⟩
   ·clear hi10 hi89
    repeat' (first|refine ZN ?_|refine Z2 ?_ ?_|(intro h h';try simp[*,-h] at h')|((with_reducible apply Ap (f:=194));exact Zv;(apply(em11_w hfn));exact ZG;exact ZT;(refine KG.aft HK ?_;clear hcs HK;rintro hp2 hO2 ⟨N2,hN1,hN2,hcs⟩ HK))|fail)
    exact⟨L - (j+1),Zo,j+1,_,y,Zo,Zo,Zo,Zo,Zm,Zm,Zm,Zm,Zm,Zm,hcs,HK⟩
   ·clear hi10 hi89
    repeat' (first|refine ZN ?_|refine Z2 ?_ ?_|(intro h h';try simp[*,-h] at h')|((with_reducible apply Ap (f:=196));exact Zv;(apply(em12_w hfn));exact ZG;exact ZT;(refine KG.aft HK ?_;clear hcs HK;rintro hp2 hO2 ⟨N2,hN1,hN2,hcs⟩ HK))|fail)
    exact⟨L - (j+1),Zo,j+1,_,y,Zo,Zo,Zo,Zo,Zm,Zm,Zm,Zm,Zm,Zm,hcs,HK⟩
   ·clear hi10 hi89
    repeat' (first|refine ZN ?_|refine Z2 ?_ ?_|(intro h h';try simp[*,-h] at h')|((with_reducible apply Ap (f:=197));exact Zv;(apply(em13_w hfn));exact ZG;exact ZT;(refine KG.aft HK ?_;clear hcs HK;rintro hp2 hO2 ⟨N2,hN1,hN2,hcs⟩ HK))|fail)
    exact⟨L - (j+1),Zo,j+1,_,y,Zo,Zo,Zo,Zo,Zm,Zm,Zm,Zm,Zm,Zm,hcs,HK⟩
  ·repeat' (first|((with_reducible apply Bd (d:=81));exact rfl;(exact Dx [] Zz))|(refine Z1 ?_)|(refine Z2 ?_ ?_)|(intro h h';try simp[*,-h] at h'))
   refine⟨L - (j+1),Zo,j+1,N3,y,Zo,Zo,Zo,Zo,Zm,Zm,Zm,Zm,Zm,Zm,?_,?_⟩
   ·refine⟨gc,gh,c,hl,en,cells,hcN,hhl,HEN.out,HCE.out,HHO.out,Zm,by rw[HDR.out];simp[*],Zm,Zm,Zm,Zm,Zm,Zm,?_⟩
    intro i G hG hd
    by_cases hif:i=fn
    ·subst hif
     have hG2:=HF.out
     rw[hG] at hG2
     cases hG2
     refine⟨gq,l.set j N3,Zm,by simp[HL2.out,hL],by rw[HQ2.out];simp[*]⟩
    ·obtain⟨g',l',h1,h2,h3⟩:=HPL.out i G hG hd
     exact⟨g',l',h1,h2,Zm⟩
   ·intro d i c hd n1
    refine Eq.trans ?_ (HK d i c hd n1)
    have hd2:d≠k+1:=Zo
    by_cases hd0:d=0
    ·subst hd0
     have n2:i≠29:=Zo
     have n3:i≠27:=Zo
     simp[n2,n3]
    ·simp[hd0,hd2]
 have e1: ¬(j:Int)<L:=Zo
 repeat' (first|refine ZN ?_|refine Z2 ?_ ?_|(intro h h';try simp[*,-h] at h'))
 exact⟨rfl,⟨N3,dep3,Zo,Zo,hcs⟩,HK⟩
theorem GT.sub {P:GP}{f dep:Int}{dn dn':Nat->Prop}{N M:Nat}{hp:Hp}(h:GT P f dep dn N M hp)(hd: ∀i,dn' i->dn i):GT P f dep dn' N M hp:=by
 obtain⟨gc,gh,c,hl,en,cells,hcN,hhl,hen,hce,hho,b0,b3,b4,b5,b7,b8,b10,q0,hpl⟩:=h
 exact⟨gc,gh,c,hl,en,cells,hcN,hhl,hen,hce,hho,b0,b3,b4,b5,b7,b8,b10,q0,fun i F hF hi=>hpl i F hF (hd i hi)⟩
theorem Lwa {d k:Nat}{hp1:Hp}{P:GP}{f0 dep:Int}(hcs:GT P f0 dep (fun _=>False) 0 0 hp1):HB P0 E47 (Lm X47) k d 86 [.ptr ⟨0,29,0⟩ 1 0] hp1 (fun v hp2=> ∃(N g:Nat) (cc:List I4),cc.length=N/\N<=2000000000000/\v= .own ⟨k,d,0⟩ g N/\hp2 ⟨k,d,0⟩= .arr g 4 118 (inr cc) false/\ ∀d2 i c,d2<=k->(d2≠0\/(i≠27/\i≠29))->(⟨d2,i,c⟩:Nm)≠⟨k,d,0⟩->hp2 ⟨d2,i,c⟩=hp1 ⟨d2,i,c⟩) (fun _ _=>False):=by
 refine Af (k1:=k+1) (PR:=fun _ _=>False) rfl Tryz.func86 (Aj Zd) rfl Fma rfl rvs_86 ?_
 have hcs0:=hcs
 obtain⟨gc,gh,c,hl,en,cells,hcN,hhl,hen,hce,hho,b0,b3,b4,b5,b7,b8,b10,q0,hpl⟩:=hcs0
 have tkc:=Bj hcN
 have HHO:=Lib.hid hho
 have HPL:=Lib.hid hpl
 have HEN:=Lib.hid hen
 have HCE:=Lib.hid hce
 clear hho hpl hen hce
 have HK:=KG.refl k hp1
 have hn1:=P.n1
 have hn2:=P.n2
 have hsn:=P.hn
 obtain⟨rs,hme,rfl⟩:=Xi
 obtain⟨n,hn⟩: ∃n,P.n=n+1:=⟨P.n - 1,Zo⟩
 have hw:IntKind.i64.wrap (n:Int)=(n:Int):=Ad Zo Zo
 repeat' (first|refine ZN ?_|refine Z2 ?_ ?_|(intro h h';try simp[*,-h] at h')|((with_reducible apply Ap (f:=123));exact Zv;(apply Bk);exact ZG;exact ZT;(refine KG.aft HK ?_;clear hcs HK;intro hp2 hO2 hcs HK))|((with_reducible apply Ap (f:=124));exact Zv;(apply(Ms (P:=P)));(focus omega);exact ZG;exact ZT;(refine KG.aft HK ?_;clear hcs HK;rintro hp2 hO2 ⟨N2,dep2,hN1,hN2,hcs⟩ HK))|fail)
 refine Ag (n:=n) (fun s0 m z=> ∃(j N3:Nat) (f3 dep3:Int),n - j<=m/\j<=n/\N3<=1400000000*j+1400000001/\z.fr 0= .ptr ⟨0,29,0⟩ 1 0/\z.fr 3=MM/\z.fr 23=iv n/\z.fr 24=iv j/\GT P f3 dep3 (fun i=>i=n\/i<j) N3 N3 z.hp/\KG k hp1 z.hp) ⟨0,_,_,dep2,Zo,Zo,Zo,Zi,Zi,Zi,Zi,hcs.sub (fun i hi=>Zo),HK⟩ ?_
 clear HK hcs hcN hhl b0 b3 b4 b5 b7 b8 b10 q0 tkc
 rintro m ⟨fr,hp⟩ ⟨j,N3,f3,dep3,hm,hj,hN3,f0,f3_,f23,f24,hcs,HK⟩
 simp only at f0 f3_ f23 f24 hcs HK
 by_cases hlt:j<n
 ·have e1:(j:Int)<n:=Zo
  have hwj:IntKind.i64.wrap ((j:Int)+1)=(j:Int)+1:=wrapN Zo
  have hj9:j<=999:=Zo
  have hNb:N3<=2000000000000:=Zo
  have HN3:=Lib.hid hN3
  clear hN3
  repeat' (first|refine ZN ?_|refine Z2 ?_ ?_|(intro h h';try simp[*,-h] at h')|((with_reducible apply Ap (f:=124));exact Zv;(apply(Ms (P:=P)));(focus omega);exact ZG;exact ZT;(refine KG.aft HK ?_;clear hcs HK;rintro hp2 hO2 ⟨N2,dep2,hN1,hN2,hcs⟩ HK))|fail)
  have hN3:=HN3.out
  exact⟨n - (j+1),Zo,j+1,_,_,_,Zo,Zo,Zo,Zm,Zm,Zm,Zm,hcs.sub (fun i hi=>Zo),HK⟩
 have e1: ¬(j:Int)<n:=Zo
 have hj9:j<=999:=Zo
 have hNb:N3<=2000000000000:=Zo
 have hmk:(N3:Int)*32<=140737488355328:=Zo
 have hmk2:(N3:Int)<=9223372036854775807:=Zo
 have hmk3:N3*32<=140737488355328:=Zo
 have hmk4:N3<=9223372036854775807:=Zo
 clear hN3
 have hcs0:=hcs
 obtain⟨gc,gh,c,hl,en,cells,hcN,hhl,hen,hce,hho,b0,b3,b4,b5,b7,b8,b10,q0,hpl⟩:=hcs0
 have tkc:=Bj hcN
 have HHO:=Lib.hid hho
 have HPL:=Lib.hid hpl
 have HEN:=Lib.hid hen
 have HCE:=Lib.hid hce
 clear hho hpl hen hce
 repeat' (first|refine ZN ?_|refine Z2 ?_ ?_|(intro h h';try simp[*,-h] at h'))
 have hor1:(hor hl).length=hl.length:=Zi
 have her1:(ir en).length=P.n:=by simp[HEN.out]
 have hhb:hl.length<=2000000000000:=Zo
 refine Ag (n:=hl.length) (fun s0 m z=> ∃(i:Nat) (cc:List I4),hl.length - i<=m/\i<=hl.length/\cc.length=N3/\z.fr 0= .ptr ⟨0,29,0⟩ 1 0/\z.fr 6= .own ⟨k+1,37,0⟩ ((hp ⟨k+1,37,0⟩).gen+1) N3/\z.fr 47= .own ⟨0,29,10⟩ gh hl.length/\z.fr 48=iv hl.length/\z.fr 49=iv i/\z.hp ⟨k+1,37,0⟩= .arr ((hp ⟨k+1,37,0⟩).gen+1) 4 118 (inr cc) false/\(∀i c,z.hp ⟨0,i,c⟩=hp ⟨0,i,c⟩)/\(∀d i c,d<=k->z.hp ⟨d,i,c⟩=hp ⟨d,i,c⟩)) ⟨0,c,Zo,Zo,hcN,Zm,Zm,Zm,Zm,Zm,Zm,fun i c=>Zi,fun d i c hd=>by have hd2:d≠k+1:=Zo;simp[hd2]⟩ ?_
 obtain⟨g37,hg37⟩: ∃g,(hp ⟨k+1,37,0⟩).gen+1=g:=⟨_,rfl⟩
 rw[hg37]
 clear f0 f3_ f23 f24 hg37 tkc
 have HK2:=Lib.hid HK
 have HN:=Lib.hid hn
 clear HK hcs hn hw
 rintro m2 ⟨fr2,hp2⟩ ⟨i,cc,hm2,hi,hcc,f0,f6,f47,f48,f49,b37,hz0,hzd⟩
 simp only at f0 f6 f47 f48 f49 b37 hz0 hzd
 have HZD:=Lib.hid hzd
 clear hzd
 by_cases hlt:i<hl.length
 ·have e2:(i:Int)<hl.length:=Zo
  have hwi:IntKind.i64.wrap ((i:Int)+1)=(i:Int)+1:=wrapN Zo
  obtain⟨⟨xa,xf,xp⟩,hx⟩: ∃x,hl[i]?=some x:=⟨_,List.getElem?_eq_getElem hlt⟩
  obtain⟨a,f,F,ha,haN,hf,hF,hq⟩:=HHO.out _ (List.mem_of_getElem? hx)
  simp only at ha hf hq
  subst ha hf
  have hhg:(hor hl)[i]?=some [iv a,iv f,iv xp]:=by simp[hx]
  have hfP:f<P.n:=by have:=(List.getElem?_eq_some_iff.1 hF).1;omega
  have hfi:(f:Int)<P.n:=Zo
  have hai:(a:Int)<N3:=Zo
  obtain⟨e,he⟩: ∃e,en[f]?=some e:=⟨_,List.getElem?_eq_getElem (by have:=HEN.out;omega)⟩
  have heg:=B5 he
  obtain⟨⟨w1,w2,w3,w4⟩,hw_⟩: ∃x,cc[a]?=some x:=⟨_,List.getElem?_eq_getElem Zo⟩
  have hcg:(inr cc)[a]?=some [iv w1,iv w2,iv w3,iv w4]:=by simp[hw_]
  have hcl:(inr cc).length=N3:=by simp[hcc]
  have hset:(inr cc).set a [iv w1,iv w2,iv w3,iv e]=inr (cc.set a (w1,w2,w3,e)):=by simp[List.map_set]
  have hcg1:(inr (cc.set a (w1,w2,w3,e)))[a]?=some [iv w1,iv w2,iv w3,iv e]:=by rw[<-hset,List.getElem?_set_self Zo]
  have hcl1:(inr (cc.set a (w1,w2,w3,e))).length=N3:=by simp[hcc]
  obtain⟨ga,l,hp1_,hp2_,hp3_⟩:=HPL.out f F hF (by have:=HN.out;omega)
  generalize hH:hor hl=H at*
  generalize hR:ir en=R at*
  generalize hC:inr cc=C0 at*
  generalize hC1:inr (cc.set a (w1,w2,w3,e))=C1 at*
  have hhge: ∀(h:i<H.length),H[i]=[iv a,iv f,iv xp]:=fun h=>by have h3:=hhg;rw[List.getElem?_eq_getElem h] at h3;exact Option.some.inj h3
  have hege: ∀(h:f<R.length),R[f]=[iv e]:=fun h=>by have h3:=heg;rw[List.getElem?_eq_getElem h] at h3;exact Option.some.inj h3
  have hcge: ∀(h:a<C0.length),C0[a]=[iv w1,iv w2,iv w3,iv w4]:=fun h=>by have h3:=hcg;rw[List.getElem?_eq_getElem h] at h3;exact Option.some.inj h3
  have hcge1: ∀(h:a<C1.length),C1[a]=[iv w1,iv w2,iv w3,iv e]:=fun h=>by have h3:=hcg1;rw[List.getElem?_eq_getElem h] at h3;exact Option.some.inj h3
  have HCC:=Lib.hid hcc
  have HC1:=Lib.hid hC1
  clear hx hF he hw_ hcc hH hR hC hC1
  by_cases hx0:0<=xp
  ·obtain⟨q,rfl,hqF⟩: ∃q:Nat,xp=q/\q<F.code.length:=by rcases hq with h|h;(exact absurd h Zo);exact h
   obtain⟨v,hv⟩: ∃v,l[q]?=some v:=⟨_,List.getElem?_eq_getElem Zo⟩
   have hvg:=B5 hv
   have hvl:(ir l).length=F.code.length:=by simp[hp2_]
   have hqi:(q:Int)<F.code.length:=Zo
   have hset2:C1.set a [iv w1,iv w2,iv w3,iv v]=inr (cc.set a (w1,w2,w3,v)):=by rw[<-HC1.out];simp[List.map_set]
   have hce2:=HCE.out
   have hf2:f+1<=P.n:=hfP
   have hpe: ∀(h:f<cells.length),cells[f]= .own ⟨0,27,f+1⟩ ga F.code.length:=fun h=>by have h3:=hp1_;rw[List.getElem?_eq_getElem h] at h3;exact Option.some.inj h3
   generalize hQ:ir l=Q at*
   have hvge: ∀(h:q<Q.length),Q[q]=[iv v]:=fun h=>by have h3:=hvg;rw[List.getElem?_eq_getElem h] at h3;exact Option.some.inj h3
   generalize hC2:inr (cc.set a (w1,w2,w3,v))=C2 at*
   have HC2:=Lib.hid hC2
   clear hv hQ hC2 hp2_ hq
   repeat' (first|((with_reducible apply Bd (d:=53));exact rfl;(exact Dx [] Zz))|((with_reducible apply Bd (d:=69));exact rfl;(exact Dx [] Zz))|(refine Z1 ?_)|(refine Z2 ?_ ?_)|(intro h h';try simp[*,-h] at h'))
   exact⟨hl.length - (i+1),Zo,i+1,cc.set a (w1,w2,w3,v),Zo,Zo,by simp[HCC.out],Zm,Zm,Zm,Zm,Zm,by rw[HC2.out];simp[*],fun i c=>Zm,fun d i c hd=>by have hd2:d≠k+1:=Zo;have h9:=HZD.out d i c hd;simp[hd2,h9]⟩
  ·clear hq hp2_
   repeat' (first|((with_reducible apply Bd (d:=53));exact rfl;(exact Dx [] Zz))|(refine Z1 ?_)|(refine Z2 ?_ ?_)|(intro h h';try simp[*,-h] at h'))
   exact⟨hl.length - (i+1),Zo,i+1,cc.set a (w1,w2,w3,e),Zo,Zo,by simp[HCC.out],Zm,Zm,Zm,Zm,Zm,by rw[HC1.out];simp[*],fun i c=>Zm,fun d i c hd=>by have hd2:d≠k+1:=Zo;have h9:=HZD.out d i c hd;simp[hd2,h9]⟩
 have e2: ¬(i:Int)<hl.length:=Zo
 have hnk:(k+1<=k)=False:=Zi
 repeat' (first|refine ZN ?_|refine Z2 ?_ ?_|(intro h h';try simp[*,-h] at h'))
 refine⟨N3,_,cc,hcc,hNb,rfl,Zi,fun d2 i c hd n1 n2=>?_⟩
 have hd2:d2≠k+1:=Zo
 have h8:=HK2.out d2 i c hd n1
 have h9:=HZD.out d2 i c hd
 simp[n2,hd2,h9,h8]
theorem P4 (o:Int): ∃rs,(Lm X47).dat 200 [iv o]=some rs/\ ∃s a b c,rs=[.agg [tv s,bv a,bv b,iv c]]:=by
 refine fnR (P:=P0) (E:=E47) (X:=X47) (R:=fun rs=> ∃s a b c,rs=[.agg [tv s,bv a,bv b,iv c]]) Tryz.func200 (An _ _) rfl Y8 rfl H7a rvs_200 ?_
 repeat' (first|refine ZN ?_|refine Z2 ?_ ?_|(intro h h';try simp[*,-h] at h'))
 all_goals exact⟨_,_,_,_,rfl⟩
theorem Lja (o:Int): ∃rs,(Lm X47).dat 199 [iv o]=some rs/\ ∃b,rs=[bv b]:=by
 refine fnR (P:=P0) (E:=E47) (X:=X47) (R:=fun rs=> ∃b,rs=[bv b]) Tryz.func199 (An _ _) rfl Pd rfl Tw rvs_199 ?_
 obtain⟨_,hs,s,a,b,c,rfl⟩:=P4 o
 repeat' (first|refine ZN ?_|refine Z2 ?_ ?_|(intro h h';try simp[*,-h] at h'))
 all_goals exact⟨_,rfl⟩
theorem G3a (v m:Int)(n:Bool): ∃rs,(Lm X47).dat 201 [iv v,iv m,bv n]=some rs/\ ∃b,rs=[bv b]:=by
 refine fnR (P:=P0) (E:=E47) (X:=X47) (R:=fun rs=> ∃b,rs=[bv b]) Tryz.func201 (An _ _) rfl Pc rfl Tv rvs_201 ?_
 repeat' (first|refine ZN ?_|refine Z2 ?_ ?_|(intro h h';try simp[*,-h] at h'))
 all_goals exact⟨_,rfl⟩
theorem Lka (o a b c:Int): ∃rs,(Lm X47).dat 125 [.agg [iv o,iv a,iv b,iv c]]=some rs/\ ∃r,rs=[bv r]:=by
 refine fnR (P:=P0) (E:=E47) (X:=X47) (R:=fun rs=> ∃r,rs=[bv r]) Tryz.func125 (An _ _) rfl Pe rfl Ty rvs_125 ?_
 obtain⟨_,hs,s,sa,sb,sc,rfl⟩:=P4 o
 obtain⟨_,hk,kb,rfl⟩:=Lja o
 have HW: ∀(v m:Int) (n:Bool),∃r,(Lm X47).dat 201 [iv v,iv m,bv n]=some [bv r]:=fun v m n=>by
  obtain⟨_,h,r,rfl⟩:=G3a v m n
  exact⟨r,h⟩
 obtain⟨w1,h1⟩:=HW a 15 sa
 obtain⟨w2,h2⟩:=HW b 15 sb
 by_cases hc:sc=2
 ·subst hc
  obtain⟨w3,h3⟩:=HW c 15 true
  clear HW
  repeat' (first|refine ZN ?_|refine Z2 ?_ ?_|(intro h h';try simp[*,-h] at h'))
  all_goals exact⟨_,rfl⟩
 ·by_cases hc0:sc=0
  ·subst hc0
   obtain⟨w3,h3⟩:=HW c 65535 false
   clear HW hc
   repeat' (first|refine ZN ?_|refine Z2 ?_ ?_|(intro h h';try simp[*,-h] at h'))
   all_goals exact⟨_,rfl⟩
  ·obtain⟨w3,h3⟩:=HW c 65535 (sc !=0)
   have h3b:=h3
   have hb:(sc !=0)=true:=by simp[hc0]
   rw[hb] at h3b
   clear HW
   repeat' (first|refine ZN ?_|refine Z2 ?_ ?_|(intro h h';try simp[*,-h] at h'))
   all_goals exact⟨_,rfl⟩
theorem M1a (o a b c:Int): ∃rs,(Lm X47).dat 87 [.agg [iv o,iv a,iv b,iv c]]=some rs/\ ∃w e,rs=[uv w,iv e]:=by
 refine fnR (P:=P0) (E:=E47) (X:=X47) (R:=fun rs=> ∃w e,rs=[uv w,iv e]) Tryz.func87 (An _ _) rfl Fla rfl rtys_87 rvs_87 ?_
 obtain⟨_,hr,r,rfl⟩:=Lka o a b c
 repeat' (first|refine ZN ?_|refine Z2 ?_ ?_|(intro h h';try simp[*,-h] at h'))
 all_goals exact⟨_,_,rfl⟩
abbrev ur (l:List Int):List (List AV):=l.map fun w=>[uv w]
theorem Lea {sg:List (Nat×Bool)}{sfs:List Sf}(hsg:SG sg sfs){F:Sf}{c:Si}{d d2 i:Nat}{D:Nat->Nat}(h:stepD sg F.word c d=some d2)(hs: ∀j∈succs c i,∃q:Nat,j=q/\q<F.code.length/\D q=d2):InsOk sfs F c:=by
 refine⟨?_,?_,?_⟩
 ·have h13:1<=c.op/\c.op<=13:=by
   unfold stepD at h
   repeat' split at h
   all_goals first|omega|(cases h;done)
  exact⟨c.op.toNat,Zo,Zo,Zo⟩
 ·intro h10
  unfold stepD at h
  rw[if_neg Zo,if_neg Zo,if_neg Zo,if_neg Zo,if_neg Zo,if_neg Zo,if_pos h10] at h
  split at h
  ·split at h
   ·rename_i h0 ps v hg
    obtain⟨G,hG,_⟩:=hsg _ _ _ hg
    exact⟨c.a.toNat,G,Zo,hG⟩
   ·cases h
  ·cases h
 ·intro h89
  have hm:c.a∈succs c i:=by
   unfold succs
   rcases h89 with h8|h9
   ·rw[if_pos h8];simp
   ·rw[if_neg Zo,if_pos h9];simp
  obtain⟨q,h1,h2,_⟩:=hs _ hm
  exact⟨q,h1,h2⟩
theorem eOf_w {sg:List (Nat×Bool)}(w0:Int)(sfs:List Sf)(hl1:1<=sfs.length)(hl:sfs.length<=1000)(hsg:SG sg sfs)(hpa: ∀(i:Nat) (F:Sf),sfs[i]?=some F-> ∃p s fi:Nat,F.params=p/\p<=1000/\F.slots=s/\s<=1000000000/\F.first=fi/\fi<=1000000000)(hall: ∀(i:Nat) (F:Sf),sfs[i]?=some F->1<=F.code.length/\F.code.length<=500000/\ ∃D:Nat->Nat,D 0=0/\ ∀(i:Nat) (c:Si),F.code[i]?=some c-> ∃d2,stepD sg F.word c (D i)=some d2/\ ∀j∈succs c i,∃q:Nat,j=q/\q<F.code.length/\D q=d2): ∃rs,(Lm X47).dat 52 [.agg [iz w0,.sl false 5 (sfs.map Sf.row)]]=some rs/\ ∃(ws:List Int) (dt e:Int),ws.length<=16384/\rs=[.agg [.vec 1 (ur ws),iv dt],iv e]:=by
 refine fnR (P:=P0) (E:=E47) (X:=X47) (R:=fun rs=> ∃(ws:List Int) (dt e:Int),ws.length<=16384/\rs=[.agg [.vec 1 (ur ws),iv dt],iv e]) Tryz.func52 (An _ _) rfl F6a rfl rtys_52 rvs_52 ?_
 obtain⟨_,hpl,dss,bk,bs,data,hdl,hkl,hsl,hds,rfl⟩:=Kba w0 sfs hl hsg hall
 obtain⟨n,hn⟩: ∃n,sfs.length=n:=⟨_,rfl⟩
 rw[hn] at hl1 hl hdl hkl hsl
 have HF:=Lib.hid hall
 have HPA:=Lib.hid hpa
 have HSG:=Lib.hid hsg
 have HDS:=Lib.hid hds
 clear hall hpa hsg hds
 have hmk:(n:Int)*8<=140737488355328:=Zo
 have hmk2:(n:Int)<=9223372036854775807:=Zo
 have hmk3:n*8<=140737488355328:=Zo
 have hmk4:n<=9223372036854775807:=Zo
 have hmk5:(n:Int)*24<=140737488355328:=Zo
 have hmk6:n*24<=140737488355328:=Zo
 by_cases hd:data<=32768
 rotate_left
 ·have hd2:32768<data:=Zo
  repeat' (first|refine ZN ?_|refine Z2 ?_ ?_|(intro h h';try simp[*,-h] at h'))
  exact⟨[],0,2,Zi,rfl⟩
 have hd2: ¬32768<data:=Zo
 repeat' (first|((with_reducible apply Bd (d:=18));exact rfl;(refine Dx [(0,5),(1,5),(5,6),(5,7),(5,8),(0,9),(1,9),(2,9),(3,9),(4,9),(5,9)] ?_);(iterate 2 refine Zs ?_);(refine Zs ?_);(refine Zs ?_);(iterate 7 refine Zs ?_);(exact Zz))|(refine Z1 ?_)|(refine Z2 ?_ ?_)|(intro h h';try simp[*,-h] at h'))
 refine Wo_gen fun hpE hE=>?_
 have hFF: ∀(i:Nat) (F:Sf),sfs[i]?=some F->F.code.length<=500000/\(∃p s fi:Nat,F.params=p/\p<=1000/\F.slots=s/\s<=1000000000/\F.first=fi/\fi<=1000000000)/\(∃ds,dss[i]?=some ds/\ds.length=F.code.length)/\ ∀(j:Nat) (c:Si),F.code[j]?=some c->InsOk sfs F c:=by
  intro i F hF
  obtain⟨h1,h2,D,D0,hD⟩:=HF.out i F hF
  refine⟨h2,HPA.out i F hF,HDS.out i F hF,fun j c hc=>?_⟩
  obtain⟨d2,h3,h4⟩:=hD j c hc
  exact Lea HSG.out h3 h4
 obtain⟨P,hP⟩: ∃P:GP,P=⟨w0,n,sfs,dss,bk,bs,data,1,1,1,1,1,hn,hdl,hkl,hsl,hl1,hl,hFF⟩:=⟨_,rfl⟩
 have hcs:GT P 0 0 (fun _=>False) 0 0 hpE:=by
  subst hP
  refine⟨1,1,[],[],List.replicate n 0,List.replicate n (.sl false 1 []),rfl,Zi,Zi,Zi,fun x hx=>by simp at hx,by rw[hE];simp,by rw[hE];simp,by rw[hE];simp,by rw[hE];simp,by rw[hE];simp,by rw[hE];simp,by rw[hE];simp,by rw[hE];simp,fun i F _ h=>h.elim⟩
 have hb4:hpE ⟨0,4,0⟩= .box 1 [.own ⟨0,4,1⟩ 2 n,.own ⟨0,4,2⟩ 2 n,.own ⟨0,4,3⟩ 2 n,iv data] false:=by rw[hE];simp[*]
 have hb2:hpE ⟨0,2,0⟩= .box 1 [.own ⟨0,2,1⟩ 1 0,iv 0] false:=by rw[hE];simp
 have hb21:hpE ⟨0,2,1⟩= .arr 1 1 23 [] false:=by rw[hE];simp
 have hb38:(hpE ⟨0,38,0⟩).gen=0:=by rw[hE];simp
 have hb9:(hpE ⟨0,9,0⟩).gen=0:=by rw[hE];simp
 clear hE hP hFF
 repeat' (first
  |((with_reducible first|apply Wo_u|apply Wo_n|apply ex2|apply W_c|apply Wd_u|apply Wd_n|apply ex4|apply Dp|apply EndQ_normal|apply Dq|apply Bt|apply Ct|apply EndBZ_normal);exact Zc)
  |(with_reducible first|apply H7|apply W_ss|apply My|apply W_rl|apply Dn|apply D3|apply E7|apply Ga|apply H8|apply K9|apply E8|apply Gb|apply Dt|apply Er|apply Et|apply Es|apply Mj|apply Mg|apply Mk|apply Mh|apply panW|apply panB|apply Gv|apply Gu)
  |((with_reducible apply Mw);exact rfl;exact Zc;exact Zc)
  |((with_reducible apply Mx);exact rfl;exact Zc;(exact rfl))
  |((with_reducible apply Mv);exact rfl;(exact Zc))
  |((with_reducible apply Wd_gx);exact rfl;(exact Zc))
  |((with_reducible apply Sx);exact rfl;(exact Zc))
  |((with_reducible apply Sz);exact rfl;(exact Zc))
  |((with_reducible apply S6);exact rfl;(exact Zc))
  |((with_reducible apply S7);exact rfl;(exact Zc))
  |((with_reducible first|apply C5|apply Jv);kernel_rfl)
  |((with_reducible apply A6);kernel_rfl)
  |((with_reducible apply Mi);rotate_left;exact rfl)
  |((with_reducible apply Dm);exact Zc)
  |(intro h h';try simp[*,-h] at h')
  |((with_reducible apply Ap (f:=86));exact Zv;(apply(Lwa (d:=31) (k:=0) (P:=P)));(exact hcs);(rintro _ hp2 ⟨N,g31,cc,hcc,hNb,rfl,b31,hz⟩;have hz4:=hz 0 4 0 Zo Zd Zd;have hz2:=hz 0 2 0 Zo Zd Zd;have hz21:=hz 0 2 1 Zo Zd Zd;have hz38:=hz 0 38 0 Zo Zd Zd;have hz9:=hz 0 9 0 Zo Zd Zd;have HZ:=Lib.hid hz;clear hz))
  |fail)
 rw[hb4] at hz4
 rw[hb2] at hz2
 rw[hb21] at hz21
 replace hz38:(hp2 ⟨0,38,0⟩).gen=0:=by rw[hz38];exact hb38
 replace hz9:(hp2 ⟨0,9,0⟩).gen=0:=by rw[hz9];exact hb9
 clear hb4 hb2 hb21 hb38 hb9 hcs
 by_cases hN:N<=16384
 rotate_left
 ·have hN2:(16384:Int)<N:=Zo
  have hN3: ¬(N:Int)<=16384:=Zo
  repeat' (first|refine ZN ?_|refine Z2 ?_ ?_|(intro h h';try simp[*,-h] at h'))
  exact⟨[],0,2,Zi,rfl⟩
 have hN2: ¬(16384:Int)<N:=Zo
 have hN3:(N:Int)<=16384:=Zo
 have hnk:(N:Int)*4<=140737488355328:=Zo
 have hnk2:(N:Int)<=9223372036854775807:=Zo
 have hnk3:N*4<=140737488355328:=Zo
 have hnk4:N<=9223372036854775807:=Zo
 have hcl:(inr cc).length=N:=by simp[hcc]
 repeat' (first|refine ZN ?_|refine Z2 ?_ ?_|(intro h h';try simp[*,-h] at h'))
 refine Ag (n:=N) (fun s0 m z=> ∃(i:Nat) (ws:List Int),N - i<=m/\i<=N/\ws.length=N/\z.fr 2= .ptr ⟨0,2,0⟩ 1 0/\z.fr 3=iv 0/\z.fr 4= .ptr ⟨0,4,0⟩ 1 0/\z.fr 7= .own ⟨0,38,0⟩ 1 N/\z.fr 39= .own ⟨0,31,0⟩ g31 N/\z.fr 40=iv N/\z.fr 41=iv i/\z.hp ⟨0,2,0⟩= .box 1 [.own ⟨0,2,1⟩ 1 0,iv 0] false/\z.hp ⟨0,2,1⟩= .arr 1 1 23 [] false/\z.hp ⟨0,4,0⟩= .box 1 [.own ⟨0,4,1⟩ 2 n,.own ⟨0,4,2⟩ 2 n,.own ⟨0,4,3⟩ 2 n,iv data] false/\z.hp ⟨0,31,0⟩= .arr g31 4 118 (inr cc) false/\z.hp ⟨0,38,0⟩= .arr 1 1 23 (ur ws) false) ⟨0,List.replicate N 0,Zo,Zo,Zi,Zm,Zm,Zm,Zm,Zm,Zm,Zm,Zm,Zm,Zm,Zm,Zm⟩ ?_
 clear hz4 hz2 hz21 hz38 hz9 b31 hmk hmk2 hmk3 hmk4 hmk5 hmk6 hpl
 rintro m ⟨fr,hp⟩ ⟨i,ws,hm,hi,hws,f2,f3,f4,f7,f39,f40,f41,b2,b21,b4,b31,b38⟩
 simp only at f2 f3 f4 f7 f39 f40 f41 b2 b21 b4 b31 b38
 by_cases hlt:i<N
 ·have e1:(i:Int)<N:=Zo
  have hwi:IntKind.i64.wrap ((i:Int)+1)=(i:Int)+1:=wrapN Zo
  obtain⟨⟨w1,w2,w3,w4⟩,hx⟩: ∃x,cc[i]?=some x:=⟨_,List.getElem?_eq_getElem Zo⟩
  have hxg:(inr cc)[i]?=some [iv w1,iv w2,iv w3,iv w4]:=by simp[hx]
  obtain⟨_,hen,w,e,rfl⟩:=M1a w1 w2 w3 w4
  obtain⟨y,hy⟩: ∃y,ws[i]?=some y:=⟨_,List.getElem?_eq_getElem Zo⟩
  have hyg:(ur ws)[i]?=some [uv y]:=by simp[hy]
  have hyl:(ur ws).length=N:=by simp[hws]
  have hset:(ur ws).set i [uv w]=ur (ws.set i w):=by simp[List.map_set]
  generalize hC:inr cc=C0 at*
  generalize hU:ur ws=U0 at*
  generalize hU1:ur (ws.set i w)=U1 at*
  have hxge: ∀(h:i<C0.length),C0[i]=[iv w1,iv w2,iv w3,iv w4]:=fun h=>by have h3:=hxg;rw[List.getElem?_eq_getElem h] at h3;exact Option.some.inj h3
  have hyge: ∀(h:i<U0.length),U0[i]=[uv y]:=fun h=>by have h3:=hyg;rw[List.getElem?_eq_getElem h] at h3;exact Option.some.inj h3
  have HC:=Lib.hid hC
  have HU1:=Lib.hid hU1
  have HWS:=Lib.hid hws
  have HCC:=Lib.hid hcc
  clear hx hy hC hU hU1 hws hcc
  by_cases he:e=0
  ·subst he
   repeat' (first|refine ZN ?_|refine Z2 ?_ ?_|(intro h h';try simp[*,-h] at h'))
   exact⟨N - (i+1),Zo,i+1,ws.set i w,Zo,Zo,by simp[HWS.out],Zm,Zm,Zm,Zm,Zm,Zm,Zm,Zm,Zm,Zm,Zm,by rw[HU1.out];simp[*]⟩
  ·have he2:(e !=0)=true:=by simp[he]
   repeat' (first|refine ZN ?_|refine Z2 ?_ ?_|(intro h h';try simp[*,-h] at h'))
   exact⟨[],0,2,Zi,rfl⟩
 have e1: ¬(i:Int)<N:=Zo
 have htk:(ur ws).length=N:=by simp[hws]
 generalize hU:ur ws=U0 at*
 have HU:=Lib.hid hU
 clear hU
 repeat' (first|refine ZN ?_|refine Z2 ?_ ?_|(intro h h';try simp[*,-h] at h'))
 exact⟨ws,data,0,Zo,by rw[HU.out]⟩
abbrev rowI (l:List Int):List (List AV):=l.map fun b=>[.sc (.int .u8 b)]
theorem O3 : ∀l:List Int,bytesOfRows (rowI l)=some (l.map fun b=>UInt8.ofNat b.toNat)
 |[]=>rfl
 |x::l=>by
  have:=O3 l
  unfold rowI at this⊢
  simp only[List.map_cons,bytesOfRows,this,Option.map_some]
theorem Dya {l:List Int}{n:Nat}(h:l.length=n):(rowI l).take n=rowI l:=by subst h;rw[List.take_of_length_le Zi]
theorem ur_get {l:List Int}{i:Nat}{x:Int}(h:l[i]?=some x):(ur l)[i]?=some [uv x]:=by simp[h]
theorem Ti (ws:List Int)(hl:ws.length<=16384): ∃rs,(Lm X47).dat 33 [.sl false 1 (ur ws)]=some rs/\ ∃s:ByteArray,s.size=4*ws.length/\rs=[tv s]:=by
 refine fnR (P:=P0) (E:=E47) (X:=X47) (R:=fun rs=> ∃s:ByteArray,s.size=4*ws.length/\rs=[tv s]) Tryz.func33 (An _ _) rfl Re rfl B9a rvs_33 ?_
 obtain⟨n,hn⟩: ∃n,ws.length=n:=⟨_,rfl⟩
 rw[hn] at hl
 rw[hn]
 have hw4:IntKind.i64.wrap (4*(n:Int))=4*(n:Int):=Ad Zo Zo
 have hmk:(4*(n:Int))<=140737488355328:=Zo
 have hmk2:(4*(n:Int))<=9223372036854775807:=Zo
 have hmk3:0<=(4*(n:Int)):=Zo
 have hul:(ur ws).length=n:=by simp[hn]
 generalize hU:ur ws=U at*
 have HU:=Lib.hid hU
 have HN:=Lib.hid hn
 clear hU hn
 repeat' (first|refine ZN ?_|refine Z2 ?_ ?_|(intro h h';try simp[*,-h] at h'))
 refine Ag (n:=n) (fun s0 m z=> ∃(i g:Nat) (bs:List Int),n - i<=m/\i<=n/\bs.length=4*i/\z.fr 3= .own ⟨0,9,0⟩ g (4*i)/\z.fr 10= .sl false 1 U/\z.fr 11=iv n/\z.fr 12=iv i/\z.hp ⟨0,9,0⟩= .arr g 1 5 (rowI bs) false) ⟨0,1,[],Zo,Zo,rfl,Zm,Zm,Zm,Zm,Zm⟩ ?_
 rintro m ⟨fr,hp⟩ ⟨i,g,bs,hm,hi,hbs,f3,f10,f11,f12,b9⟩
 simp only at f3 f10 f11 f12 b9
 have x3:=Dya hbs
 have x4:=O3 bs
 by_cases hlt:i<n
 ·have e1:(i:Int)<n:=Zo
  have hwi:IntKind.i64.wrap ((i:Int)+1)=(i:Int)+1:=wrapN Zo
  obtain⟨x,hx⟩: ∃x,ws[i]?=some x:=⟨_,List.getElem?_eq_getElem (by have:=HN.out;omega)⟩
  have hxg:=ur_get hx
  rw[HU.out] at hxg
  have hxge: ∀(h:i<U.length),U[i]=[uv x]:=fun h=>by have h3:=hxg;rw[List.getElem?_eq_getElem h] at h3;exact Option.some.inj h3
  have x1:4*i+4<=140737488355328:=Zo
  have x2:4*i<=9223372036854775803:=Zo
  clear hx
  repeat' (first|refine ZN ?_|refine Z2 ?_ ?_|(intro h h';try simp[*,-h] at h'))
  exact⟨n - (i+1),Zo,i+1,g+1,bs++[IntKind.u8.wrap x,IntKind.u8.wrap (x.fdiv (2^min 8 IntKind.u32.bits)),IntKind.u8.wrap (x.fdiv (2^min 16 IntKind.u32.bits)),IntKind.u8.wrap (x.fdiv (2^min 24 IntKind.u32.bits))],Zo,Zo,by simp[hbs];omega,by simp[Nat.mul_add],Zm,Zm,Zm,Zm⟩
 have e1: ¬(i:Int)<n:=Zo
 obtain rfl:i=n:=Zo
 repeat' (first|refine ZN ?_|refine Z2 ?_ ?_|(intro h h';try simp[*,-h] at h'))
 exact⟨_,by simp[ByteArray.size,hbs],rfl⟩
theorem Kra (ws:List Int)(dt:Int): ∃rs,(Lm X47).dat 54 [.agg [.sl false 1 (ur ws),iv dt]]=some rs/\ ∃b,rs=[bv b]:=by
 refine fnR (P:=P0) (E:=E47) (X:=X47) (R:=fun rs=> ∃b,rs=[bv b]) Tryz.func54 (An _ _) rfl F4a rfl rtys_54 rvs_54 ?_
 repeat' (first|refine ZN ?_|refine Z2 ?_ ?_|(intro h h';try simp[*,-h] at h'))
 all_goals exact⟨_,rfl⟩
theorem Put_w (ws:List Int)(dt:Int)(hl:ws.length<=16384): ∃rs,(Lm X47).dat 26 [.agg [.sl false 1 (ur ws),iv dt]]=some rs/\ ∃(s:ByteArray) (e:Int),s.size<=70000/\(e≠0->s=⟨#[]⟩)/\rs=[tv s,iv e]:=by
 refine fnR (P:=P0) (E:=E47) (X:=X47) (R:=fun rs=> ∃(s:ByteArray) (e:Int),s.size<=70000/\(e≠0->s=⟨#[]⟩)/\rs=[tv s,iv e]) Tryz.func26 (An _ _) rfl Gia rfl rtys_26 rvs_26 ?_
 obtain⟨_,hr,b,rfl⟩:=Kra ws dt
 obtain⟨_,hb,s,hs,rfl⟩:=Ti ws hl
 obtain⟨_,hb2,s2,hs2,rfl⟩:=Ti [IntKind.u32.wrap (ws.length:Int),IntKind.u32.wrap dt] Zi
 simp only[ur,List.map_cons,List.map_nil] at hb2
 simp at hs2
 have hul:(ur ws).length=ws.length:=Zi
 have hut:(ur ws).take ws.length=ur ws:=by rw[List.take_of_length_le Zi]
 have hz:(⟨#[83,69,69,68]⟩:ByteArray).size+8+4*ws.length<=9223372036854775807:=by rw[show ByteArray.size ⟨#[83,69,69,68]⟩=4 from rfl];omega
 cases b
 ·repeat' (first|((with_reducible apply Bd (d:=7));exact rfl;(refine Dx [(7,10),(8,10),(7,11),(8,11),(9,12)] ?_);(iterate 2 refine Zs ?_);(iterate 2 refine Zs ?_);(refine Zs ?_);(exact Zz))|(refine Z1 ?_)|(refine Z2 ?_ ?_)|(intro h h';try simp[*,-h] at h'))
  exact⟨⟨#[]⟩,1,Zd,fun _=>rfl,rfl⟩
 ·repeat' (first|((with_reducible apply Bd (d:=7));exact rfl;(refine Dx [(7,10),(8,10),(7,11),(8,11),(9,12)] ?_);(iterate 2 refine Zs ?_);(iterate 2 refine Zs ?_);(refine Zs ?_);(exact Zz))|(refine Z1 ?_)|(refine Z2 ?_ ?_)|(intro h h';try simp[*,-h] at h'))
  exact⟨_,0,by rw[show∀a b c:ByteArray,(a++b++c).size=a.size+b.size+c.size from fun a b c=>Zi];rw[show ByteArray.size ⟨#[83,69,69,68]⟩=4 from rfl];omega,fun h=>absurd rfl h,rfl⟩
theorem V3 {out:List (Tx×Th)}: ∀{l:List Fu} {w:Int} {i:Nat} {F:Cf},(coFs out w l)[i]?=some F-> ∃(f:Fu) (w':Int),l[i]?=some f/\F=coF out w' f/\w<=w'/\w'<=w+coW l
 |[],w,i,F,h=>by simp[coFs] at h
 |f::l,w,0,F,h=>by
  simp only[coFs,List.getElem?_cons_zero,Option.some.injEq] at h
  have h2:=(X9 l).1
  exact⟨f,w,rfl,h.symm,Zo,by simp[coW];omega⟩
 |f::l,w,i+1,F,h=>by
  simp only[coFs,List.getElem?_cons_succ] at h
  obtain⟨g,w',h1,h2,h3,h4⟩:=V3 h
  exact⟨g,w',by simpa using h1,h2,Zo,by simp only[coW];omega⟩
theorem arW_ge : ∀{l:List (Tx×Int)},(∀a∈l,1<=a.2)->0<=arW l
 |[],_=>by simp[arW]
 |a::l,h=>by
  have h1:=h a Zi
  have h2:=arW_ge (l:=l) (fun b hb=>h b (by simp[hb]))
  simp only[arW]
  omega
theorem low_ok {p:Pr}(h0:soundS nbT p=0)(hs:p.size<=20000)(hw:coWords p<=32768):(∀f∈(coreS p).funcs,gSs (sigs p.funcs) f.word f.body=true/\csSize f.body<=20000)/\
  1<=(((coreS p).funcs).map lowF).length/\(((coreS p).funcs).map lowF).length<=1000/\SG (sigs p.funcs) (((coreS p).funcs).map lowF)/\
  (∀(i:Nat) (F:Sf),(((coreS p).funcs).map lowF)[i]?=some F-> ∃p s fi:Nat,F.params=p/\p<=1000/\F.slots=s/\s<=1000000000/\F.first=fi/\fi<=1000000000)/\
  (∀(i:Nat) (F:Sf),(((coreS p).funcs).map lowF)[i]?=some F->1<=F.code.length/\F.code.length<=500000/\ ∃D:Nat->Nat,D 0=0/\ ∀(i:Nat) (c:Si),F.code[i]?=some c-> ∃d2,stepD (sigs p.funcs) F.word c (D i)=some d2/\ ∀j∈succs c i,∃q:Nat,j=q/\q<F.code.length/\D q=d2):=by
 have hr:=(Eu h0).1
 unfold rP at hr
 simp only[Bool.and_eq_true,decide_eq_true_eq,List.all_eq_true] at hr
 obtain⟨⟨⟨⟨hr1,hr2⟩,_⟩,hra⟩,hrf⟩:=hr
 have har:0<=arW p.arrays:=arW_ge fun a ha=>by
  have h1:=hra a ha
  unfold rP.rA' rA at h1
  simp only[Bool.and_eq_true,decide_eq_true_eq] at h1
  exact h1.1.2
 have how:0<=coOutW p:=by unfold coOutW;omega
 have hsz:fuSize p.funcs<=20000:=by unfold Pr.size at hs;omega
 have hfn: ∀(i:Nat) (C:Cf),(coreS p).funcs[i]?=some C-> ∃(f:Fu) (w':Int),p.funcs[i]?=some f/\C=coF (setAll (coOutL p) []) w' f/\0<=w'/\w'<=32768/\gSs (sigs p.funcs) C.word C.body=true/\csSize C.body<=20000:=by
  intro i C hC
  obtain⟨f,w',h1,h2,h3,h4⟩:=V3 hC
  have h5:=E5a h0 h1 w'
  have h6:=Fw (List.mem_of_getElem? h1)
  refine⟨f,w',h1,h2,Zo,by unfold coWords at hw;omega,?_,?_⟩
  ·rw[h2];exact h5
  ·rw[h2]
   simp only[coF,Ji]
   unfold Fu.size at h6
   omega
 have hlen:(((coreS p).funcs).map lowF).length=p.funcs.length:=by simp[coreS,K1]
 have hmap: ∀(i:Nat) (F:Sf),(((coreS p).funcs).map lowF)[i]?=some F-> ∃C,(coreS p).funcs[i]?=some C/\F=lowF C:=by
  intro i F h
  rw[List.getElem?_map] at h
  cases hc:(coreS p).funcs[i]? with
  |none=>rw[hc] at h;cases h
  |some C=>rw[hc] at h;exact⟨C,rfl,(Option.some.inj h).symm⟩
 refine⟨fun f hf=>?_,Zo,Zo,?_,?_,?_⟩
 ·obtain⟨i,hi⟩:=List.mem_iff_getElem?.1 hf
  obtain⟨_,_,_,_,_,_,h5,h6⟩:=hfn i f hi
  exact⟨h5,h6⟩
 ·intro i ps v h
  unfold sigs at h
  rw[List.getElem?_map] at h
  cases hc:p.funcs[i]? with
  |none=>rw[hc] at h;cases h
  |some f=>
   rw[hc] at h
   simp only[Option.map_some,Option.some.injEq,Prod.mk.injEq] at h
   obtain⟨C,hC⟩: ∃C,(coreS p).funcs[i]?=some C:=⟨_,List.getElem?_eq_getElem (by simp only[coreS,K1];exact(List.getElem?_eq_some_iff.1 hc).1)⟩
   obtain⟨g,w',h1,h2,_⟩:=hfn i C hC
   rw[hc] at h1
   cases h1
   refine⟨lowF C,by simp[hC],?_,?_⟩
   ·rw[h2];simp only[lowF,coF];rw[<-h.1]
   ·rw[h2];simp only[lowF,coF];exact h.2
 ·intro i F h
  obtain⟨C,hC,rfl⟩:=hmap i F h
  obtain⟨f,w',h1,h2,h3,h4,_⟩:=hfn i C hC
  have h6:=Fw (List.mem_of_getElem? h1)
  unfold Fu.size at h6
  have h9:=hrf f (List.mem_of_getElem? h1)
  unfold rF at h9
  simp only[Bool.and_eq_true,decide_eq_true_eq] at h9
  have h10:=h9.1.1.1.2
  refine⟨f.params.length,Sy.slotsOf f,w'.toNat,by rw[h2];rfl,Zo,by rw[h2];rfl,by unfold Sy.slotsOf;omega,by rw[h2];simp only[lowF,coF];omega,Zo⟩
 ·intro i F h
  obtain⟨C,hC,rfl⟩:=hmap i F h
  obtain⟨_,_,_,_,_,_,h5,h6⟩:=hfn i C hC
  have h7:=lF_len C
  have h8:1<=(lF C).length:=by unfold lF leave;split<;>simp
  exact⟨h8,by simp only[lowF];omega,depthF h5⟩
theorem Lia {p:Pr}(h0:soundS nbT p=0)(hs:p.size<=20000)(hw:coWords p<=32768): ∃rs,(Lm X47).dat 51 [.agg [iv (coWords p),.sl false 5 ((coreS p).funcs.map Cf.row)]]=some rs/\ ∃(ws:List Int) (dt e:Int),ws.length<=16384/\rs=[.agg [.vec 1 (ur ws),iv dt],iv e]:=by
 refine fnR (P:=P0) (E:=E47) (X:=X47) (R:=fun rs=> ∃(ws:List Int) (dt e:Int),ws.length<=16384/\rs=[.agg [.vec 1 (ur ws),iv dt],iv e]) Tryz.func51 (An _ _) rfl F7a rfl rtys_51 rvs_51 ?_
 obtain⟨g1,g2,g3,g4,g5,g6⟩:=low_ok h0 hs hw
 have hlo:=lowOf_w (coWords p) (coreS p).funcs g1 (by simp at g3;omega)
 obtain⟨_,he,ws,dt,e,hl,rfl⟩:=eOf_w (coWords p) _ g2 g3 g4 g5 g6
 clear g1 g2 g3 g4 g5 g6
 have hul:(ur ws).length=ws.length:=Zi
 have hut:(ur ws).take ws.length=ur ws:=by rw[List.take_of_length_le Zi]
 generalize (coreS p).funcs.map lowF=sfs at*
 generalize (coreS p).funcs.map Cf.row=cfs at*
 generalize coWords p=w0 at*
 have hsl:(sfs.map Sf.row).take sfs.length=sfs.map Sf.row:=by rw[List.take_of_length_le Zi]
 repeat' (first|refine ZN ?_|refine Z2 ?_ ?_|(intro h h';try simp[*,-h] at h'))
 exact⟨ws,dt,e,hl,rfl⟩
theorem Hba {p:Pr}(h0:soundS nbT p=0)(hs:p.size<=20000)(hw:coWords p<=32768): ∃rs,(Lm X47).dat 50 [.agg [iv (coWords p),.sl false 5 ((coreS p).funcs.map Cf.row)],iv 0,.fn 51 []]=some rs/\ ∃(ws:List Int) (dt e:Int),ws.length<=16384/\rs=[.agg [.vec 1 (ur ws),iv dt],iv e]:=by
 refine fnR (P:=P0) (E:=E47) (X:=X47) (R:=fun rs=> ∃(ws:List Int) (dt e:Int),ws.length<=16384/\rs=[.agg [.vec 1 (ur ws),iv dt],iv e]) Tryz.func50 (An _ _) rfl Rb rfl B7a rvs_50 ?_
 obtain⟨_,he,ws,dt,e,hl,rfl⟩:=Lia h0 hs hw
 have hul:(ur ws).length=ws.length:=Zi
 have hut:(ur ws).take ws.length=ur ws:=by rw[List.take_of_length_le Zi]
 generalize (coreS p).funcs.map Cf.row=cfs at*
 generalize coWords p=w0 at*
 repeat' (first|refine ZN ?_|refine Z2 ?_ ?_|(intro h h';try simp[*,-h] at h'))
 exact⟨ws,dt,e,hl,rfl⟩
theorem Tk (e:Int)(he:e≠0): ∃rs,(Lm X47).dat 50 [.agg [iv 0,.sl false 5 []],iv e,.fn 51 []]=some rs/\ ∃(ws:List Int) (dt e:Int),ws.length<=16384/\rs=[.agg [.vec 1 (ur ws),iv dt],iv e]:=by
 refine fnR (P:=P0) (E:=E47) (X:=X47) (R:=fun rs=> ∃(ws:List Int) (dt e:Int),ws.length<=16384/\rs=[.agg [.vec 1 (ur ws),iv dt],iv e]) Tryz.func50 (An _ _) rfl Rb rfl B7a rvs_50 ?_
 repeat' (first|refine ZN ?_|refine Z2 ?_ ?_|(intro h h';try simp[*,-h] at h'))
 exact⟨[],0,e,Zi,rfl⟩
theorem Image_w (vs:List Tx)(ar:List (Tx×Int))(fs:List Fu)(hs:vs.length+ar.length+fuSize fs<=20000): ∃rs,(Lm X47).dat 24 [.agg [.sl false 1 (txRows vs),.sl false 2 (arRows ar),.sl false 5 (fs.map Fu.row)]]=some rs/\ ∃(ws:List Int) (dt e:Int),ws.length<=16384/\rs=[.agg [.vec 1 (ur ws),iv dt],iv e]:=by
 refine fnR (P:=P0) (E:=E47) (X:=X47) (R:=fun rs=> ∃(ws:List Int) (dt e:Int),ws.length<=16384/\rs=[.agg [.vec 1 (ur ws),iv dt],iv e]) Tryz.func24 (An _ _) rfl Gka rfl rtys_24 rvs_24 ?_
 by_cases h0:soundS nbT ⟨vs,ar,fs⟩=0
 ·have hc:=Fba vs ar fs hs h0
  by_cases hw:32768<coWords ⟨vs,ar,fs⟩
  ·rw[if_pos hw] at hc
   obtain⟨_,he,ws,dt,e,hl,rfl⟩:=Tk 2 Zd
   have hul:(ur ws).length=ws.length:=Zi
   have hut:(ur ws).take ws.length=ur ws:=by rw[List.take_of_length_le Zi]
   clear h0 hw
   repeat' (first|refine ZN ?_|refine Z2 ?_ ?_|(intro h h';try simp[*,-h] at h'))
   exact⟨ws,dt,e,hl,rfl⟩
  ·rw[if_neg hw] at hc
   obtain⟨_,he,ws,dt,e,hl,rfl⟩:=Hba h0 (by unfold Pr.size;exact hs) Zo
   have hul:(ur ws).length=ws.length:=Zi
   have hut:(ur ws).take ws.length=ur ws:=by rw[List.take_of_length_le Zi]
   have hcl:((coreS ⟨vs,ar,fs⟩).funcs.map Cf.row).take (coreS ⟨vs,ar,fs⟩).funcs.length=(coreS ⟨vs,ar,fs⟩).funcs.map Cf.row:=by rw[List.take_of_length_le Zi]
   obtain⟨n,hn⟩: ∃n,(coreS ⟨vs,ar,fs⟩).funcs.length=n:=⟨_,rfl⟩
   have hcn:((coreS ⟨vs,ar,fs⟩).funcs.map Cf.row).length=n:=by simp[hn]
   rw[hn] at hcl
   generalize (coreS ⟨vs,ar,fs⟩).funcs.map Cf.row=cfs at*
   generalize coWords ⟨vs,ar,fs⟩=w0 at*
   clear h0 hw hn
   repeat' (first|refine ZN ?_|refine Z2 ?_ ?_|(intro h h';try simp[*,-h] at h'))
   exact⟨ws,dt,e,hl,rfl⟩
 ·have hc:=Mda vs ar fs hs h0
  generalize soundS nbT ⟨vs,ar,fs⟩=e0 at*
  obtain⟨_,he,ws,dt,e,hl,rfl⟩:=Tk e0 h0
  have hul:(ur ws).length=ws.length:=Zi
  have hut:(ur ws).take ws.length=ur ws:=by rw[List.take_of_length_le Zi]
  repeat' (first|refine ZN ?_|refine Z2 ?_ ?_|(intro h h';try simp[*,-h] at h'))
  exact⟨ws,dt,e,hl,rfl⟩
theorem Hca (vs:List Tx)(ar:List (Tx×Int))(fs:List Fu)(hs:vs.length+ar.length+fuSize fs<=20000): ∃rs,(Lm X47).dat 23 [.agg [.sl false 1 (txRows vs),.sl false 2 (arRows ar),.sl false 5 (fs.map Fu.row)],iv 0,.fn 24 []]=some rs/\ ∃(ws:List Int) (dt e:Int),ws.length<=16384/\rs=[.agg [.vec 1 (ur ws),iv dt],iv e]:=by
 refine fnR (P:=P0) (E:=E47) (X:=X47) (R:=fun rs=> ∃(ws:List Int) (dt e:Int),ws.length<=16384/\rs=[.agg [.vec 1 (ur ws),iv dt],iv e]) Tryz.func23 (An _ _) rfl Rf rfl Caa rvs_23 ?_
 obtain⟨_,he,ws,dt,e,hl,rfl⟩:=Image_w vs ar fs hs
 have hul:(ur ws).length=ws.length:=Zi
 have hut:(ur ws).take ws.length=ur ws:=by rw[List.take_of_length_le Zi]
 repeat' (first|refine ZN ?_|refine Z2 ?_ ?_|(intro h h';try simp[*,-h] at h'))
 exact⟨ws,dt,e,hl,rfl⟩
theorem Hda (e:Int)(he:e≠0): ∃rs,(Lm X47).dat 23 [.agg [.sl false 1 [],.sl false 2 [],.sl false 5 []],iv e,.fn 24 []]=some rs/\ ∃(ws:List Int) (dt e:Int),ws.length<=16384/\rs=[.agg [.vec 1 (ur ws),iv dt],iv e]:=by
 refine fnR (P:=P0) (E:=E47) (X:=X47) (R:=fun rs=> ∃(ws:List Int) (dt e:Int),ws.length<=16384/\rs=[.agg [.vec 1 (ur ws),iv dt],iv e]) Tryz.func23 (An _ _) rfl Rf rfl Caa rvs_23 ?_
 repeat' (first|refine ZN ?_|refine Z2 ?_ ?_|(intro h h';try simp[*,-h] at h'))
 exact⟨[],0,e,Zi,rfl⟩
theorem Tl (ws:List Int)(dt e:Int)(hl:ws.length<=16384): ∃rs,(Lm X47).dat 25 [.agg [.sl false 1 (ur ws),iv dt],iv e,.fn 26 []]=some rs/\ ∃(s:ByteArray) (e:Int),s.size<=70000/\(e≠0->s=⟨#[]⟩)/\rs=[tv s,iv e]:=by
 refine fnR (P:=P0) (E:=E47) (X:=X47) (R:=fun rs=> ∃(s:ByteArray) (e:Int),s.size<=70000/\(e≠0->s=⟨#[]⟩)/\rs=[tv s,iv e]) Tryz.func25 (An _ _) rfl Gja rfl rtys_25 rvs_25 ?_
 by_cases h0:e=0
 ·subst h0
  obtain⟨_,hp,s,e,hs,hse,rfl⟩:=Put_w ws dt hl
  repeat' (first|refine ZN ?_|refine Z2 ?_ ?_|(intro h h';try simp[*,-h] at h'))
  exact⟨s,e,hs,hse,rfl⟩
 ·repeat' (first|refine ZN ?_|refine Z2 ?_ ?_|(intro h h';try simp[*,-h] at h'))
  exact⟨⟨#[]⟩,e,Zd,fun _=>rfl,rfl⟩
theorem Gwa (src:ByteArray)(hs:src.size<9223372036854775807): ∃rs,(Lm X47).dat 9 [tv src]=some rs/\ ∃(s:ByteArray) (a e:Int),s.size<=70000/\(e≠0->s=⟨#[]⟩)/\rs=[tv s,iv a,iv e]:=by
 refine fnR (P:=P0) (E:=E47) (X:=X47) (R:=fun rs=> ∃(s:ByteArray) (a e:Int),s.size<=70000/\(e≠0->s=⟨#[]⟩)/\rs=[tv s,iv a,iv e]) Tryz.func9 (An _ _) rfl Mna rfl rtys_9 rvs_9 ?_
 obtain⟨_,hP,a,e,⟨he0,rfl⟩|⟨rfl,⟨vs,ar,fs⟩,hsz,_,rfl⟩⟩:=Prog_w src hs
 ·obtain⟨_,h1,ws,dt,e1,hl,rfl⟩:=Hda e he0
  obtain⟨_,h2,s,e2,hss,hse,rfl⟩:=Tl ws dt e1 hl
  have hul:(ur ws).length=ws.length:=Zi
  have hut:(ur ws).take ws.length=ur ws:=by rw[List.take_of_length_le Zi]
  repeat' (first|refine ZN ?_|refine Z2 ?_ ?_|(intro h h';try simp[*,-h] at h'))
  exact⟨s,a,e2,hss,hse,rfl⟩
 ·unfold Pr.size at hsz
  simp only at hsz
  obtain⟨_,h1,ws,dt,e1,hl,rfl⟩:=Hca vs ar fs hsz
  obtain⟨_,h2,s,e2,hss,hse,rfl⟩:=Tl ws dt e1 hl
  have v1:(txRows vs).length=vs.length:=by simp[txRows]
  have v2:(arRows ar).length=ar.length:=by simp[arRows]
  have v3:(fs.map Fu.row).length=fs.length:=Zi
  have v4:(txRows vs).take vs.length=txRows vs:=by rw[List.take_of_length_le (by simp[txRows])]
  have v5:(arRows ar).take ar.length=arRows ar:=by rw[List.take_of_length_le (by simp[arRows])]
  have v6:(fs.map Fu.row).take fs.length=fs.map Fu.row:=by rw[List.take_of_length_le Zi]
  have hul:(ur ws).length=ws.length:=Zi
  have hut:(ur ws).take ws.length=ur ws:=by rw[List.take_of_length_le Zi]
  repeat' (first|refine ZN ?_|refine Z2 ?_ ?_|(intro h h';try simp[*,-h] at h'))
  exact⟨s,a,e2,hss,hse,rfl⟩
theorem stack_s (src s:ByteArray)(a e:Int)(hc:(Lm X47).dat 9 [tv src]=some [tv s,iv a,iv e]):(Lm X47).dat 19 [tv src]=some (if e=0 then[tv s,iv 0] else[tv ⟨#[]⟩,iv e]):=by
 refine fnW (P:=P0) (E:=E47) (X:=X47) Tryz.func19 (An _ _) rfl Gma rfl rtys_19 rvs_19 ?_
 by_cases he:e=0
 ·subst he
  rw[if_pos rfl]
  all_goals exact ZS
 ·rw[if_neg he]
  all_goals exact ZS
theorem stack_w (src:ByteArray)(hs:src.size<9223372036854775807): ∃(s:ByteArray) (a e:Int),(Lm X47).dat 9 [tv src]=some [tv s,iv a,iv e]/\(Lm X47).dat 19 [tv src]=some [tv s,iv e]/\s.size<=70000:=by
 obtain⟨_,hc,s,a,e,hss,hse,rfl⟩:=Gwa src hs
 have h:=stack_s src s a e hc
 refine⟨s,a,e,hc,?_,hss⟩
 by_cases he:e=0
 ·rw[he] at h⊢
  simpa using h
 ·rw[if_neg he] at h
  rw[hse he]
  exact h
def spk2 :ByteArray:=⟨#[83,69,69,68,5,0,0,0,0,0,0,0,97,0,16,1,0,0,16,24,98,0,16,1,0,0,16,24,0,0,0,26]⟩
def spk3 :ByteArray:=⟨#[83,69,69,68,7,0,0,0,0,0,0,0,97,0,16,1,0,0,16,24,98,0,16,1,0,0,16,24,99,0,16,1,0,0,16,24,0,0,0,26]⟩
def E5 :Cfg:={eq:=fun t=>t==25||t==77,hp:=fun f=>f==35,yl:=fun _=>false,ws:=70}
theorem E5_law :ELaw P0 E5:=by
 refine⟨fun t ht w x y us vs b h1 h2 h=>?_,fun _=>rfl⟩
 have ht2:t=25\/t=77:=by simpa[E5] using ht
 rcases ht2 with rfl|rfl
 ·exact Rg Zf Zf Zf w x y us vs b h1 h2 h
 ·exact W4 Zf Zf Zf Zf Zf w x y us vs b h1 h2 h
theorem M_law :ELaw P0 M.E47:=⟨fun t h=>by simp at h,fun _=>rfl⟩
theorem LM_ok :A4 P0 (lim P0 M.E47 M.X47):=Ll A9 M_law M.X47_ok
theorem Mia :M.bytesR spk2 ⟨#[120]⟩ 99=[.agg [iv 1,tv ⟨#[97,98]⟩,iv 5],iv 0]:=Zf
def X62 :Orc:=⟨fun f a=>if f==44 then(match a with
 |[.sc (.string s),.sc (.string t),.sc (.int .i64 n)]=>if s=spk2/\t=⟨#[120]⟩/\n=99 then some [.agg [iv 1,tv ⟨#[97,98]⟩,iv 5],iv 0] else none
 |_=>none) else none,fun _ _ _ _ _=>none⟩
theorem X62_ok :A4 P0 X62:=by
 refine⟨fun f a r h=>?_,fun _ _ _ _ _ _ _ h=>nomatch h⟩
 simp only[X62] at h
 split at h
 ·rename_i hf
  have hf2:f=44:=by simpa using hf
  subst hf2
  split at h
  ·split at h
   ·rename_i hs
    cases h
    obtain⟨rfl,rfl,rfl⟩:=hs
    have h3:=M.g70 spk2 ⟨#[120]⟩ 99 Zd Zd Zd
    rw[Mia] at h3
    exact LM_ok.1 _ _ _ h3
   ·cases h
  ·cases h
 ·cases h
theorem L62_ok :A4 P0 (lim P0 E5 X62):=Ll A9 E5_law X62_ok
theorem Msa :(lim P0 E5 X62).dat 14 []=some [bv true]:=lim_dat.2 ⟨200,Zf⟩
theorem Dua :(lim P0 E5 X62).dat 38 [tv ⟨#[97,98,99]⟩]=some [tv spk3]:=lim_dat.2 ⟨200,Zf⟩
theorem stack_t (src:ByteArray)(hs:src.size<9223372036854775807): ∃r:ByteArray×Int,SemD P0 19 [tv src] [tv r.1,iv r.2]/\r.1.size<=70000:=by
 obtain⟨s,_,e,_,h2,h3⟩:=stack_w src hs
 exact⟨(s,e),Lm47_ok.1 _ _ _ h2,h3⟩
open Classical in
noncomputable def cT (src:ByteArray):ByteArray×Int:=if h: ∃r:ByteArray×Int,SemD P0 19 [tv src] [tv r.1,iv r.2]/\r.1.size<=70000 then Classical.choose h else(⟨#[]⟩,0)
theorem C0a (src:ByteArray)(hs:src.size<9223372036854775807):SemD P0 19 [tv src] [tv (cT src).1,iv (cT src).2]/\(cT src).1.size<=70000:=by
 have h:=stack_t src hs
 unfold cT
 rw[dif_pos h]
 exact Classical.choose_spec h
theorem Eta {img src o:ByteArray}{fuel:Int}(h:M.goodI img src fuel=some o):o.size<=65536:=by
 unfold M.goodI at h
 split at h
 ·rename_i hb
  cases h
  obtain⟨_,_,e3,_⟩:=M.imgB_spec hb.1
  have ho:=(M.runI_ok (K.codeOf img) (K.wordAt img 8).toNat src fuel (M.wordsOf_U _) e3).ol
  show(M.toBytes (M.runI (K.codeOf img) (K.wordAt img 8).toNat src fuel).out).toArray.size<=65536
  simpa[M.toBytes] using ho
 ·cases h
theorem resT_of (r:Option ByteArray):M.resT r=[tv (r.getD ⟨#[]⟩),bv r.isSome]:=by cases r<;>rfl
def Rd5 (f:Nat)(a r:List AV):Prop:=(f=14/\a=[]/\r=[bv true])\/(∃s,a=[tv s]/\((f=7/\r=[.agg (Q.ofP s).row])\/(f=12/\r=[.agg (Q.ofP s).row])\/(f=19/\r=[tv (cT s).1,iv (cT s).2])\/(f=38/\r=[tv spk3])))\/(∃s t,a=[tv s,tv t,iv 20000]/\f=63/\r=M.resT (M.goodI s t 20000))\/ ∃s t,a=[tv s,tv t]/\f=40/\r=[iv (M.diffB s t)]
noncomputable def X5 :Orc:=semX P0 Rd5 (fun _ _ _ _ _ _=>False)
theorem X5_ok :A4 P0 X5:=B3a _ _ _
noncomputable abbrev L5 :Orc:=lim P0 E2 X5
theorem L5_ok :A4 P0 L5:=Ll A9 E2_law X5_ok
theorem Nh {f:Nat}{a r:List AV}(h:SemD P0 f a r)(hr:Rd5 f a r)(hu: ∀r',Rd5 f a r'->r'=r):L5.dat f a=some r:=by
 obtain⟨r',h1,h2⟩:=Hma (Rd:=Rd5) (Rh:=fun _ _ _ _ _ _=>False) h hr
 rw[hu r' h2] at h1
 exact Sg h1
theorem Ni :L5.dat 14 []=some [bv true]:=Nh (L62_ok.1 _ _ _ Msa) (by simp[Rd5]) (fun r h=>by simpa[Rd5] using h)
theorem x5_ref (s:ByteArray)(hs:s.size<=1000000):L5.dat 7 [tv s]=some [.agg (Q.ofP s).row]:=Nh (Lm46_ok.1 _ _ _ (Q.d27 s hs)) (by simp[Rd5]) (fun r h=>by simpa[Rd5] using h)
theorem x5_dig (s:ByteArray)(hs:s.size<=1000000):L5.dat 12 [tv s]=some [.agg (Q.ofP s).row]:=Nh (Lm46_ok.1 _ _ _ (Q.d34 s hs)) (by simp[Rd5]) (fun r h=>by simpa[Rd5] using h)
theorem Te (s:ByteArray)(hs:s.size<9223372036854775807):L5.dat 19 [tv s]=some [tv (cT s).1,iv (cT s).2]:=Nh (C0a s hs).1 (by simp[Rd5]) (fun r h=>by simpa[Rd5] using h)
theorem Wn :L5.dat 38 [tv ⟨#[97,98,99]⟩]=some [tv spk3]:=Nh (L62_ok.1 _ _ _ Dua) (by simp[Rd5]) (fun r h=>by simpa[Rd5] using h)
theorem x5_run (s t:ByteArray)(hs:s.size<=1048576)(ht:t.size<=1048576):L5.dat 63 [tv s,tv t,iv 20000]=some (M.resT (M.goodI s t 20000)):=Nh (LM_ok.1 _ _ _ (M.g52 s t 20000 hs ht Zd)) (.inr (.inr (.inl ⟨s,t,rfl,rfl,rfl⟩))) (fun r h=>by simp[Rd5] at h;obtain⟨_,_,⟨rfl,rfl⟩,e⟩:=h;exact e)
theorem Daa (s t:ByteArray)(hs:s.size<=1048576)(ht:t.size<=1048576):L5.dat 40 [tv s,tv t]=some [iv (M.diffB s t)]:=Nh (LM_ok.1 _ _ _ (M.g50 s t hs ht)) (.inr (.inr (.inr ⟨s,t,rfl,rfl,rfl⟩))) (fun r h=>by simp[Rd5] at h;obtain⟨_,_,⟨rfl,rfl⟩,e⟩:=h;exact e)
theorem Wi {f:Nat}(a:List AV)(h:f≠14/\f≠7/\f≠12/\f≠19/\f≠38/\f≠63/\f≠40):X5.dat f a=none:=Jq fun r hr=>by
 obtain⟨h1,h2,h3,h4,h5,h6,h7⟩:=h
 simp[Rd5,h1,h2,h3,h4,h5,h6,h7] at hr
theorem g5 (src known bin:ByteArray):L5.dat 5 [tv src,tv known,tv bin]=some [bv true]:=by
 have hX: ∀a,X5.dat 5 a=none:=fun a=>Wi a Zd
 have hB: ∀a,X5.dat 8 a=none:=fun a=>Wi a Zd
 have hP: ∀a,X5.dat 15 a=none:=fun a=>Wi a Zd
 have hS: ∀a,X5.dat 39 a=none:=fun a=>Wi a Zd
 have hO: ∀a,X5.dat 16 a=none:=fun a=>Wi a Zd
 by_cases hb:src.size<=400/\known.size<=400/\bin.size<=4000
 ·obtain⟨h1,h2,h3⟩:=hb
  have ds:=x5_ref src Zo
  have dk:=x5_ref known Zo
  by_cases hm:Q.ofP src=Q.ofP known
  ·exact g5_same src known bin _ hX Ni (hm▸ds) dk Zo Zo Zo
  ·have hz:=(C0a src Zo).2
   have hr:=x5_run (cT src).1 src Zo Zo
   rw[resT_of] at hr
   have hos:((M.goodI (cT src).1 src 20000).getD ⟨#[]⟩).size<=65536:=by
    cases hg:M.goodI (cT src).1 src 20000 with
    |none=>decide
    |some o=>exact Eta hg
   generalize (M.goodI (cT src).1 src 20000).getD ⟨#[]⟩=o at*
   generalize (M.goodI (cT src).1 src 20000).isSome=b at*
   have s1:=Tr 4 _ _ _ _ spk3 src _ _ o b hS (build_n (Q.ofP known) (Q.ofP src) spk3 src _ _ hB (x5_dig src Zo) (Te src Zo) hm) hr
   have s2:=Tr 1 0 0 0 0 ⟨#[]⟩ src _ _ o b hS (build_s src _ _ hB (Te src Zo)) hr
   obtain⟨o',b',hoz,e1⟩: ∃(o':ByteArray) (b':Bool),o'.size<=65536/\(if (cT src).2=0 then[tv o,bv b] else[tv ⟨#[]⟩,bv false])=[tv o',bv b']:=by
    split
    ·exact⟨o,b,hos,rfl⟩
    ·exact⟨⟨#[]⟩,false,Zd,rfl⟩
   rw[e1] at s1 s2
   have hd:=Daa o' bin Zo Zo
   have t1:=once_w 4 _ _ _ _ spk3 src bin o' _ b' hO s1 hd
   have t2:=once_w 1 0 0 0 0 ⟨#[]⟩ src bin o' _ b' hO s2 hd
   obtain⟨e,a,e2⟩: ∃e a:Int,(if b' then(if 0<=M.diffB o' bin then[iv 8,iv (M.diffB o' bin)] else[iv 0,iv (-1)]) else[iv 12,iv (-1)])=[iv e,iv a]:=by
    cases b'
    ·exact⟨12,-1,rfl⟩
    ·by_cases hh:0<=M.diffB o' bin
     ·exact⟨8,M.diffB o' bin,by simp[hh]⟩
     ·exact⟨0,-1,by simp[hh]⟩
   rw[e2] at t1 t2
   exact g5_else src known bin spk3 (Q.ofP known) (Q.ofP src) e a hX Ni ds dk (D2a _ spk3 known hP dk Wn) t1 t2 Zo Zo Zo hm
 ·exact g5_big src known bin hX Ni hb
end
end Go.Proofs.YtpmoibjpjlhcgaaGreatDoor
