/- A part of the proof: Pg, Ph, Pi, Ta, Tb, Tc, Td, Te. -/
import Derived.Test.YtpedpkegmalgmaaGreatDoorZ20
import Derived.Test.YtpedpkegmalgmaaGreatDoorZ05
import Derived.Test.YtpedpkegmalgmaaGreatDoorZ19
set_option linter.unusedSimpArgs false
set_option linter.unusedVariables false
set_option maxRecDepth 200000
set_option maxHeartbeats 8000000
namespace Go.Proofs.YtpedpkegmalgmaaGreatDoor
section
open Go Go.Ab Go.Ab.Sy
def RF (T:List Tok)(e:Int)(q gx gy n D:Nat)(hp1:Hp)(v:AV)(hp2:Hp):Prop:= ∃(x:Sy.Fu) (n2:Nat),v= .agg x.row∧n+x.size≤n2∧n<n2∧Rd T e q gx gy n2 hp2∧Far D q hp1 hp2
theorem fun_w {T:List Tok}{e:Int}{q n gx gy:Nat}(D:Nat)(hD:2≤D)(d:Nat)(hp1:Hp)(hr:Rd T e q gx gy n hp1):HB Tryz.prog E47 (Lm X46) D d 142 [.ptr ⟨1,q,0⟩ gx 0] hp1 (RF T e q gx gy n D hp1) (Wr D q hp1):=by
 obtain⟨k,rfl⟩: ∃k,D=k+2:=⟨D - 2,by omega⟩
 clear hD
 refine lim_hpcBZk (k1:=k+3) (PR:=Wr (k+2) q hp1) rfl Tryz.func142 rfl rfl bodyOk_142 rfl rvs_142 rtys_142 ?_
 obtain⟨h1,h2,hlen,hle⟩:=hr
 repeat' (first|(refine ZN ?_)|(refine Z2 ?_ ?_)|(intro h h';try simp[*,-h] at h')|(exact⟨⟨_,rfl⟩,fun d i c hd hne=>(hpf d i c (by omega) hne).trans (by have hd2:d≠k+3:=(by omega);first|exact HF.out d i c hd hne|(simp[*];done)|(simp[*];exact HF.out d i c hd hne))⟩)|((with_reducible apply Wo_call (f:=138));(iterate 5 exact Z5);(apply may (k+3) (by omega));(decide);(constructor);((conv=>lhs;simp -implicitDefEqProofs [*,-Int.natCast_add])<;>exact rfl);(exact Zc);(assumption);(omega);rotate_left;(rintro _ hpp ⟨⟨a,rfl⟩,hpf⟩);rotate_right;(rintro _ hp2 (⟨rfl,⟨hb2,ha2,_,_⟩,hf2⟩|⟨rfl,hn2,⟨hb2,ha2,_,hle2⟩,hf2⟩)<;>(have hO2:=hf2.own (by omega);have hL2:=hf2.all (k:=k+2) (by omega);clear hf2)))|((with_reducible apply Wo_call (f:=141));(iterate 5 exact Z5);(apply must1 (k+3) (by omega));(exact Zc);(decide);(constructor);((conv=>lhs;simp -implicitDefEqProofs [*,-Int.natCast_add])<;>exact rfl);(exact Zc);(assumption);(omega);rotate_left;(rintro _ hpp ⟨⟨a,rfl⟩,hpf⟩);rotate_right;(rintro _ hp2 ⟨rfl,hn2,⟨hb2,ha2,_,hle2⟩,hf2⟩;have hO2:=hf2.own (by omega);have hL2:=hf2.all (k:=k+2) (by omega);clear hf2))|((with_reducible apply Wo_call (f:=140));(iterate 5 exact Z5);(apply take (k+3) (by omega));(decide);(constructor);((conv=>lhs;simp -implicitDefEqProofs [*,-Int.natCast_add])<;>exact rfl);(exact Zc);(assumption);(omega);rotate_left;(rintro _ hpp ⟨⟨a,rfl⟩,hpf⟩);rotate_right;(rintro _ hp2 ⟨⟨tk2,tt2,tn2,ta2⟩,rfl,hn2,⟨hb2,ha2,_,hle2⟩,hf2⟩;have hO2:=hf2.own (by omega);have hL2:=hf2.all (k:=k+2) (by omega);clear hf2;simp only[Tok.row_mk]))|((with_reducible apply Wo_call (f:=168));(iterate 5 exact Z5);(apply kind (k+3) (by omega));(constructor);((conv=>lhs;simp -implicitDefEqProofs [*,-Int.natCast_add])<;>exact rfl);(exact Zc);(assumption);(omega);rotate_left;(rintro _ hpp ⟨⟨a,rfl⟩,hpf⟩);rotate_right;(rintro _ hp2 ⟨rfl,⟨hb2,ha2,_,_⟩,hf2⟩;have hO2:=hf2.own (by omega);have hL2:=hf2.all (k:=k+2) (by omega);clear hf2))|((with_reducible apply Wo_call (f:=139));(iterate 5 exact Z5);(apply names (k+3) (by omega));(constructor);((conv=>lhs;simp -implicitDefEqProofs [*,-Int.natCast_add])<;>exact rfl);(exact Zc);(assumption);(omega);rotate_left;(rintro _ hpp ⟨⟨a,rfl⟩,hpf⟩);rotate_right;(rintro _ hp2 ⟨nl2,m2,rfl,hs2,hn2,⟨hb2,ha2,_,hle2⟩,hf2⟩;have hO2:=hf2.own (by omega);have hL2:=hf2.all (k:=k+2) (by omega);clear hf2))|fail)
 all_goals (refine W_loopS (n:=T.length+1 - n) (fun s0 m s=> ∃(n2 g2 g5:Nat) (ls ps:List Tx) (c1:AV) (w:Bool) (nm:Tx),T.length+1 - n2≤m∧n+ps.length+ls.length+1≤n2∧s.fr 0= .ptr ⟨1,q,0⟩ gx 0∧s.fr 2= .ptr ⟨k+3,2,0⟩ ((hp1 ⟨k+3,2,0⟩).gen+1) 0∧s.fr 3= .ptr ⟨k+3,3,0⟩ ((hp1 ⟨k+3,3,0⟩).gen+1) 0∧
   s.hp ⟨k+3,3,0⟩= .box ((hp1 ⟨k+3,3,0⟩).gen+1) [tv nm,c1,.own ⟨k+3,3,3⟩ g2 ls.length,bv w,.own ⟨k+3,3,5⟩ g5 0] false∧s.hp ⟨k+3,3,3⟩= .arr g2 1 9 (txRows ls) false∧s.hp ⟨k+3,3,5⟩= .arr g5 5 298 [] false∧
   (c1= .sl false 1 (txRows ps)∨(ps=[]∧ ∃g',c1= .own ⟨k+3,3,2⟩ g' 0∧s.hp ⟨k+3,3,2⟩= .arr g' 1 9 [] false))∧
   s.hp ⟨k+3,2,0⟩= .box ((hp1 ⟨k+3,2,0⟩).gen+1) [tv ⟨⟨[]⟩⟩,.own ⟨k+3,2,2⟩ ((hp1 ⟨k+3,2,2⟩).gen+1) 0,.own ⟨k+3,2,3⟩ ((hp1 ⟨k+3,2,3⟩).gen+1) 0,bv false,.own ⟨k+3,2,5⟩ ((hp1 ⟨k+3,2,5⟩).gen+1) 0] false∧Rd T e q gx gy n2 s.hp∧Far (k+2) q hp1 s.hp) ?_ ?_;(first
  |(exact⟨m2+1+1+1,(hp1 ⟨k+3,3,3⟩).gen+1,(hp1 ⟨k+3,3,5⟩).gen+1,[],nl2,.sl false 1 (txRows nl2),true,tt2,by omega,by(try simp);try omega,by simp[*],by simp[*],by simp[*],by simp[*];done,by simp[*],by simp[*],.inl rfl,by simp[*],⟨by simp[*];done,by simp[*],hlen,by omega⟩,fun d i c hd hne=>by have hd2:d≠k+3:=(by omega);simp[*]⟩)
  |(exact⟨m2+1+1,(hp1 ⟨k+3,3,3⟩).gen+1,(hp1 ⟨k+3,3,5⟩).gen+1,[],nl2,.sl false 1 (txRows nl2),false,tt2,by omega,by(try simp);try omega,by simp[*],by simp[*],by simp[*],by simp[*];done,by simp[*],by simp[*],.inl rfl,by simp[*],⟨by simp[*];done,by simp[*],hlen,by omega⟩,fun d i c hd hne=>by have hd2:d≠k+3:=(by omega);simp[*]⟩)
  |(exact⟨n+1+1+1+1+1+1,(hp1 ⟨k+3,3,3⟩).gen+1,(hp1 ⟨k+3,3,5⟩).gen+1,[],[],.own ⟨k+3,3,2⟩ ((hp1 ⟨k+3,3,2⟩).gen+1) 0,true,tt2,by omega,by(try simp);try omega,by simp[*],by simp[*],by simp[*],by simp[*];done,by simp[*],by simp[*],.inr ⟨rfl,_,rfl,by simp[*]⟩,by simp[*],⟨by simp[*];done,by simp[*],hlen,by omega⟩,fun d i c hd hne=>by have hd2:d≠k+3:=(by omega);simp[*]⟩)
  |(exact⟨n+1+1+1+1+1,(hp1 ⟨k+3,3,3⟩).gen+1,(hp1 ⟨k+3,3,5⟩).gen+1,[],[],.own ⟨k+3,3,2⟩ ((hp1 ⟨k+3,3,2⟩).gen+1) 0,false,tt2,by omega,by(try simp);try omega,by simp[*],by simp[*],by simp[*],by simp[*];done,by simp[*],by simp[*],.inr ⟨rfl,_,rfl,by simp[*]⟩,by simp[*],⟨by simp[*];done,by simp[*],hlen,by omega⟩,fun d i c hd hne=>by have hd2:d≠k+3:=(by omega);simp[*]⟩)))
 all_goals clear h1 h2 hb2 ha2 hO2 hL2
 all_goals rintro m ⟨fr,hp⟩ ⟨n2,g2,g5,ls,ps,c1,w,nm,hmm,hnl,f0,f2,f3,b3,a3,a5,hc1,b2,⟨hb,ha,_,hle3⟩,hfar⟩
 all_goals simp at f0 f2 f3 b3 a3 a5 hc1 b2 ha hfar
 all_goals simp only at hb
 all_goals have HF:=Lib.hid hfar
 all_goals clear hfar
 all_goals have t3:=tx_take ls
 all_goals rcases hc1 with rfl|⟨rfl,g',rfl,a2⟩
 all_goals
  repeat' (first|((apply W_srdB (c:=3) (idx:=[0,1,2]) (d:=34));(kernel_rfl);(kernel_rfl);(simp only[List.map_cons,List.map_nil,Array.getD_eq_getD_getElem?,List.getElem?_toArray,List.getElem?_cons_zero,List.getElem?_cons_succ,Option.getD_some]);(repeat' (first|exact Free.nil|((with_reducible apply Free_cons);(exact Zc))));(exact rfl);(exact Zc);(exact okFn_139);(decide);(exact Zc);(apply names (k+3) (by omega));(constructor);((conv=>lhs;simp -implicitDefEqProofs [*,-Int.natCast_add])<;>exact rfl);(exact Zc);(assumption);(omega);rotate_left;(rintro _ hpp ⟨⟨a,rfl⟩,hpf⟩);rotate_right;(rintro _ hp2 h1c ⟨nl3,m2,rfl,hs2,hn2,⟨hb2,ha2,_,hle2⟩,hf2⟩;have hO2:=hf2.own (by omega);have hL2:=hf2.all (k:=k+2) (by omega);clear hf2;have b1:(ls.length+nl3.length)*16≤140737488355328:=(by omega);have b2:ls.length+nl3.length≤9223372036854775807:=(by omega));(refine W_srdl (by kernel_rfl) ?_);(repeat (first|((with_reducible apply Wd_u);(exact Zc))|((with_reducible apply Wd_n);(exact Zc))));(with_reducible apply Wd_nil);(apply drawF_of (ps:=[(0,2),(1,2),(0,3),(1,3)]));(kernel_rfl);(iterate 2 refine Zk ?_);(refine List.forall_mem_cons.2 ⟨?_,?_⟩);((focus (refine apart_r (by simp) (by simp) rfl ?_;(repeat' (refine List.forall_mem_cons.2 ⟨⟨trivial,rfl,by simp[Facet.nm],by simp[Facet.nm],by simp[Facet.nm],by simp[Facet.nm, *]⟩,?_⟩));exact fun y hy=>by cases hy)));(refine List.forall_mem_cons.2 ⟨?_,?_⟩);((focus (refine apart_r (by simp) (by simp) rfl ?_;(repeat' (refine List.forall_mem_cons.2 ⟨⟨trivial,rfl,by simp[Facet.nm],by simp[Facet.nm],by simp[Facet.nm],by simp[Facet.nm, *]⟩,?_⟩));exact fun y hy=>by cases hy)));(exact Zz))|(refine Z1 ?_)|(refine Z2 ?_ ?_)|(intro h h';try simp[*,-h] at h')|(exact⟨⟨_,rfl⟩,fun d i c hd hne=>(hpf d i c (by omega) hne).trans (by have hd2:d≠k+3:=(by omega);first|exact HF.out d i c hd hne|(simp[*];done)|(simp[*];exact HF.out d i c hd hne))⟩)|((with_reducible apply Wo_call (f:=138));(iterate 5 exact Z5);(apply may (k+3) (by omega));(decide);(constructor);((conv=>lhs;simp -implicitDefEqProofs [*,-Int.natCast_add])<;>exact rfl);(exact Zc);(assumption);(omega);rotate_left;(rintro _ hpp ⟨⟨a,rfl⟩,hpf⟩);rotate_right;(rintro _ hp2 (⟨rfl,⟨hb2,ha2,_,_⟩,hf2⟩|⟨rfl,hn2,⟨hb2,ha2,_,hle2⟩,hf2⟩)<;>(have hO2:=hf2.own (by omega);have hL2:=hf2.all (k:=k+2) (by omega);clear hf2)))|((with_reducible apply Wo_call (f:=141));(iterate 5 exact Z5);(apply must1 (k+3) (by omega));(exact Zc);(decide);(constructor);((conv=>lhs;simp -implicitDefEqProofs [*,-Int.natCast_add])<;>exact rfl);(exact Zc);(assumption);(omega);rotate_left;(rintro _ hpp ⟨⟨a,rfl⟩,hpf⟩);rotate_right;(rintro _ hp2 ⟨rfl,hn2,⟨hb2,ha2,_,hle2⟩,hf2⟩;have hO2:=hf2.own (by omega);have hL2:=hf2.all (k:=k+2) (by omega);clear hf2))|((with_reducible apply Wo_call (f:=169));(iterate 5 exact Z5);(apply stmts_ok (k+3) (by omega));(constructor);((conv=>lhs;simp -implicitDefEqProofs [*,-Int.natCast_add])<;>exact rfl);(exact Zc);(assumption);(omega);rotate_left;(rintro _ hpp ⟨⟨a,rfl⟩,hpf⟩);rotate_right;(rintro _ hp2 ⟨sl,m2,rfl,hs2,hn2,⟨hb2,ha2,_,hle2⟩,hf2⟩;have hO2:=hf2.own (by omega);have hL2:=hf2.all (k:=k+2) (by omega);clear hf2))|fail)
 all_goals have hfar:=HF.out
 all_goals first
  |(exact⟨⟨nm,ps,ls,w,sl⟩,m2,by simp[Sy.Fu.row, *],by(try simp[Sy.Fu.size] at*);omega,by omega,⟨by simp[*],by simp[*],hlen,by omega⟩,fun d i c hd hne=>by have hd2:d≠k+3:=(by omega);simp[*];exact hfar d i c hd hne⟩)
  |(exact⟨⟨nm,[],ls,w,sl⟩,m2,by simp[Sy.Fu.row, *],by(try simp[Sy.Fu.size] at*);omega,by omega,⟨by simp[*],by simp[*],hlen,by omega⟩,fun d i c hd hne=>by have hd2:d≠k+3:=(by omega);simp[*];exact hfar d i c hd hne⟩)
  |(exact⟨T.length+1 - (m2+1),by omega,m2+1,g2+1,g5,ls++nl3,ps,.sl false 1 (txRows ps),w,nm,by omega,by(try simp at*);omega,by simp[*],by simp[*],by simp[*],by simp[*];done,by simp[*],by simp[*],.inl rfl,by simp[*],⟨by simp[*];done,by simp[*],hlen,by omega⟩,fun d i c hd hne=>by have hd2:d≠k+3:=(by omega);simp[*];exact hfar d i c hd hne⟩)
  |(exact⟨T.length+1 - (m2+1),by omega,m2+1,g2+1,g5,ls++nl3,[],.own ⟨k+3,3,2⟩ g' 0,w,nm,by omega,by(try simp at*);omega,by simp[*],by simp[*],by simp[*],by simp[*];done,by simp[*],by simp[*],(.inr ⟨rfl,g',rfl,by simp[*]⟩),by simp[*],⟨by simp[*];done,by simp[*],hlen,by omega⟩,fun d i c hd hne=>by have hd2:d≠k+3:=(by omega);simp[*];exact hfar d i c hd hne⟩)
@[simp] theorem Fu_row_mk (nm:Tx)(ps ls:List Tx)(w:Bool)(b:List Sy.St):(Sy.Fu.mk nm ps ls w b).row=[tz nm.1,.sl false 1 (txRows ps),.sl false 1 (txRows ls),bz w,.sl false 5 (stRows b)]:=rfl
@[simp] theorem Fu_size_mk (nm:Tx)(ps ls:List Tx)(w:Bool)(b:List Sy.St):(Sy.Fu.mk nm ps ls w b).size=ps.length+ls.length+stSize b+1:=rfl
def RP (T:List Tok)(e:Int)(q gx gy n D:Nat)(hp1:Hp)(v:AV)(hp2:Hp):Prop:= ∃(x:Sy.Pr) (n2:Nat),v= .agg x.row∧n+x.size≤n2∧Rd T e q gx gy n2 hp2∧Far D q hp1 hp2
theorem ar_take (l:List (Tx×Int)):(arRows l).take l.length=arRows l:=by rw[List.take_of_length_le (by simp[arRows])]
theorem ar_len (l:List (Tx×Int)):(arRows l).length=l.length:=by simp[arRows]
theorem ar_snoc (l:List (Tx×Int))(s:Tx)(z:Int):arRows (l++[(s,z)])=arRows l++[[tz s.1,iz z]]:=by simp[arRows]
theorem fu_take (l:List Sy.Fu):(l.map Sy.Fu.row).take l.length=l.map Sy.Fu.row:=by rw[List.take_of_length_le (by simp)]
theorem prog_w {T:List Tok}{e:Int}{q n gx gy:Nat}(D:Nat)(hD:2≤D)(d:Nat)(hp1:Hp)(hr:Rd T e q gx gy n hp1):HB Tryz.prog E47 (Lm X46) D d 119 [.ptr ⟨1,q,0⟩ gx 0] hp1 (RP T e q gx gy n D hp1) (Wr D q hp1):=by
 obtain⟨k,rfl⟩: ∃k,D=k+2:=⟨D - 2,by omega⟩
 clear hD
 refine lim_hpcBZk (k1:=k+3) (PR:=Wr (k+2) q hp1) rfl Tryz.func119 rfl rfl bodyOk_119 rfl rvs_119 rtys_119 ?_
 obtain⟨h1,h2,hlen,hle⟩:=hr
 repeat' (first|(refine ZN ?_)|(refine Z2 ?_ ?_)|(intro h h';try simp[*,-h] at h')|(exact⟨⟨_,rfl⟩,fun d i c hd hne=>(hpf d i c (by omega) hne).trans (by have hd2:d≠k+3:=(by omega);first|exact HF.out d i c hd hne|(simp[*];done)|(simp[*];exact HF.out d i c hd hne))⟩)|fail)
 refine W_loopS (n:=T.length+1 - n) (fun s0 m s=> ∃(n2 gv ga gf:Nat) (vs:List Tx) (ar:List (Tx×Int)),T.length+1 - n2≤m∧n+vs.length+ar.length≤n2∧s.fr 0= .ptr ⟨1,q,0⟩ gx 0∧s.fr 2= .ptr ⟨k+3,2,0⟩ ((hp1 ⟨k+3,2,0⟩).gen+1) 0∧s.fr 3= .ptr ⟨k+3,3,0⟩ ((hp1 ⟨k+3,3,0⟩).gen+1) 0∧s.hp ⟨k+3,3,0⟩= .box ((hp1 ⟨k+3,3,0⟩).gen+1) [.own ⟨k+3,3,1⟩ gv vs.length,.own ⟨k+3,3,2⟩ ga ar.length,.own ⟨k+3,3,3⟩ gf 0] false∧s.hp ⟨k+3,3,1⟩= .arr gv 1 9 (txRows vs) false∧s.hp ⟨k+3,3,2⟩= .arr ga 2 227 (arRows ar) false∧s.hp ⟨k+3,3,3⟩= .arr gf 5 230 [] false∧s.hp ⟨k+3,2,0⟩= .box ((hp1 ⟨k+3,2,0⟩).gen+1) [.own ⟨k+3,2,1⟩ ((hp1 ⟨k+3,2,1⟩).gen+1) 0,.own ⟨k+3,2,2⟩ ((hp1 ⟨k+3,2,2⟩).gen+1) 0,.own ⟨k+3,2,3⟩ ((hp1 ⟨k+3,2,3⟩).gen+1) 0] false∧Rd T e q gx gy n2 s.hp∧Far (k+2) q hp1 s.hp) ⟨n,(hp1 ⟨k+3,3,1⟩).gen+1,(hp1 ⟨k+3,3,2⟩).gen+1,(hp1 ⟨k+3,3,3⟩).gen+1,[],[],by omega,by simp,by simp,by simp,by simp,by simp;done,by simp,by simp[arRows],by simp,by simp,⟨by simp[*],by simp[*],hlen,hle⟩,fun d i c hd hne=>by have hd2:d≠k+3:=(by omega);simp[*]⟩ ?_
 clear h1 h2
 rintro m ⟨fr,hp⟩ ⟨n2,gv,ga,gf,vs,ar,hmm,hnl,f0,f2,f3,b3,a1,a2,a3,b2,⟨hb,ha,_,hle3⟩,hfar⟩
 simp at f0 f2 f3 b3 a1 a2 a3 b2 ha hfar
 simp only at hb
 have HF:=Lib.hid hfar
 have t1:=tx_take vs
 have t2:=ar_take ar
 have t4:=ar_len ar
 have t6:=ar_snoc ar
 clear hfar
 have x1:(ar.length+1)*24≤140737488355328:=by omega
 have x2:ar.length≤9223372036854775806:=by omega
 repeat' (first|((apply W_srdB (c:=3) (idx:=[0,1,2]) (d:=11));(kernel_rfl);(kernel_rfl);(simp only[List.map_cons,List.map_nil,Array.getD_eq_getD_getElem?,List.getElem?_toArray,List.getElem?_cons_zero,List.getElem?_cons_succ,Option.getD_some]);(repeat' (first|exact Free.nil|((with_reducible apply Free_cons);(exact Zc))));(exact rfl);(exact Zc);(exact okFn_139);(decide);(exact Zc);(apply names (k+3) (by omega));(constructor);((conv=>lhs;simp -implicitDefEqProofs [*,-Int.natCast_add])<;>exact rfl);(exact Zc);(assumption);(omega);rotate_left;(rintro _ hpp ⟨⟨a,rfl⟩,hpf⟩);rotate_right;(rintro _ hp2 h1c ⟨nl3,m2,rfl,hs2,hn2,⟨hb2,ha2,_,hle2⟩,hf2⟩;have hO2:=hf2.own (by omega);have hL2:=hf2.all (k:=k+2) (by omega);clear hf2;have b1:(vs.length+nl3.length)*16≤140737488355328:=(by omega);have b2:vs.length+nl3.length≤9223372036854775807:=(by omega));(refine W_srdl (by kernel_rfl) ?_);(repeat (first|((with_reducible apply Wd_u);(exact Zc))|((with_reducible apply Wd_n);(exact Zc))));(with_reducible apply Wd_nil);(apply drawF_of (ps:=[(0,2),(1,2),(0,3),(1,3)]));(kernel_rfl);(iterate 2 refine Zk ?_);(refine List.forall_mem_cons.2 ⟨?_,?_⟩);((focus (refine apart_r (by simp) (by simp) rfl ?_;(repeat' (refine List.forall_mem_cons.2 ⟨⟨trivial,rfl,by simp[Facet.nm],by simp[Facet.nm],by simp[Facet.nm],by simp[Facet.nm, *]⟩,?_⟩));exact fun y hy=>by cases hy)));(refine List.forall_mem_cons.2 ⟨?_,?_⟩);((focus (refine apart_r (by simp) (by simp) rfl ?_;(repeat' (refine List.forall_mem_cons.2 ⟨⟨trivial,rfl,by simp[Facet.nm],by simp[Facet.nm],by simp[Facet.nm],by simp[Facet.nm, *]⟩,?_⟩));exact fun y hy=>by cases hy)));(exact Zz))|((apply W_srdB (c:=3) (idx:=[0,1,2]) (d:=43));(kernel_rfl);(kernel_rfl);(simp only[List.map_cons,List.map_nil,Array.getD_eq_getD_getElem?,List.getElem?_toArray,List.getElem?_cons_zero,List.getElem?_cons_succ,Option.getD_some]);(repeat' (first|exact Free.nil|((with_reducible apply Free_cons);(exact Zc))));(exact rfl);(exact Zc);(exact okFn_142);(decide);(exact Zc);(apply fun_w (k+3) (by omega));(constructor);((conv=>lhs;simp -implicitDefEqProofs [*,-Int.natCast_add])<;>exact rfl);(exact Zc);(assumption);(omega);rotate_left;(rintro _ hpp ⟨⟨a,rfl⟩,hpf⟩);rotate_right;(rintro _ hp2 h1c ⟨⟨fn,fp,fl,fw,fb⟩,m2,rfl,hs2,hn2,⟨hb2,ha2,_,hle2⟩,hf2⟩;have hO2:=hf2.own (by omega);have hL2:=hf2.all (k:=k+2) (by omega);clear hf2;simp only[Fu_row_mk,Fu_size_mk] at*);(refine W_srdl (by kernel_rfl) ?_);(repeat (first|((with_reducible apply Wd_u);(exact Zc))|((with_reducible apply Wd_n);(exact Zc))));(with_reducible apply Wd_nil);(apply drawF_of (ps:=[(0,2),(1,2),(0,3),(1,3),(0,4),(1,4)]));(kernel_rfl);(iterate 2 refine Zk ?_);(refine List.forall_mem_cons.2 ⟨?_,?_⟩);((focus (refine apart_r (by simp) (by simp) rfl ?_;(repeat' (refine List.forall_mem_cons.2 ⟨⟨trivial,rfl,by simp[Facet.nm],by simp[Facet.nm],by simp[Facet.nm],by simp[Facet.nm, *]⟩,?_⟩));exact fun y hy=>by cases hy)));(refine List.forall_mem_cons.2 ⟨?_,?_⟩);((focus (refine apart_r (by simp) (by simp) rfl ?_;(repeat' (refine List.forall_mem_cons.2 ⟨⟨trivial,rfl,by simp[Facet.nm],by simp[Facet.nm],by simp[Facet.nm],by simp[Facet.nm, *]⟩,?_⟩));exact fun y hy=>by cases hy)));(iterate 2 refine Zs ?_);(exact Zz))|(refine Z1 ?_)|(refine Z2 ?_ ?_)|(intro h h';try simp[*,-h] at h')|(exact⟨⟨_,rfl⟩,fun d i c hd hne=>(hpf d i c (by omega) hne).trans (by have hd2:d≠k+3:=(by omega);first|exact HF.out d i c hd hne|(simp[*];done)|(simp[*];exact HF.out d i c hd hne))⟩)|((with_reducible apply Wo_call (f:=138));(iterate 5 exact Z5);(apply may (k+3) (by omega));(decide);(constructor);((conv=>lhs;simp -implicitDefEqProofs [*,-Int.natCast_add])<;>exact rfl);(exact Zc);(assumption);(omega);rotate_left;(rintro _ hpp ⟨⟨a,rfl⟩,hpf⟩);rotate_right;(rintro _ hp2 (⟨rfl,⟨hb2,ha2,_,_⟩,hf2⟩|⟨rfl,hn2,⟨hb2,ha2,_,hle2⟩,hf2⟩)<;>(have hO2:=hf2.own (by omega);have hL2:=hf2.all (k:=k+2) (by omega);clear hf2)))|((with_reducible apply Wo_call (f:=141));(iterate 5 exact Z5);(apply must1 (k+3) (by omega));(exact Zc);(decide);(constructor);((conv=>lhs;simp -implicitDefEqProofs [*,-Int.natCast_add])<;>exact rfl);(exact Zc);(assumption);(omega);rotate_left;(rintro _ hpp ⟨⟨a,rfl⟩,hpf⟩);rotate_right;(rintro _ hp2 ⟨rfl,hn2,⟨hb2,ha2,_,hle2⟩,hf2⟩;have hO2:=hf2.own (by omega);have hL2:=hf2.all (k:=k+2) (by omega);clear hf2))|((fail_if_success (have hbl:=tt1));((with_reducible apply Wo_call (f:=140));(iterate 5 exact Z5);(apply take (k+3) (by omega));(decide);(constructor);((conv=>lhs;simp -implicitDefEqProofs [*,-Int.natCast_add])<;>exact rfl);(exact Zc);(assumption);(omega);rotate_left;(rintro _ hpp ⟨⟨a,rfl⟩,hpf⟩);rotate_right;(rintro _ hp2 ⟨⟨tk1,tt1,tn1,ta1⟩,rfl,hn2,⟨hb2,ha2,_,hle2⟩,hf2⟩;have hO2:=hf2.own (by omega);have hL2:=hf2.all (k:=k+2) (by omega);clear hf2;simp only[Tok.row_mk])))|((with_reducible apply Wo_call (f:=140));(iterate 5 exact Z5);(apply take (k+3) (by omega));(decide);(constructor);((conv=>lhs;simp -implicitDefEqProofs [*,-Int.natCast_add])<;>exact rfl);(exact Zc);(assumption);(omega);rotate_left;(rintro _ hpp ⟨⟨a,rfl⟩,hpf⟩);rotate_right;(rintro _ hp2 ⟨⟨tk2,tt2,tn2,ta2⟩,rfl,hn2,⟨hb2,ha2,_,hle2⟩,hf2⟩;have hO2:=hf2.own (by omega);have hL2:=hf2.all (k:=k+2) (by omega);clear hf2;simp only[Tok.row_mk]))|fail)
 rotate_left
 ·have hfar:=HF.out
  exact⟨T.length+1 - (n2+1+1+1+1+1+1),by omega,n2+1+1+1+1+1+1,gv,ga+1,gf,vs,ar++[(tt1,IntKind.i64.wrap tn2)],by omega,by(try simp at*);omega,by simp[*],by simp[*],by simp[*],by simp[*];done,by simp[*],by simp[*],by simp[*],by simp[*],⟨by simp[*];done,by simp[*],hlen,by omega⟩,fun d i c hd hne=>by have hd2:d≠k+3:=(by omega);simp[*];exact hfar d i c hd hne⟩
 ·have hfar:=HF.out
  exact⟨T.length+1 - (m2+1),by omega,m2+1,gv+1,ga,gf,vs++nl3,ar,by omega,by(try simp at*);omega,by simp[*],by simp[*],by simp[*],by simp[*];done,by simp[*],by simp[*],by simp[*],by simp[*],⟨by simp[*];done,by simp[*],hlen,by omega⟩,fun d i c hd hne=>by have hd2:d≠k+3:=(by omega);simp[*];exact hfar d i c hd hne⟩
 refine W_loopS (n:=T.length+1 - n) (fun s0 m s=> ∃(n2 gv ga gf:Nat) (vs:List Tx) (ar:List (Tx×Int)) (fs:List Sy.Fu),T.length+1 - n2≤m∧n+vs.length+ar.length+fuSize fs≤n2∧s.fr 0= .ptr ⟨1,q,0⟩ gx 0∧s.fr 2= .ptr ⟨k+3,2,0⟩ ((hp1 ⟨k+3,2,0⟩).gen+1) 0∧s.fr 3= .ptr ⟨k+3,3,0⟩ ((hp1 ⟨k+3,3,0⟩).gen+1) 0∧s.hp ⟨k+3,3,0⟩= .box ((hp1 ⟨k+3,3,0⟩).gen+1) [.own ⟨k+3,3,1⟩ gv vs.length,.own ⟨k+3,3,2⟩ ga ar.length,.own ⟨k+3,3,3⟩ gf fs.length] false∧s.hp ⟨k+3,3,1⟩= .arr gv 1 9 (txRows vs) false∧s.hp ⟨k+3,3,2⟩= .arr ga 2 227 (arRows ar) false∧s.hp ⟨k+3,3,3⟩= .arr gf 5 230 (fs.map Sy.Fu.row) false∧s.hp ⟨k+3,2,0⟩= .box ((hp1 ⟨k+3,2,0⟩).gen+1) [.own ⟨k+3,2,1⟩ ((hp1 ⟨k+3,2,1⟩).gen+1) 0,.own ⟨k+3,2,2⟩ ((hp1 ⟨k+3,2,2⟩).gen+1) 0,.own ⟨k+3,2,3⟩ ((hp1 ⟨k+3,2,3⟩).gen+1) 0] false∧Rd T e q gx gy n2 s.hp∧Far (k+2) q hp1 s.hp) ⟨m2,gv,ga,gf+1,vs,ar,[⟨fn,fp,fl,fw,fb⟩],by omega,by(try simp at*);omega,by simp[*],by simp[*],by simp[*],by simp[*];done,by simp[*],by simp[*],by simp[*],by simp[*],⟨by simp[*];done,by simp[*],hlen,by omega⟩,fun d i c hd hne=>by have hd2:d≠k+3:=(by omega);simp[*];exact HF.out d i c hd hne⟩ ?_
 clear hb2 ha2 hO2 hL2 b3 a1 a2 a3 b2 ha hb HF t1 t2 t4 t6
 rintro m ⟨fr,hp⟩ ⟨n2,gv,ga,gf,vs,ar,fs,hmm,hnl,f0,f2,f3,b3,a1,a2,a3,b2,⟨hb,ha,_,hle3⟩,hfar⟩
 simp at f0 f2 f3 b3 a1 a2 a3 b2 ha hfar
 simp only at hb
 have HF:=Lib.hid hfar
 have t1:=tx_take vs
 have t2:=ar_take ar
 have t4:=ar_len ar
 have t6:=ar_snoc ar
 clear hfar
 have t3:=fu_take fs
 have t5:=fuSize_len fs
 have x1:(fs.length+1)*96≤140737488355328:=by omega
 have x2:fs.length≤9223372036854775806:=by omega
 by_cases hlt:n2<T.length
 all_goals (first|have e1:(n2:Int)<T.length:=(by omega)|have e1: ¬(n2:Int)<T.length:=(by omega))
 repeat' (first|((apply W_rdB (c:=3) (idx:=[0,1,2]) (d:=60));(kernel_rfl);(kernel_rfl);(simp only[List.map_cons,List.map_nil,Array.getD_eq_getD_getElem?,List.getElem?_toArray,List.getElem?_cons_zero,List.getElem?_cons_succ,Option.getD_some]);(repeat' (first|exact Free.nil|((with_reducible apply Free_cons);(exact Zc))));(exact rfl);(exact Zc);(exact okFn_142);(decide);(exact Zc);(apply fun_w (k+3) (by omega));(constructor);((conv=>lhs;simp -implicitDefEqProofs [*,-Int.natCast_add])<;>exact rfl);(exact Zc);(assumption);(omega);rotate_left;(rintro _ hpp ⟨⟨a,rfl⟩,hpf⟩);rotate_right;(rintro _ hp2 h1c ⟨⟨fn,fp,fl,fw,fb⟩,m2,rfl,hs2,hn2,⟨hb2,ha2,_,hle2⟩,hf2⟩;have hO2:=hf2.own (by omega);have hL2:=hf2.all (k:=k+2) (by omega);clear hf2;simp only[Fu_row_mk,Fu_size_mk] at*);(refine W_rdl (by kernel_rfl) ?_);(repeat (first|((with_reducible apply Wd_u);(exact Zc))|((with_reducible apply Wd_n);(exact Zc))));(with_reducible apply Wd_nil);(apply drawF_of (ps:=[(0,2),(1,2),(0,3),(1,3),(0,4),(1,4)]));(kernel_rfl);(iterate 2 refine Zk ?_);(refine List.forall_mem_cons.2 ⟨?_,?_⟩);((focus (refine apart_r (by simp) (by simp) rfl ?_;(repeat' (refine List.forall_mem_cons.2 ⟨⟨trivial,rfl,by simp[Facet.nm],by simp[Facet.nm],by simp[Facet.nm],by simp[Facet.nm, *]⟩,?_⟩));exact fun y hy=>by cases hy)));(refine List.forall_mem_cons.2 ⟨?_,?_⟩);((focus (refine apart_r (by simp) (by simp) rfl ?_;(repeat' (refine List.forall_mem_cons.2 ⟨⟨trivial,rfl,by simp[Facet.nm],by simp[Facet.nm],by simp[Facet.nm],by simp[Facet.nm, *]⟩,?_⟩));exact fun y hy=>by cases hy)));(iterate 2 refine Zs ?_);(exact Zz))|((apply W_srdB (c:=3) (idx:=[0,1,2]) (d:=60));(kernel_rfl);(kernel_rfl);(simp only[List.map_cons,List.map_nil,Array.getD_eq_getD_getElem?,List.getElem?_toArray,List.getElem?_cons_zero,List.getElem?_cons_succ,Option.getD_some]);(repeat' (first|exact Free.nil|((with_reducible apply Free_cons);(exact Zc))));(exact rfl);(exact Zc);(exact okFn_142);(decide);(exact Zc);(apply fun_w (k+3) (by omega));(constructor);((conv=>lhs;simp -implicitDefEqProofs [*,-Int.natCast_add])<;>exact rfl);(exact Zc);(assumption);(omega);rotate_left;(rintro _ hpp ⟨⟨a,rfl⟩,hpf⟩);rotate_right;(rintro _ hp2 h1c ⟨⟨fn,fp,fl,fw,fb⟩,m2,rfl,hs2,hn2,⟨hb2,ha2,_,hle2⟩,hf2⟩;have hO2:=hf2.own (by omega);have hL2:=hf2.all (k:=k+2) (by omega);clear hf2;simp only[Fu_row_mk,Fu_size_mk] at*);(refine W_srdl (by kernel_rfl) ?_);(repeat (first|((with_reducible apply Wd_u);(exact Zc))|((with_reducible apply Wd_n);(exact Zc))));(with_reducible apply Wd_nil);(apply drawF_of (ps:=[(0,2),(1,2),(0,3),(1,3),(0,4),(1,4)]));(kernel_rfl);(iterate 2 refine Zk ?_);(refine List.forall_mem_cons.2 ⟨?_,?_⟩);((focus (refine apart_r (by simp) (by simp) rfl ?_;(repeat' (refine List.forall_mem_cons.2 ⟨⟨trivial,rfl,by simp[Facet.nm],by simp[Facet.nm],by simp[Facet.nm],by simp[Facet.nm, *]⟩,?_⟩));exact fun y hy=>by cases hy)));(refine List.forall_mem_cons.2 ⟨?_,?_⟩);((focus (refine apart_r (by simp) (by simp) rfl ?_;(repeat' (refine List.forall_mem_cons.2 ⟨⟨trivial,rfl,by simp[Facet.nm],by simp[Facet.nm],by simp[Facet.nm],by simp[Facet.nm, *]⟩,?_⟩));exact fun y hy=>by cases hy)));(iterate 2 refine Zs ?_);(exact Zz))|(refine Z1 ?_)|(refine Z2 ?_ ?_)|(intro h h';try simp[*,-h] at h')|(exact⟨⟨_,rfl⟩,fun d i c hd hne=>(hpf d i c (by omega) hne).trans (by have hd2:d≠k+3:=(by omega);first|exact HF.out d i c hd hne|(simp[*];done)|(simp[*];exact HF.out d i c hd hne))⟩)|fail)
 ·have hfar:=HF.out
  have t7:=fuSize_app fs [⟨fn,fp,fl,fw,fb⟩]
  simp only[fuSize_cons,fuSize_nil,Fu_size_mk] at t7
  exact⟨T.length+1 - m2,by omega,m2,gv,ga,gf+1,vs,ar,fs++[⟨fn,fp,fl,fw,fb⟩],by omega,by(try simp at*);omega,by simp[*],by simp[*],by simp[*],by simp[*];done,by simp[*],by simp[*],by simp[*],by simp[*],⟨by simp[*];done,by simp[*],hlen,by omega⟩,fun d i c hd hne=>by have hd2:d≠k+3:=(by omega);simp[*];exact hfar d i c hd hne⟩
 ·have hfar:=HF.out
  exact⟨⟨vs,ar,fs⟩,n2,by simp[Sy.Pr.row],by(try simp[Sy.Pr.size]);omega,⟨by simp[*];done,by simp[*],hlen,by omega⟩,fun d i c hd hne=>by have hd2:d≠k+3:=(by omega);simp[*];exact hfar d i c hd hne⟩
def RC (T:List Tok)(e:Int)(gx gy gp:Nat)(hp1:Hp)(v:AV)(hp2:Hp):Prop:=v= .tup []∧ ∃(x:Sy.Pr) (n2:Nat),hp2 ⟨0,5,0⟩= .box gp x.row false∧x.size≤T.length∧Rd T e 25 gx gy n2 hp2∧ ∀d i c,d≤1→(⟨d,i,c⟩:Nm)≠⟨1,25,0⟩→(⟨d,i,c⟩:Nm)≠⟨0,5,0⟩→hp2 ⟨d,i,c⟩=hp1 ⟨d,i,c⟩
theorem closure_w {T:List Tok}{e:Int}{gx gy gp:Nat}{c1 c2 c3:AV}(d:Nat)(hp1:Hp)(hr:Rd T e 25 gx gy 0 hp1)(hp:hp1 ⟨0,5,0⟩= .box gp [c1,c2,c3] false):HB Tryz.prog E47 (Lm X46) 1 d 118 [.ptr ⟨1,25,0⟩ gx 0,.ptr ⟨0,5,0⟩ gp 0] hp1 (RC T e gx gy gp hp1) (Wr 1 25 hp1):=by
 refine lim_hpcBk (k1:=2) (PR:=Wr 1 25 hp1) rfl Tryz.func118 rfl rfl bodyOk_118 rfl rvs_118 ?_
 obtain⟨h1,h2,hlen,hle⟩:=hr
 repeat' (first|(refine ZN ?_)|(refine Z2 ?_ ?_)|(intro h h';try simp[*,-h] at h')|((with_reducible apply Wo_call (f:=119));(iterate 5 exact Z5);(apply prog_w 2 (by omega));(constructor);((conv=>lhs;simp -implicitDefEqProofs [*,-Int.natCast_add])<;>exact rfl);(exact Zc);(assumption);(omega);rotate_left;(rintro _ hpp ⟨⟨a,rfl⟩,hpf⟩);rotate_right;(rintro _ hp2 ⟨⟨xv,xa,xf⟩,m2,rfl,hn2,⟨hb2,ha2,_,hle2⟩,hf2⟩;have hO2:=hf2.own (by omega);have hL2:=hf2.all (k:=1) (by omega);clear hf2;simp only[Sy.Pr.row] at*))|fail)
 ·exact⟨rfl,⟨xv,xa,xf⟩,m2,by simp[Sy.Pr.row],by omega,⟨by simp[*],by simp[*],hlen,hle2⟩,fun d i c hd h8 h9=>by simp[*]⟩
 ·exact⟨⟨a,rfl⟩,fun d i c hd hne=>hpf d i c (by omega) hne⟩
abbrev cv (c:Int):AV:= .sc (.int .u8 c)
def digB (c:Int):Bool:=decide (48≤c)&&decide (c≤57)
def letB (c:Int):Bool:=(decide (97≤c)&&decide (c≤122))||(decide (65≤c)&&decide (c≤90))
def innB (c:Int):Bool:=letB c||digB c||(c==95)
def notB (c:Int):Bool:=c !=10
theorem digit_w {X:Orc}(hX: ∀f a,X.dat f a=none)(c:Int):(Lm X).dat 205 [cv c]=some [bv (digB c)]:=by
 refine fnW (P:=Tryz.prog) (E:=E47) (X:=X) Tryz.func205 (hX _ _) rfl bodyOk_205 rfl rtys_205 rvs_205 ?_
 repeat' (first|(refine ZN ?_)|(refine Z2 ?_ ?_)|(intro h h';try simp[*,-h] at h'))
 all_goals (first|(simp_all[digB];done)|(simp_all[digB];omega))
theorem letter_w {X:Orc}(hX: ∀f a,X.dat f a=none)(c:Int):(Lm X).dat 208 [cv c]=some [bv (letB c)]:=by
 refine fnW (P:=Tryz.prog) (E:=E47) (X:=X) Tryz.func208 (hX _ _) rfl bodyOk_208 rfl rtys_208 rvs_208 ?_
 repeat' (first|(refine ZN ?_)|(refine Z2 ?_ ?_)|(intro h h';try simp[*,-h] at h'))
 all_goals (first|(simp_all[letB];done)|(simp_all[letB];omega))
theorem inName_w {X:Orc}(hX: ∀f a,X.dat f a=none)(c:Int):(Lm X).dat 210 [cv c]=some [bv (innB c)]:=by
 refine fnW (P:=Tryz.prog) (E:=E47) (X:=X) Tryz.func210 (hX _ _) rfl bodyOk_210 rfl rtys_210 rvs_210 ?_
 have d1:=digit_w hX
 have l1:=letter_w hX
 repeat' (first|(refine ZN ?_)|(refine Z2 ?_ ?_)|(intro h h';try simp[*,-h] at h'))
 all_goals (first|(simp_all[innB];done)|(simp_all[innB];omega))
theorem not_w {X:Orc}(hX: ∀f a,X.dat f a=none)(c:Int):(Lm X).dat 165 [cv c]=some [bv (notB c)]:=by
 refine fnW (P:=Tryz.prog) (E:=E47) (X:=X) Tryz.func165 (hX _ _) rfl bodyOk_165 rfl rtys_165 rvs_165 ?_
 repeat' (first|(refine ZN ?_)|(refine Z2 ?_ ?_)|(intro h h';try simp[*,-h] at h'))
 all_goals (first|(simp_all[notB];done)|(simp_all[notB];omega))
theorem front_d {X:Orc}(hX: ∀f a,X.dat f a=none)(s:ByteArray)(hs:s.size<9223372036854775807): ∃rs,(Lm X).dat 164 [tv s,.fn 205 []]=some rs∧ ∃n,n≤s.size∧(∀h:n<s.size,digB (s[n]).toNat=false)∧rs=[tv (s.extract 0 n)]:=by
 refine fnR (P:=Tryz.prog) (E:=E47) (X:=X) (R:=fun rs=> ∃n,n≤s.size∧(∀h:n<s.size,digB (s[n]).toNat=false)∧rs=[tv (s.extract 0 n)]) Tryz.func164 (hX _ _) rfl bodyOk_164 rfl rtys_164 rvs_164 ?_
 have d1:=digit_w hX
 repeat' (first|(refine ZN ?_)|(refine Z2 ?_ ?_)|(intro h h';try simp[*,-h] at h'))
 refine W_loopS (n:=s.size) (fun s0 m z=> ∃i:Nat,s.size - i≤m∧i≤s.size∧z.fr 0=tv s∧z.fr 1= .fn 205 []∧z.fr 5=iv i) ⟨0,by omega,by omega,by simp,by simp,by simp⟩ ?_
 rintro m ⟨fr,hp⟩ ⟨i,hm,hi,f0,f1,f5⟩
 simp at f0 f1 f5
 by_cases hlt:i<s.size
 all_goals (first|have e1:(i:Int)<s.size:=(by omega)|have e1: ¬(i:Int)<s.size:=(by omega))
 repeat' (first|(refine ZN ?_)|(refine Z2 ?_ ?_)|(intro h h';try simp[*,-h] at h'))
 ·exact⟨s.size - (i+1),by omega,i+1,by omega,by omega,by simp[*],by simp[*],by simp[*,wrapN (k:=i) (by omega)]⟩
 ·exact⟨i,hi,fun _=>h',rfl⟩
 ·exact⟨i,hi,fun hh=>absurd hh hlt,rfl⟩
theorem front_n {X:Orc}(hX: ∀f a,X.dat f a=none)(s:ByteArray)(hs:s.size<9223372036854775807): ∃rs,(Lm X).dat 164 [tv s,.fn 210 []]=some rs∧ ∃n,n≤s.size∧(∀h:n<s.size,innB (s[n]).toNat=false)∧rs=[tv (s.extract 0 n)]:=by
 refine fnR (P:=Tryz.prog) (E:=E47) (X:=X) (R:=fun rs=> ∃n,n≤s.size∧(∀h:n<s.size,innB (s[n]).toNat=false)∧rs=[tv (s.extract 0 n)]) Tryz.func164 (hX _ _) rfl bodyOk_164 rfl rtys_164 rvs_164 ?_
 have d1:=inName_w hX
 repeat' (first|(refine ZN ?_)|(refine Z2 ?_ ?_)|(intro h h';try simp[*,-h] at h'))
 refine W_loopS (n:=s.size) (fun s0 m z=> ∃i:Nat,s.size - i≤m∧i≤s.size∧z.fr 0=tv s∧z.fr 1= .fn 210 []∧z.fr 5=iv i) ⟨0,by omega,by omega,by simp,by simp,by simp⟩ ?_
 rintro m ⟨fr,hp⟩ ⟨i,hm,hi,f0,f1,f5⟩
 simp at f0 f1 f5
 by_cases hlt:i<s.size
 all_goals (first|have e1:(i:Int)<s.size:=(by omega)|have e1: ¬(i:Int)<s.size:=(by omega))
 repeat' (first|(refine ZN ?_)|(refine Z2 ?_ ?_)|(intro h h';try simp[*,-h] at h'))
 ·exact⟨s.size - (i+1),by omega,i+1,by omega,by omega,by simp[*],by simp[*],by simp[*,wrapN (k:=i) (by omega)]⟩
 ·exact⟨i,hi,fun _=>h',rfl⟩
 ·exact⟨i,hi,fun hh=>absurd hh hlt,rfl⟩
theorem front_c {X:Orc}(hX: ∀f a,X.dat f a=none)(s:ByteArray)(hs:s.size<9223372036854775807): ∃rs,(Lm X).dat 164 [tv s,.fn 165 []]=some rs∧ ∃n,n≤s.size∧(∀h:n<s.size,notB (s[n]).toNat=false)∧rs=[tv (s.extract 0 n)]:=by
 refine fnR (P:=Tryz.prog) (E:=E47) (X:=X) (R:=fun rs=> ∃n,n≤s.size∧(∀h:n<s.size,notB (s[n]).toNat=false)∧rs=[tv (s.extract 0 n)]) Tryz.func164 (hX _ _) rfl bodyOk_164 rfl rtys_164 rvs_164 ?_
 have d1:=not_w hX
 repeat' (first|(refine ZN ?_)|(refine Z2 ?_ ?_)|(intro h h';try simp[*,-h] at h'))
 refine W_loopS (n:=s.size) (fun s0 m z=> ∃i:Nat,s.size - i≤m∧i≤s.size∧z.fr 0=tv s∧z.fr 1= .fn 165 []∧z.fr 5=iv i) ⟨0,by omega,by omega,by simp,by simp,by simp⟩ ?_
 rintro m ⟨fr,hp⟩ ⟨i,hm,hi,f0,f1,f5⟩
 simp at f0 f1 f5
 by_cases hlt:i<s.size
 all_goals (first|have e1:(i:Int)<s.size:=(by omega)|have e1: ¬(i:Int)<s.size:=(by omega))
 repeat' (first|(refine ZN ?_)|(refine Z2 ?_ ?_)|(intro h h';try simp[*,-h] at h'))
 ·exact⟨s.size - (i+1),by omega,i+1,by omega,by omega,by simp[*],by simp[*],by simp[*,wrapN (k:=i) (by omega)]⟩
 ·exact⟨i,hi,fun _=>h',rfl⟩
 ·exact⟨i,hi,fun hh=>absurd hh hlt,rfl⟩
theorem prefix_w {X:Orc}(hX: ∀f a,X.dat f a=none)(s t:ByteArray): ∃rs,(Lm X).dat 204 [tv s,tv t]=some rs∧ ∃b,(b=true→t.size≤s.size)∧rs=[bv b]:=by
 refine fnR (P:=Tryz.prog) (E:=E47) (X:=X) (R:=fun rs=> ∃b,(b=true→t.size≤s.size)∧rs=[bv b]) Tryz.func204 (hX _ _) rfl bodyOk_204 rfl rtys_204 rvs_204 ?_
 repeat' (first|(refine ZN ?_)|(refine Z2 ?_ ?_)|(intro h h';try simp[*,-h] at h'))
 ·exact⟨_,fun _=>h',rfl⟩
 ·exact⟨_,by simp,rfl⟩
theorem number_w {X:Orc}(hX: ∀f a,X.dat f a=none)(s:ByteArray)(hs:s.size<9223372036854775807): ∃rs,(Lm X).dat 206 [tv s]=some rs∧ ∃(k n e:Int) (t:ByteArray),(t=s∧e=0∨e=2)∧rs=[.agg [iz k,tz t,uz n,iz 0],iz e]:=by
 refine fnR (P:=Tryz.prog) (E:=E47) (X:=X) (R:=fun rs=> ∃(k n e:Int) (t:ByteArray),(t=s∧e=0∨e=2)∧rs=[.agg [iz k,tz t,uz n,iz 0],iz e]) Tryz.func206 (hX _ _) rfl bodyOk_206 rfl rtys_206 rvs_206 ?_
 repeat' (first|(refine ZN ?_)|(refine Z2 ?_ ?_)|(intro h h';try simp[*,-h] at h'))
 refine W_loopS (n:=s.size) (fun s0 m z=> ∃(i:Nat) (a:Int),s.size - i≤m∧i≤s.size∧z.fr 0=tv s∧z.fr 4= .sc (.int .u64 a)∧z.fr 5=iv i∧z.fr 2=s0.fr 2∧z.hp=s0.hp) ⟨0,0,by omega,by omega,by simp,by simp,by simp,rfl,rfl⟩ ?_
 rintro m ⟨fr,hp⟩ ⟨i,a,hm,hi,f0,f4,f5,f2,fh⟩
 simp at f0 f4 f5 f2 fh
 by_cases hlt:i<s.size
 all_goals (first|have e1:(i:Int)<s.size:=(by omega)|have e1: ¬(i:Int)<s.size:=(by omega))
 repeat' (first|(refine ZN ?_)|(refine Z2 ?_ ?_)|(intro h h';try simp[*,-h] at h'))
 ·exact⟨0,0,2,⟨#[]⟩,.inr rfl,rfl⟩
 ·refine⟨s.size - (i+1),by omega,i+1,?_⟩
  apply Exists.intro
  refine⟨by omega,by omega,by simp[*],?_,by simp[*,wrapN (k:=i) (by omega)],by simp[*],by simp[*]⟩
  (conv=>lhs;simp[*])<;>exact rfl
 ·exact⟨2,_,0,s,.inl ⟨rfl,rfl⟩,rfl⟩
theorem byte_w {X:Orc}(hX: ∀f a,X.dat f a=none)(s:ByteArray): ∃rs,(Lm X).dat 207 [tv s]=some rs∧ ∃(k n e:Int) (t:ByteArray),(t.size=3∧3≤s.size∧e=0∨e=3)∧rs=[.agg [iz k,tz t,uz n,iz 0],iz e]:=by
 refine fnR (P:=Tryz.prog) (E:=E47) (X:=X) (R:=fun rs=> ∃(k n e:Int) (t:ByteArray),(t.size=3∧3≤s.size∧e=0∨e=3)∧rs=[.agg [iz k,tz t,uz n,iz 0],iz e]) Tryz.func207 (hX _ _) rfl bodyOk_207 rfl rtys_207 rvs_207 ?_
 by_cases h3:s.size<3
 all_goals (first|(have e1:(s.size:Int)<3:=(by omega))|(have e1: ¬(s.size:Int)<3:=(by omega);have e2:2<s.size:=(by omega);have e3:1<s.size:=(by omega);have e4:3≤s.size:=(by omega)))
 repeat' (first|(refine ZN ?_)|(refine Z2 ?_ ?_)|(intro h h';try simp[*,-h] at h'))
 all_goals (first|exact⟨2,_,0,s.extract 0 3,.inl ⟨by simp;omega,by omega,rfl⟩,rfl⟩|exact⟨0,0,3,⟨#[]⟩,.inr rfl,rfl⟩)
theorem isWord_w {X:Orc}(hX: ∀f a,X.dat f a=none)(s:ByteArray): ∃rs,(Lm X).dat 212 [tv s]=some rs∧ ∃b,rs=[bv b]:=by
 refine fnR (P:=Tryz.prog) (E:=E47) (X:=X) (R:=fun rs=> ∃b,rs=[bv b]) Tryz.func212 (hX _ _) rfl bodyOk_212 rfl rtys_212 rvs_212 ?_
 repeat' (first|(refine ZN ?_)|(refine Z2 ?_ ?_)|(intro h h';try simp[*,-h] at h'))
 refine W_loopS (n:=10) (fun s0 m z=> ∃i:Nat,10 - i≤m∧i≤10∧z.fr 0=tv s∧z.fr 2=bv false∧z.fr 4=iv i) ⟨0,by omega,by omega,by simp,by simp,by simp⟩ ?_
 rintro m ⟨fr,hp⟩ ⟨i,hm,hi,f0,f2,f4⟩
 simp at f0 f2 f4
 obtain(rfl|rfl|rfl|rfl|rfl|rfl|rfl|rfl|rfl|rfl|rfl):i=0∨i=1∨i=2∨i=3∨i=4∨i=5∨i=6∨i=7∨i=8∨i=9∨i=10:=by omega
 all_goals simp at f4
 repeat' (first|(refine ZN ?_)|(refine Z2 ?_ ?_)|(intro h h';try simp[*,-h] at h'))
 all_goals (first|exact⟨_,rfl⟩|exact⟨9,by omega,1,by omega,by omega,by simp[*],by simp[*],by(first|(simp[*];done)|(simp[*];decide+kernel))⟩|exact⟨8,by omega,2,by omega,by omega,by simp[*],by simp[*],by(first|(simp[*];done)|(simp[*];decide+kernel))⟩|exact⟨7,by omega,3,by omega,by omega,by simp[*],by simp[*],by(first|(simp[*];done)|(simp[*];decide+kernel))⟩|exact⟨6,by omega,4,by omega,by omega,by simp[*],by simp[*],by(first|(simp[*];done)|(simp[*];decide+kernel))⟩|exact⟨5,by omega,5,by omega,by omega,by simp[*],by simp[*],by(first|(simp[*];done)|(simp[*];decide+kernel))⟩|exact⟨4,by omega,6,by omega,by omega,by simp[*],by simp[*],by(first|(simp[*];done)|(simp[*];decide+kernel))⟩|exact⟨3,by omega,7,by omega,by omega,by simp[*],by simp[*],by(first|(simp[*];done)|(simp[*];decide+kernel))⟩|exact⟨2,by omega,8,by omega,by omega,by simp[*],by simp[*],by(first|(simp[*];done)|(simp[*];decide+kernel))⟩|exact⟨1,by omega,9,by omega,by omega,by simp[*],by simp[*],by(first|(simp[*];done)|(simp[*];decide+kernel))⟩|exact⟨0,by omega,10,by omega,by omega,by simp[*],by simp[*],by(first|(simp[*];done)|(simp[*];decide+kernel))⟩)
theorem hasPrefix_w {X:Orc}(hX: ∀f a,X.dat f a=none)(s t:ByteArray): ∃rs,(Lm X).dat 163 [tv s,tv t]=some rs∧ ∃b,(b=true→t.size≤s.size)∧rs=[bv b]:=by
 refine fnR (P:=Tryz.prog) (E:=E47) (X:=X) (R:=fun rs=> ∃b,(b=true→t.size≤s.size)∧rs=[bv b]) Tryz.func163 (hX _ _) rfl bodyOk_163 rfl rtys_163 rvs_163 ?_
 obtain⟨_,h1,b,hb,rfl⟩:=prefix_w hX s t
 repeat' (first|(refine ZN ?_)|(refine Z2 ?_ ?_)|(intro h h';try simp[*,-h] at h'))
 exact⟨b,hb,rfl⟩
theorem name_w {X:Orc}(hX: ∀f a,X.dat f a=none)(s:ByteArray): ∃rs,(Lm X).dat 209 [tv s]=some rs∧ ∃(k n e:Int) (t:ByteArray),(t=s∧e=0∨e=2)∧rs=[.agg [iz k,tz t,uz n,iz 0],iz e]:=by
 refine fnR (P:=Tryz.prog) (E:=E47) (X:=X) (R:=fun rs=> ∃(k n e:Int) (t:ByteArray),(t=s∧e=0∨e=2)∧rs=[.agg [iz k,tz t,uz n,iz 0],iz e]) Tryz.func209 (hX _ _) rfl bodyOk_209 rfl rtys_209 rvs_209 ?_
 obtain⟨_,h1,b,rfl⟩:=isWord_w hX s
 repeat' (first|(refine ZN ?_)|(refine Z2 ?_ ?_)|(intro h h';try simp[*,-h] at h'))
 all_goals (first|exact⟨_,_,0,s,.inl ⟨rfl,rfl⟩,rfl⟩|exact⟨0,0,2,⟨#[]⟩,.inr rfl,rfl⟩)
theorem first_w {X:Orc}(hX: ∀f a,X.dat f a=none)(s:ByteArray)(h0:0<s.size)(hs:s.size<9223372036854775807): ∃rs,(Lm X).dat 166 [tv s]=some rs∧ ∃(k n e:Int) (t:ByteArray),(1≤t.size∧t.size≤s.size∧e=0∨1≤e)∧rs=[.agg [iz k,tz t,uz n,iz 0],iz e]:=by
 refine fnR (P:=Tryz.prog) (E:=E47) (X:=X) (R:=fun rs=> ∃(k n e:Int) (t:ByteArray),(1≤t.size∧t.size≤s.size∧e=0∨1≤e)∧rs=[.agg [iz k,tz t,uz n,iz 0],iz e]) Tryz.func166 (hX _ _) rfl bodyOk_166 rfl rtys_166 rvs_166 ?_
 obtain⟨_,fd1,nd,hnd,hpd,rfl⟩:=front_d hX s hs
 obtain⟨_,fn1,nn,hnn,hpn,rfl⟩:=front_n hX s hs
 obtain⟨_,nu,k1,n1,e1,t1,hr1,rfl⟩:=number_w hX (s.extract 0 nd) (by simp;omega)
 obtain⟨_,na,k2,n2,e2,t2,hr2,rfl⟩:=name_w hX (s.extract 0 nn)
 obtain⟨_,bq,k3,n3,e3,t3,hr3,rfl⟩:=byte_w hX s
 have d1:=digit_w hX
 have l1:=letter_w hX
 have pw: ∀t,∃b,(b=true→t.size≤s.size)∧(Lm X).dat 163 [tv s,tv t]=some [bv b]:=fun t=>by
  obtain⟨_,h1,b,hb,rfl⟩:=hasPrefix_w hX s t
  exact⟨b,hb,h1⟩
 obtain⟨bp,hbp⟩: ∃bp:ByteArray→Bool,∀t,(bp t=true→t.size≤s.size)∧(Lm X).dat 163 [tv s,tv t]=some [bv (bp t)]:=⟨fun t=>Classical.choose (pw t),fun t=>Classical.choose_spec (pw t)⟩
 have hb1:=fun t=>(hbp t).1
 have hb2:=fun t=>(hbp t).2
 clear hbp pw
 repeat' (first|(refine ZN ?_)|(refine Z2 ?_ ?_)|(intro h h';try simp[*,-h] at h'))
 ·have z1:nd≠0:=(by rintro rfl;have q:digB ↑s[0].toNat=true:=h';rw[hpd h0] at q;cases q)
  rcases hr1 with⟨rfl,rfl⟩|rfl
  ·exact⟨k1,n1,0,_,.inl ⟨by simp;omega,by simp;omega,rfl⟩,rfl⟩
  ·exact⟨k1,n1,2,t1,.inr (by decide),rfl⟩
 ·rcases hr3 with⟨ha,hb,rfl⟩|rfl
  ·exact⟨k3,n3,0,_,.inl ⟨by omega,by omega,rfl⟩,rfl⟩
  ·exact⟨k3,n3,3,t3,.inr (by decide),rfl⟩
 ·have z1:nn≠0:=(by rintro rfl;have q:innB ↑s[0].toNat=true:=(by simp only[innB,Bool.or_eq_true];exact .inl (.inl h'));rw[hpn h0] at q;cases q)
  rcases hr2 with⟨rfl,rfl⟩|rfl
  ·exact⟨k2,n2,0,_,.inl ⟨by simp;omega,by simp;omega,rfl⟩,rfl⟩
  ·exact⟨k2,n2,2,t2,.inr (by decide),rfl⟩
 refine W_loopS (n:=24) (fun s0 m z=> ∃i:Nat,24 - i≤m∧i≤24∧z.fr 0=tv s∧z.fr 2=s0.fr 2∧z.hp=s0.hp∧z.fr 31=iv i) ⟨0,by omega,by omega,by simp,rfl,rfl,by simp⟩ ?_
 rintro m ⟨fr,hp⟩ ⟨i,hm,hi,f0,f2,fh,f4⟩
 simp at f0 f2 f4 fh
 obtain(rfl|rfl|rfl|rfl|rfl|rfl|rfl|rfl|rfl|rfl|rfl|rfl|rfl|rfl|rfl|rfl|rfl|rfl|rfl|rfl|rfl|rfl|rfl|rfl|rfl):i=0∨i=1∨i=2∨i=3∨i=4∨i=5∨i=6∨i=7∨i=8∨i=9∨i=10∨i=11∨i=12∨i=13∨i=14∨i=15∨i=16∨i=17∨i=18∨i=19∨i=20∨i=21∨i=22∨i=23∨i=24:=by omega
 all_goals simp at f4
 repeat' (first|(refine ZN ?_)|(refine Z2 ?_ ?_)|(intro h h';try simp[*,-h] at h'))
 all_goals (first|exact⟨_,_,0,_,.inl ⟨by decide,hb1 _ h',rfl⟩,rfl⟩|exact⟨0,0,3,⟨#[]⟩,.inr (by decide),rfl⟩|exact⟨23,by omega,1,by omega,by omega,by simp[*],by simp[*],by simp[*],by(first|(simp[*];done)|(simp[*];decide+kernel))⟩|exact⟨22,by omega,2,by omega,by omega,by simp[*],by simp[*],by simp[*],by(first|(simp[*];done)|(simp[*];decide+kernel))⟩|exact⟨21,by omega,3,by omega,by omega,by simp[*],by simp[*],by simp[*],by(first|(simp[*];done)|(simp[*];decide+kernel))⟩|exact⟨20,by omega,4,by omega,by omega,by simp[*],by simp[*],by simp[*],by(first|(simp[*];done)|(simp[*];decide+kernel))⟩|exact⟨19,by omega,5,by omega,by omega,by simp[*],by simp[*],by simp[*],by(first|(simp[*];done)|(simp[*];decide+kernel))⟩|exact⟨18,by omega,6,by omega,by omega,by simp[*],by simp[*],by simp[*],by(first|(simp[*];done)|(simp[*];decide+kernel))⟩|exact⟨17,by omega,7,by omega,by omega,by simp[*],by simp[*],by simp[*],by(first|(simp[*];done)|(simp[*];decide+kernel))⟩|exact⟨16,by omega,8,by omega,by omega,by simp[*],by simp[*],by simp[*],by(first|(simp[*];done)|(simp[*];decide+kernel))⟩|exact⟨15,by omega,9,by omega,by omega,by simp[*],by simp[*],by simp[*],by(first|(simp[*];done)|(simp[*];decide+kernel))⟩|exact⟨14,by omega,10,by omega,by omega,by simp[*],by simp[*],by simp[*],by(first|(simp[*];done)|(simp[*];decide+kernel))⟩|exact⟨13,by omega,11,by omega,by omega,by simp[*],by simp[*],by simp[*],by(first|(simp[*];done)|(simp[*];decide+kernel))⟩|exact⟨12,by omega,12,by omega,by omega,by simp[*],by simp[*],by simp[*],by(first|(simp[*];done)|(simp[*];decide+kernel))⟩|exact⟨11,by omega,13,by omega,by omega,by simp[*],by simp[*],by simp[*],by(first|(simp[*];done)|(simp[*];decide+kernel))⟩|exact⟨10,by omega,14,by omega,by omega,by simp[*],by simp[*],by simp[*],by(first|(simp[*];done)|(simp[*];decide+kernel))⟩|exact⟨9,by omega,15,by omega,by omega,by simp[*],by simp[*],by simp[*],by(first|(simp[*];done)|(simp[*];decide+kernel))⟩|exact⟨8,by omega,16,by omega,by omega,by simp[*],by simp[*],by simp[*],by(first|(simp[*];done)|(simp[*];decide+kernel))⟩|exact⟨7,by omega,17,by omega,by omega,by simp[*],by simp[*],by simp[*],by(first|(simp[*];done)|(simp[*];decide+kernel))⟩|exact⟨6,by omega,18,by omega,by omega,by simp[*],by simp[*],by simp[*],by(first|(simp[*];done)|(simp[*];decide+kernel))⟩|exact⟨5,by omega,19,by omega,by omega,by simp[*],by simp[*],by simp[*],by(first|(simp[*];done)|(simp[*];decide+kernel))⟩|exact⟨4,by omega,20,by omega,by omega,by simp[*],by simp[*],by simp[*],by(first|(simp[*];done)|(simp[*];decide+kernel))⟩|exact⟨3,by omega,21,by omega,by omega,by simp[*],by simp[*],by simp[*],by(first|(simp[*];done)|(simp[*];decide+kernel))⟩|exact⟨2,by omega,22,by omega,by omega,by simp[*],by simp[*],by simp[*],by(first|(simp[*];done)|(simp[*];decide+kernel))⟩|exact⟨1,by omega,23,by omega,by omega,by simp[*],by simp[*],by simp[*],by(first|(simp[*];done)|(simp[*];decide+kernel))⟩|exact⟨0,by omega,24,by omega,by omega,by simp[*],by simp[*],by simp[*],by(first|(simp[*];done)|(simp[*];decide+kernel))⟩)
theorem Lex_w {X:Orc}(hX: ∀f a,X.dat f a=none)(s:ByteArray)(hs:s.size<9223372036854775807): ∃rs,(Lm X).dat 135 [tv s]=some rs∧ ∃(T:List Tok) (a e:Int),T.length≤s.size∧T.length≤20000∧0≤e∧rs=[.vec 4 (T.map Tok.row),iz a,iz e]:=by
 refine fnR (P:=Tryz.prog) (E:=E47) (X:=X) (R:=fun rs=> ∃(T:List Tok) (a e:Int),T.length≤s.size∧T.length≤20000∧0≤e∧rs=[.vec 4 (T.map Tok.row),iz a,iz e]) Tryz.func135 (hX _ _) rfl bodyOk_135 rfl rtys_135 rvs_135 ?_
 by_cases h2:s.size≤20000
 all_goals (first|have e1:(s.size:Int)≤20000:=(by omega)|have e1: ¬(s.size:Int)≤20000:=(by omega))
 repeat' (first|(refine ZN ?_)|(refine Z2 ?_ ?_)|(intro h h';try simp[*,-h] at h')|(with_reducible first|apply W_scope|apply W_sscope|apply W_slabel|apply W_label)|fail)
 ·exact⟨[],0,2,by simp,by simp,by decide,rfl⟩
 rotate_left
 ·exact⟨[],0,2,by simp,by simp,by decide,rfl⟩
 refine W_loopS (n:=s.size) (fun s0 m z=> ∃(i g:Nat) (T:List Tok),s.size - i≤m∧i≤s.size∧T.length≤i∧z.fr 0=tv s∧z.fr 5= .own ⟨0,5,0⟩ g T.length∧z.fr 6=iv i∧z.hp ⟨0,5,0⟩= .arr g 4 223 (T.map Tok.row) false) ⟨0,1,[],by omega,by omega,by simp,by simp,by simp,by simp,by simp⟩ ?_
 rintro m ⟨fr,hp⟩ ⟨i,g,T,hm,hi,hT,f0,f5,f6,h5⟩
 simp at f0 f5 f6 h5
 have x1:(T.length+1)*40≤140737488355328:=by omega
 have x2:T.length≤9223372036854775806:=by omega
 by_cases hlt:i<s.size
 all_goals (first|have e1:(i:Int)<s.size:=(by omega)|have e1: ¬(i:Int)<s.size:=(by omega))
 ·obtain⟨_,fw,k1,n1,ee,t1,hr1,rfl⟩:=first_w hX (s.extract i s.size) (by simp;omega) (by simp;omega)
  obtain⟨_,pw,b1,hb1,rfl⟩:=hasPrefix_w hX (s.extract i s.size) ⟨#[47,47]⟩
  obtain⟨_,cw,nc,hnc,hpc,rfl⟩:=front_c hX (s.extract i s.size) (by simp;omega)
  repeat' (first|(refine ZN ?_)|(refine Z2 ?_ ?_)|(intro h h';try simp[*,-h] at h')|(with_reducible first|apply W_scope|apply W_sscope|apply W_slabel|apply W_label)|fail)
  ·exact⟨s.size - (i+1),by omega,i+1,g,T,by omega,by omega,by omega,by simp[*],by simp[*],by simp[*,wrapN (k:=i) (by omega)],by simp[*]⟩
  ·have hn0:i+1≤s.size:=(by omega)
   have hx:(s.extract i s.size).size=s.size - i:=by simp
   have z1:nc≠0:=by
    rintro rfl
    have q:=hpc (by omega)
    have q2:(s.extract i s.size)[0]'(by omega)=s.data[i]:=by simp[ByteArray.getElem_extract];rfl
    rw[q2] at q
    simp[notB] at q
    omega
   rw[hx] at hnc
   have z2:min nc (s.size - i)=nc:=by omega
   have z3:IntKind.i64.wrap ((i:Int)+nc)=(i:Int)+nc:=wrap64 (by omega) (by omega)
   clear hpc
   exact⟨s.size - (i+nc),by omega,i+nc,g,T,by omega,by omega,by omega,by simp[*],by simp[*],by simp[*],by simp[*]⟩
  ·exact⟨[],i,ee,by simp,by simp,by omega,rfl⟩
  ·obtain⟨h6,h7,rfl⟩|h6:=hr1
   ·have hx:(s.extract i s.size).size=s.size - i:=by simp
    rw[hx] at h7
    have z3:IntKind.i64.wrap ((i:Int)+t1.size)=(i:Int)+t1.size:=wrap64 (by omega) (by omega)
    clear hpc hnc
    exact⟨s.size - (i+t1.size),by omega,i+t1.size,g+1,T++[⟨k1,⟨t1,by omega⟩,n1,i⟩],by omega,by omega,by simp;omega,by simp[*],by simp[*],by simp[*],by first|(simp[*];done)|(simp[*];rfl)⟩
   ·omega
  ·exact⟨s.size - (i+1),by omega,i+1,g,T,by omega,by omega,by omega,by simp[*],by simp[*],by simp[*,wrapN (k:=i) (by omega)],by simp[*]⟩
  ·exact⟨s.size - (i+1),by omega,i+1,g,T,by omega,by omega,by omega,by simp[*],by simp[*],by simp[*,wrapN (k:=i) (by omega)],by simp[*]⟩
 repeat' (first|(refine ZN ?_)|(refine Z2 ?_ ?_)|(intro h h';try simp[*,-h] at h')|(with_reducible first|apply W_scope|apply W_sscope|apply W_slabel|apply W_label)|fail)
 exact⟨T,0,0,by omega,by omega,by decide,rfl⟩
end
end Go.Proofs.YtpedpkegmalgmaaGreatDoor
