/- A part of the proof: Fa, Fb, Fc, Fd, Fe. -/
import Derived.Test.YtpmoibjpjlhcgaaGreatDoorY28
set_option linter.unusedSimpArgs false
set_option linter.unusedVariables false
set_option maxRecDepth 200000
set_option maxHeartbeats 8000000
namespace Go.Proofs.YtpmoibjpjlhcgaaGreatDoor
open Go Go.Ab Go.Ab.Sy
theorem N6 (o:Int): ∃rs,(Lm X47).dat 200 [iv o]=some rs/\ ∃s a b c,rs=[.agg [tv s,bv a,bv b,iv c]]:=by
 refine fnR (P:=Tryz.prog) (E:=E47) (X:=X47) (R:=fun rs=> ∃s a b c,rs=[.agg [tv s,bv a,bv b,iv c]]) Tryz.func200 (An _ _) rfl Wh rfl Fca rvs_200 ?_
 repeat' (first|refine ZN ?_|refine Z2 ?_ ?_|(intro h h';try simp[*,-h] at h'))
 all_goals exact⟨_,_,_,_,rfl⟩
theorem Hfa (o:Int): ∃rs,(Lm X47).dat 199 [iv o]=some rs/\ ∃b,rs=[bv b]:=by
 refine fnR (P:=Tryz.prog) (E:=E47) (X:=X47) (R:=fun rs=> ∃b,rs=[bv b]) Tryz.func199 (An _ _) rfl Wi rfl Fda rvs_199 ?_
 obtain⟨_,hs,s,a,b,c,rfl⟩:=N6 o
 repeat' (first|refine ZN ?_|refine Z2 ?_ ?_|(intro h h';try simp[*,-h] at h'))
 all_goals exact⟨_,rfl⟩
theorem D6a (v m:Int)(n:Bool): ∃rs,(Lm X47).dat 201 [iv v,iv m,bv n]=some rs/\ ∃b,rs=[bv b]:=by
 refine fnR (P:=Tryz.prog) (E:=E47) (X:=X47) (R:=fun rs=> ∃b,rs=[bv b]) Tryz.func201 (An _ _) rfl Wg rfl Fba rvs_201 ?_
 repeat' (first|refine ZN ?_|refine Z2 ?_ ?_|(intro h h';try simp[*,-h] at h'))
 all_goals exact⟨_,rfl⟩
theorem Hga (o a b c:Int): ∃rs,(Lm X47).dat 125 [.agg [iv o,iv a,iv b,iv c]]=some rs/\ ∃r,rs=[bv r]:=by
 refine fnR (P:=Tryz.prog) (E:=E47) (X:=X47) (R:=fun rs=> ∃r,rs=[bv r]) Tryz.func125 (An _ _) rfl X7 rfl Fxa rvs_125 ?_
 obtain⟨_,hs,s,sa,sb,sc,rfl⟩:=N6 o
 obtain⟨_,hk,kb,rfl⟩:=Hfa o
 have HW: ∀(v m:Int) (n:Bool),∃r,(Lm X47).dat 201 [iv v,iv m,bv n]=some [bv r]:=fun v m n=>by
  obtain⟨_,h,r,rfl⟩:=D6a v m n
  exact⟨r,h⟩
 obtain⟨w1,h1⟩:=HW a 15 sa
 obtain⟨w2,h2⟩:=HW b 15 sb
 by_cases hc:sc=2
 ·subst hc
  obtain⟨w3,h3⟩:=HW c 15 true
  clear HW
  repeat' (first|refine ZN ?_|refine Z2 ?_ ?_|(intro h h';try simp[*,-h] at h'))
  all_goals exact⟨_,rfl⟩
 ·by_cases hc0:sc=0
  ·subst hc0
   obtain⟨w3,h3⟩:=HW c 65535 false
   clear HW hc
   repeat' (first|refine ZN ?_|refine Z2 ?_ ?_|(intro h h';try simp[*,-h] at h'))
   all_goals exact⟨_,rfl⟩
  ·obtain⟨w3,h3⟩:=HW c 65535 (sc !=0)
   have h3b:=h3
   have hb:(sc !=0)=true:=by simp[hc0]
   rw[hb] at h3b
   clear HW
   repeat' (first|refine ZN ?_|refine Z2 ?_ ?_|(intro h h';try simp[*,-h] at h'))
   all_goals exact⟨_,rfl⟩
theorem J4a (o a b c:Int): ∃rs,(Lm X47).dat 87 [.agg [iv o,iv a,iv b,iv c]]=some rs/\ ∃w e,rs=[uv w,iv e]:=by
 refine fnR (P:=Tryz.prog) (E:=E47) (X:=X47) (R:=fun rs=> ∃w e,rs=[uv w,iv e]) Tryz.func87 (An _ _) rfl Cua rfl rtys_87 rvs_87 ?_
 obtain⟨_,hr,r,rfl⟩:=Hga o a b c
 repeat' (first|refine ZN ?_|refine Z2 ?_ ?_|(intro h h';try simp[*,-h] at h'))
 all_goals exact⟨_,_,rfl⟩
end Go.Proofs.YtpmoibjpjlhcgaaGreatDoor
namespace Go.Proofs.YtpmoibjpjlhcgaaGreatDoor
open Go Go.Ab Go.Ab.Sy
abbrev ur (l:List Int):List (List AV):=l.map fun w=>[uv w]
theorem G9a {sg:List (Nat×Bool)}{sfs:List Sf}(hsg:SG sg sfs){F:Sf}{c:Si}{d d2 i:Nat}{D:Nat->Nat}(h:stepD sg F.word c d=some d2)(hs: ∀j∈succs c i,∃q:Nat,j=q/\q<F.code.length/\D q=d2):InsOk sfs F c:=by
 refine⟨?_,?_,?_⟩
 ·have h13:1<=c.op/\c.op<=13:=by
   unfold stepD at h
   repeat' split at h
   all_goals first|omega|(cases h;done)
  exact⟨c.op.toNat,by omega,by omega,by omega⟩
 ·intro h10
  unfold stepD at h
  rw[if_neg (by omega),if_neg (by omega),if_neg (by omega),if_neg (by omega),if_neg (by omega),if_neg (by omega),if_pos h10] at h
  split at h
  ·split at h
   ·rename_i h0 ps v hg
    obtain⟨G,hG,_⟩:=hsg _ _ _ hg
    exact⟨c.a.toNat,G,by omega,hG⟩
   ·cases h
  ·cases h
 ·intro h89
  have hm:c.a∈succs c i:=by
   unfold succs
   rcases h89 with h8|h9
   ·rw[if_pos h8];simp
   ·rw[if_neg (by omega),if_pos h9];simp
  obtain⟨q,h1,h2,_⟩:=hs _ hm
  exact⟨q,h1,h2⟩
theorem eOf_w {sg:List (Nat×Bool)}(w0:Int)(sfs:List Sf)(hl1:1<=sfs.length)(hl:sfs.length<=1000)(hsg:SG sg sfs)(hpa: ∀(i:Nat) (F:Sf),sfs[i]?=some F-> ∃p s fi:Nat,F.params=p/\p<=1000/\F.slots=s/\s<=1000000000/\F.first=fi/\fi<=1000000000)(hall: ∀(i:Nat) (F:Sf),sfs[i]?=some F->1<=F.code.length/\F.code.length<=500000/\ ∃D:Nat->Nat,D 0=0/\ ∀(i:Nat) (c:Si),F.code[i]?=some c-> ∃d2,stepD sg F.word c (D i)=some d2/\ ∀j∈succs c i,∃q:Nat,j=q/\q<F.code.length/\D q=d2): ∃rs,(Lm X47).dat 52 [.agg [iz w0,.sl false 5 (sfs.map Sf.row)]]=some rs/\ ∃(ws:List Int) (dt e:Int),ws.length<=16384/\rs=[.agg [.vec 1 (ur ws),iv dt],iv e]:=by
 refine fnR (P:=Tryz.prog) (E:=E47) (X:=X47) (R:=fun rs=> ∃(ws:List Int) (dt e:Int),ws.length<=16384/\rs=[.agg [.vec 1 (ur ws),iv dt],iv e]) Tryz.func52 (An _ _) rfl Dfa rfl rtys_52 rvs_52 ?_
 obtain⟨_,hpl,dss,bk,bs,data,hdl,hkl,hsl,hds,rfl⟩:=Gla w0 sfs hl hsg hall
 obtain⟨n,hn⟩: ∃n,sfs.length=n:=⟨_,rfl⟩
 rw[hn] at hl1 hl hdl hkl hsl
 have HF:=Lib.hid hall
 have HPA:=Lib.hid hpa
 have HSG:=Lib.hid hsg
 have HDS:=Lib.hid hds
 clear hall hpa hsg hds
 have hmk:(n:Int)*8<=140737488355328:=by omega
 have hmk2:(n:Int)<=9223372036854775807:=by omega
 have hmk3:n*8<=140737488355328:=by omega
 have hmk4:n<=9223372036854775807:=by omega
 have hmk5:(n:Int)*24<=140737488355328:=by omega
 have hmk6:n*24<=140737488355328:=by omega
 by_cases hd:data<=32768
 rotate_left
 ·have hd2:32768<data:=by omega
  repeat' (first|refine ZN ?_|refine Z2 ?_ ?_|(intro h h';try simp[*,-h] at h'))
  exact⟨[],0,2,by simp,rfl⟩
 have hd2: ¬32768<data:=by omega
 repeat' (first|((with_reducible apply Bf (d:=18));exact rfl;(apply Ao (ps:=[(0,1),(0,2),(1,2),(0,3),(1,3),(0,4),(1,4),(0,5),(1,5),(0,6),(1,6),(2,6),(3,6),(4,6),(5,6),(0,7),(1,7),(2,7),(3,7),(4,7),(5,7),(0,8),(1,8),(2,8),(3,8),(4,8),(5,8),(0,9),(1,9),(2,9),(3,9),(4,9),(5,9)]));kernel_rfl;(iterate 7 refine Zk ?_);(iterate 2 refine Zs ?_);(iterate 5 refine Zk ?_);(refine Zs ?_);(iterate 5 refine Zk ?_);(refine Zs ?_);(iterate 5 refine Zk ?_);(iterate 7 refine Zs ?_);(exact Zz))|(refine Z1 ?_)|(refine Z2 ?_ ?_)|(intro h h';try simp[*,-h] at h'))
 refine Wo_gen fun hpE hE=>?_
 have hFF: ∀(i:Nat) (F:Sf),sfs[i]?=some F->F.code.length<=500000/\(∃p s fi:Nat,F.params=p/\p<=1000/\F.slots=s/\s<=1000000000/\F.first=fi/\fi<=1000000000)/\(∃ds,dss[i]?=some ds/\ds.length=F.code.length)/\ ∀(j:Nat) (c:Si),F.code[j]?=some c->InsOk sfs F c:=by
  intro i F hF
  obtain⟨h1,h2,D,D0,hD⟩:=HF.out i F hF
  refine⟨h2,HPA.out i F hF,HDS.out i F hF,fun j c hc=>?_⟩
  obtain⟨d2,h3,h4⟩:=hD j c hc
  exact G9a HSG.out h3 h4
 obtain⟨P,hP⟩: ∃P:GP,P=⟨w0,n,sfs,dss,bk,bs,data,1,1,1,1,1,hn,hdl,hkl,hsl,hl1,hl,hFF⟩:=⟨_,rfl⟩
 have hcs:GT P 0 0 (fun _=>False) 0 0 hpE:=by
  subst hP
  refine⟨1,1,[],[],List.replicate n 0,List.replicate n (.sl false 1 []),rfl,by simp,by simp,by simp,fun x hx=>by simp at hx,by rw[hE];simp,by rw[hE];simp,by rw[hE];simp,by rw[hE];simp,by rw[hE];simp,by rw[hE];simp,by rw[hE];simp,by rw[hE];simp,fun i F _ h=>h.elim⟩
 have hb4:hpE ⟨0,4,0⟩= .box 1 [.own ⟨0,4,1⟩ 2 n,.own ⟨0,4,2⟩ 2 n,.own ⟨0,4,3⟩ 2 n,iv data] false:=by rw[hE];simp[*]
 have hb2:hpE ⟨0,2,0⟩= .box 1 [.own ⟨0,2,1⟩ 1 0,iv 0] false:=by rw[hE];simp
 have hb21:hpE ⟨0,2,1⟩= .arr 1 1 23 [] false:=by rw[hE];simp
 have hb38:(hpE ⟨0,38,0⟩).gen=0:=by rw[hE];simp
 have hb9:(hpE ⟨0,9,0⟩).gen=0:=by rw[hE];simp
 clear hE hP hFF
 repeat' (first
  |((with_reducible first|apply Wo_u|apply Wo_n|apply ex2|apply W_c|apply Wd_u|apply Wd_n|apply ex4|apply Df|apply EndQ_normal|apply Dg|apply Bt|apply Cq|apply EndBZ_normal);exact Zc)
  |(with_reducible first|apply Gn|apply W_ss|apply K9|apply W_rl|apply Dd|apply Do|apply El|apply Fj|apply Gp|apply Ju|apply Em|apply Fk|apply Di|apply Ec|apply Ee|apply Ed|apply Kv|apply Ks|apply Kw|apply Kt|apply panW|apply panB|apply Fw|apply Fv)
  |((with_reducible apply K6);exact rfl;exact Zc;exact Zc)
  |((with_reducible apply K7);exact rfl;exact Zc;(exact rfl))
  |((with_reducible apply K5);exact rfl;(exact Zc))
  |((with_reducible apply K8);exact rfl;(exact Zc))
  |((with_reducible apply Qe);exact rfl;(exact Zc))
  |((with_reducible apply Qf);exact rfl;(exact Zc))
  |((with_reducible apply Qg);exact rfl;(exact Zc))
  |((with_reducible apply Qh);exact rfl;(exact Zc))
  |((with_reducible first|apply Cu|apply Hh);kernel_rfl)
  |((with_reducible apply A7);kernel_rfl)
  |((with_reducible apply Ku);rotate_left;exact rfl)
  |((with_reducible apply Dc);exact Zc)
  |(intro h h';try simp[*,-h] at h')
  |((with_reducible apply Aa (f:=86));(iterate 5 exact Z5);(apply(Hta (d:=31) (k:=0) (P:=P)));(exact hcs);rotate_left;(rintro _ _ h;exact h.elim);(rintro _ hp2 ⟨N,g31,cc,hcc,hNb,rfl,b31,hz⟩;have hz4:=hz 0 4 0 (by omega) (by decide) (by decide);have hz2:=hz 0 2 0 (by omega) (by decide) (by decide);have hz21:=hz 0 2 1 (by omega) (by decide) (by decide);have hz38:=hz 0 38 0 (by omega) (by decide) (by decide);have hz9:=hz 0 9 0 (by omega) (by decide) (by decide);have HZ:=Lib.hid hz;clear hz))
  |fail)
 rw[hb4] at hz4
 rw[hb2] at hz2
 rw[hb21] at hz21
 replace hz38:(hp2 ⟨0,38,0⟩).gen=0:=by rw[hz38];exact hb38
 replace hz9:(hp2 ⟨0,9,0⟩).gen=0:=by rw[hz9];exact hb9
 clear hb4 hb2 hb21 hb38 hb9 hcs
 by_cases hN:N<=16384
 rotate_left
 ·have hN2:(16384:Int)<N:=by omega
  have hN3: ¬(N:Int)<=16384:=by omega
  repeat' (first|refine ZN ?_|refine Z2 ?_ ?_|(intro h h';try simp[*,-h] at h'))
  exact⟨[],0,2,by simp,rfl⟩
 have hN2: ¬(16384:Int)<N:=by omega
 have hN3:(N:Int)<=16384:=by omega
 have hnk:(N:Int)*4<=140737488355328:=by omega
 have hnk2:(N:Int)<=9223372036854775807:=by omega
 have hnk3:N*4<=140737488355328:=by omega
 have hnk4:N<=9223372036854775807:=by omega
 have hcl:(inr cc).length=N:=by simp[hcc]
 repeat' (first|refine ZN ?_|refine Z2 ?_ ?_|(intro h h';try simp[*,-h] at h'))
 refine Ah (n:=N) (fun s0 m z=> ∃(i:Nat) (ws:List Int),N - i<=m/\i<=N/\ws.length=N/\z.fr 2= .ptr ⟨0,2,0⟩ 1 0/\z.fr 3=iv 0/\z.fr 4= .ptr ⟨0,4,0⟩ 1 0/\z.fr 7= .own ⟨0,38,0⟩ 1 N/\z.fr 39= .own ⟨0,31,0⟩ g31 N/\z.fr 40=iv N/\z.fr 41=iv i/\z.hp ⟨0,2,0⟩= .box 1 [.own ⟨0,2,1⟩ 1 0,iv 0] false/\z.hp ⟨0,2,1⟩= .arr 1 1 23 [] false/\z.hp ⟨0,4,0⟩= .box 1 [.own ⟨0,4,1⟩ 2 n,.own ⟨0,4,2⟩ 2 n,.own ⟨0,4,3⟩ 2 n,iv data] false/\z.hp ⟨0,31,0⟩= .arr g31 4 118 (inr cc) false/\z.hp ⟨0,38,0⟩= .arr 1 1 23 (ur ws) false) ⟨0,List.replicate N 0,by omega,by omega,by simp,by simp[*],by simp[*],by simp[*],by simp[*],by simp[*],by simp[*],by simp[*],by simp[*],by simp[*],by simp[*],by simp[*],by simp[*]⟩ ?_
 clear hz4 hz2 hz21 hz38 hz9 b31 hmk hmk2 hmk3 hmk4 hmk5 hmk6 hpl
 rintro m ⟨fr,hp⟩ ⟨i,ws,hm,hi,hws,f2,f3,f4,f7,f39,f40,f41,b2,b21,b4,b31,b38⟩
 simp only at f2 f3 f4 f7 f39 f40 f41 b2 b21 b4 b31 b38
 by_cases hlt:i<N
 ·have e1:(i:Int)<N:=by omega
  have hwi:IntKind.i64.wrap ((i:Int)+1)=(i:Int)+1:=wrapN (by omega)
  obtain⟨⟨w1,w2,w3,w4⟩,hx⟩: ∃x,cc[i]?=some x:=⟨_,List.getElem?_eq_getElem (by omega)⟩
  have hxg:(inr cc)[i]?=some [iv w1,iv w2,iv w3,iv w4]:=by simp[hx]
  obtain⟨_,hen,w,e,rfl⟩:=J4a w1 w2 w3 w4
  obtain⟨y,hy⟩: ∃y,ws[i]?=some y:=⟨_,List.getElem?_eq_getElem (by omega)⟩
  have hyg:(ur ws)[i]?=some [uv y]:=by simp[hy]
  have hyl:(ur ws).length=N:=by simp[hws]
  have hset:(ur ws).set i [uv w]=ur (ws.set i w):=by simp[List.map_set]
  generalize hC:inr cc=C0 at*
  generalize hU:ur ws=U0 at*
  generalize hU1:ur (ws.set i w)=U1 at*
  have hxge: ∀(h:i<C0.length),C0[i]=[iv w1,iv w2,iv w3,iv w4]:=fun h=>by have h3:=hxg;rw[List.getElem?_eq_getElem h] at h3;exact Option.some.inj h3
  have hyge: ∀(h:i<U0.length),U0[i]=[uv y]:=fun h=>by have h3:=hyg;rw[List.getElem?_eq_getElem h] at h3;exact Option.some.inj h3
  have HC:=Lib.hid hC
  have HU1:=Lib.hid hU1
  have HWS:=Lib.hid hws
  have HCC:=Lib.hid hcc
  clear hx hy hC hU hU1 hws hcc
  by_cases he:e=0
  ·subst he
   repeat' (first|refine ZN ?_|refine Z2 ?_ ?_|(intro h h';try simp[*,-h] at h'))
   exact⟨N - (i+1),by omega,i+1,ws.set i w,by omega,by omega,by simp[HWS.out],by simp[*],by simp[*],by simp[*],by simp[*],by simp[*],by simp[*],by simp[*],by simp[*],by simp[*],by simp[*],by simp[*],by rw[HU1.out];simp[*]⟩
  ·have he2:(e !=0)=true:=by simp[he]
   repeat' (first|refine ZN ?_|refine Z2 ?_ ?_|(intro h h';try simp[*,-h] at h'))
   exact⟨[],0,2,by simp,rfl⟩
 have e1: ¬(i:Int)<N:=by omega
 have htk:(ur ws).length=N:=by simp[hws]
 generalize hU:ur ws=U0 at*
 have HU:=Lib.hid hU
 clear hU
 repeat' (first|refine ZN ?_|refine Z2 ?_ ?_|(intro h h';try simp[*,-h] at h'))
 exact⟨ws,data,0,by omega,by rw[HU.out]⟩
end Go.Proofs.YtpmoibjpjlhcgaaGreatDoor
namespace Go.Proofs.YtpmoibjpjlhcgaaGreatDoor
open Go Go.Ab Go.Ab.Sy
abbrev rowI (l:List Int):List (List AV):=l.map fun b=>[.sc (.int .u8 b)]
theorem M9 : ∀l:List Int,bytesOfRows (rowI l)=some (l.map fun b=>UInt8.ofNat b.toNat)
 |[]=>rfl
 |x::l=>by
  have:=M9 l
  unfold rowI at this⊢
  simp only[List.map_cons,bytesOfRows,this,Option.map_some]
theorem Bda {l:List Int}{n:Nat}(h:l.length=n):(rowI l).take n=rowI l:=by subst h;rw[List.take_of_length_le (by simp)]
theorem ur_get {l:List Int}{i:Nat}{x:Int}(h:l[i]?=some x):(ur l)[i]?=some [uv x]:=by simp[h]
theorem Qr (ws:List Int)(hl:ws.length<=16384): ∃rs,(Lm X47).dat 33 [.sl false 1 (ur ws)]=some rs/\ ∃s:ByteArray,s.size=4*ws.length/\rs=[tv s]:=by
 refine fnR (P:=Tryz.prog) (E:=E47) (X:=X47) (R:=fun rs=> ∃s:ByteArray,s.size=4*ws.length/\rs=[tv s]) Tryz.func33 (An _ _) rfl O7 rfl Zb rvs_33 ?_
 obtain⟨n,hn⟩: ∃n,ws.length=n:=⟨_,rfl⟩
 rw[hn] at hl
 rw[hn]
 have hw4:IntKind.i64.wrap (4*(n:Int))=4*(n:Int):=Ag (by omega) (by omega)
 have hmk:(4*(n:Int))<=140737488355328:=by omega
 have hmk2:(4*(n:Int))<=9223372036854775807:=by omega
 have hmk3:0<=(4*(n:Int)):=by omega
 have hul:(ur ws).length=n:=by simp[hn]
 generalize hU:ur ws=U at*
 have HU:=Lib.hid hU
 have HN:=Lib.hid hn
 clear hU hn
 repeat' (first|refine ZN ?_|refine Z2 ?_ ?_|(intro h h';try simp[*,-h] at h'))
 refine Ah (n:=n) (fun s0 m z=> ∃(i g:Nat) (bs:List Int),n - i<=m/\i<=n/\bs.length=4*i/\z.fr 3= .own ⟨0,9,0⟩ g (4*i)/\z.fr 10= .sl false 1 U/\z.fr 11=iv n/\z.fr 12=iv i/\z.hp ⟨0,9,0⟩= .arr g 1 5 (rowI bs) false) ⟨0,1,[],by omega,by omega,rfl,by simp[*],by simp[*],by simp[*],by simp[*],by simp[*]⟩ ?_
 rintro m ⟨fr,hp⟩ ⟨i,g,bs,hm,hi,hbs,f3,f10,f11,f12,b9⟩
 simp only at f3 f10 f11 f12 b9
 have x3:=Bda hbs
 have x4:=M9 bs
 by_cases hlt:i<n
 ·have e1:(i:Int)<n:=by omega
  have hwi:IntKind.i64.wrap ((i:Int)+1)=(i:Int)+1:=wrapN (by omega)
  obtain⟨x,hx⟩: ∃x,ws[i]?=some x:=⟨_,List.getElem?_eq_getElem (by have:=HN.out;omega)⟩
  have hxg:=ur_get hx
  rw[HU.out] at hxg
  have hxge: ∀(h:i<U.length),U[i]=[uv x]:=fun h=>by have h3:=hxg;rw[List.getElem?_eq_getElem h] at h3;exact Option.some.inj h3
  have x1:4*i+4<=140737488355328:=by omega
  have x2:4*i<=9223372036854775803:=by omega
  clear hx
  repeat' (first|refine ZN ?_|refine Z2 ?_ ?_|(intro h h';try simp[*,-h] at h'))
  exact⟨n - (i+1),by omega,i+1,g+1,bs++[IntKind.u8.wrap x,IntKind.u8.wrap (x.fdiv (2^min 8 IntKind.u32.bits)),IntKind.u8.wrap (x.fdiv (2^min 16 IntKind.u32.bits)),IntKind.u8.wrap (x.fdiv (2^min 24 IntKind.u32.bits))],by omega,by omega,by simp[hbs];omega,by simp[Nat.mul_add],by simp[*],by simp[*],by simp[*],by simp[*]⟩
 have e1: ¬(i:Int)<n:=by omega
 obtain rfl:i=n:=by omega
 repeat' (first|refine ZN ?_|refine Z2 ?_ ?_|(intro h h';try simp[*,-h] at h'))
 exact⟨_,by simp[ByteArray.size,hbs],rfl⟩
theorem Gya (ws:List Int)(dt:Int): ∃rs,(Lm X47).dat 54 [.agg [.sl false 1 (ur ws),iv dt]]=some rs/\ ∃b,rs=[bv b]:=by
 refine fnR (P:=Tryz.prog) (E:=E47) (X:=X47) (R:=fun rs=> ∃b,rs=[bv b]) Tryz.func54 (An _ _) rfl Dda rfl rtys_54 rvs_54 ?_
 repeat' (first|refine ZN ?_|refine Z2 ?_ ?_|(intro h h';try simp[*,-h] at h'))
 all_goals exact⟨_,rfl⟩
theorem Put_w (ws:List Int)(dt:Int)(hl:ws.length<=16384): ∃rs,(Lm X47).dat 26 [.agg [.sl false 1 (ur ws),iv dt]]=some rs/\ ∃(s:ByteArray) (e:Int),s.size<=70000/\(e≠0->s=⟨#[]⟩)/\rs=[tv s,iv e]:=by
 refine fnR (P:=Tryz.prog) (E:=E47) (X:=X47) (R:=fun rs=> ∃(s:ByteArray) (e:Int),s.size<=70000/\(e≠0->s=⟨#[]⟩)/\rs=[tv s,iv e]) Tryz.func26 (An _ _) rfl Doa rfl rtys_26 rvs_26 ?_
 obtain⟨_,hr,b,rfl⟩:=Gya ws dt
 obtain⟨_,hb,s,hs,rfl⟩:=Qr ws hl
 obtain⟨_,hb2,s2,hs2,rfl⟩:=Qr [IntKind.u32.wrap (ws.length:Int),IntKind.u32.wrap dt] (by simp)
 simp only[ur,List.map_cons,List.map_nil] at hb2
 simp at hs2
 have hul:(ur ws).length=ws.length:=by simp
 have hut:(ur ws).take ws.length=ur ws:=by rw[List.take_of_length_le (by simp)]
 have hz:(⟨#[83,69,69,68]⟩:ByteArray).size+8+4*ws.length<=9223372036854775807:=by rw[show ByteArray.size ⟨#[83,69,69,68]⟩=4 from rfl];omega
 cases b
 ·repeat' (first|((with_reducible apply Bf (d:=7));exact rfl;(apply Ao (ps:=[(0,4),(1,4),(2,4),(3,4),(0,5),(1,5),(2,5),(3,5),(0,6),(1,6),(2,6),(3,6),(0,10),(1,10),(2,10),(3,10),(4,10),(5,10),(6,10),(7,10),(8,10),(9,10),(0,11),(1,11),(2,11),(3,11),(4,11),(5,11),(6,11),(7,11),(8,11),(9,11),(9,12)]));kernel_rfl;(iterate 19 refine Zk ?_);(iterate 2 refine Zs ?_);(iterate 8 refine Zk ?_);(iterate 2 refine Zs ?_);(refine Zk ?_);(refine Zs ?_);(exact Zz))|(refine Z1 ?_)|(refine Z2 ?_ ?_)|(intro h h';try simp[*,-h] at h'))
  exact⟨⟨#[]⟩,1,by decide,fun _=>rfl,rfl⟩
 ·repeat' (first|((with_reducible apply Bf (d:=7));exact rfl;(apply Ao (ps:=[(0,4),(1,4),(2,4),(3,4),(0,5),(1,5),(2,5),(3,5),(0,6),(1,6),(2,6),(3,6),(0,10),(1,10),(2,10),(3,10),(4,10),(5,10),(6,10),(7,10),(8,10),(9,10),(0,11),(1,11),(2,11),(3,11),(4,11),(5,11),(6,11),(7,11),(8,11),(9,11),(9,12)]));kernel_rfl;(iterate 19 refine Zk ?_);(iterate 2 refine Zs ?_);(iterate 8 refine Zk ?_);(iterate 2 refine Zs ?_);(refine Zk ?_);(refine Zs ?_);(exact Zz))|(refine Z1 ?_)|(refine Z2 ?_ ?_)|(intro h h';try simp[*,-h] at h'))
  exact⟨_,0,by rw[show∀a b c:ByteArray,(a++b++c).size=a.size+b.size+c.size from fun a b c=>by simp];rw[show ByteArray.size ⟨#[83,69,69,68]⟩=4 from rfl];omega,fun h=>absurd rfl h,rfl⟩
end Go.Proofs.YtpmoibjpjlhcgaaGreatDoor
namespace Go.Proofs.YtpmoibjpjlhcgaaGreatDoor
open Go Go.Ab Go.Ab.Sy
theorem Sh {out:List (Tx×Th)}: ∀{l:List Fu} {w:Int} {i:Nat} {F:Cf},(coFs out w l)[i]?=some F-> ∃(f:Fu) (w':Int),l[i]?=some f/\F=coF out w' f/\w<=w'/\w'<=w+coW l
 |[],w,i,F,h=>by simp[coFs] at h
 |f::l,w,0,F,h=>by
  simp only[coFs,List.getElem?_cons_zero,Option.some.injEq] at h
  have h2:=(Vf l).1
  exact⟨f,w,rfl,h.symm,by omega,by simp[coW];omega⟩
 |f::l,w,i+1,F,h=>by
  simp only[coFs,List.getElem?_cons_succ] at h
  obtain⟨g,w',h1,h2,h3,h4⟩:=Sh h
  exact⟨g,w',by simpa using h1,h2,by omega,by simp only[coW];omega⟩
theorem arW_ge : ∀{l:List (Tx×Int)},(∀a∈l,1<=a.2)->0<=arW l
 |[],_=>by simp[arW]
 |a::l,h=>by
  have h1:=h a (by simp)
  have h2:=arW_ge (l:=l) (fun b hb=>h b (by simp[hb]))
  simp only[arW]
  omega
theorem low_ok {p:Pr}(h0:soundS nbT p=0)(hs:p.size<=20000)(hw:coWords p<=32768):(∀f∈(coreS p).funcs,gSs (sigs p.funcs) f.word f.body=true/\csSize f.body<=20000)/\
  1<=(((coreS p).funcs).map lowF).length/\(((coreS p).funcs).map lowF).length<=1000/\SG (sigs p.funcs) (((coreS p).funcs).map lowF)/\
  (∀(i:Nat) (F:Sf),(((coreS p).funcs).map lowF)[i]?=some F-> ∃p s fi:Nat,F.params=p/\p<=1000/\F.slots=s/\s<=1000000000/\F.first=fi/\fi<=1000000000)/\
  (∀(i:Nat) (F:Sf),(((coreS p).funcs).map lowF)[i]?=some F->1<=F.code.length/\F.code.length<=500000/\ ∃D:Nat->Nat,D 0=0/\ ∀(i:Nat) (c:Si),F.code[i]?=some c-> ∃d2,stepD (sigs p.funcs) F.word c (D i)=some d2/\ ∀j∈succs c i,∃q:Nat,j=q/\q<F.code.length/\D q=d2):=by
 have hr:=(Ef h0).1
 unfold rP at hr
 simp only[Bool.and_eq_true,decide_eq_true_eq,List.all_eq_true] at hr
 obtain⟨⟨⟨⟨hr1,hr2⟩,_⟩,hra⟩,hrf⟩:=hr
 have har:0<=arW p.arrays:=arW_ge fun a ha=>by
  have h1:=hra a ha
  unfold rP.rA' rA at h1
  simp only[Bool.and_eq_true,decide_eq_true_eq] at h1
  exact h1.1.2
 have how:0<=coOutW p:=by unfold coOutW;omega
 have hsz:fuSize p.funcs<=20000:=by unfold Pr.size at hs;omega
 have hfn: ∀(i:Nat) (C:Cf),(coreS p).funcs[i]?=some C-> ∃(f:Fu) (w':Int),p.funcs[i]?=some f/\C=coF (setAll (coOutL p) []) w' f/\0<=w'/\w'<=32768/\gSs (sigs p.funcs) C.word C.body=true/\csSize C.body<=20000:=by
  intro i C hC
  obtain⟨f,w',h1,h2,h3,h4⟩:=Sh hC
  have h5:=Caa h0 h1 w'
  have h6:=Sy.Fd (List.mem_of_getElem? h1)
  refine⟨f,w',h1,h2,by omega,by unfold coWords at hw;omega,?_,?_⟩
  ·rw[h2];exact h5
  ·rw[h2]
   simp only[coF,G0]
   unfold Fu.size at h6
   omega
 have hlen:(((coreS p).funcs).map lowF).length=p.funcs.length:=by simp[coreS,Jq]
 have hmap: ∀(i:Nat) (F:Sf),(((coreS p).funcs).map lowF)[i]?=some F-> ∃C,(coreS p).funcs[i]?=some C/\F=lowF C:=by
  intro i F h
  rw[List.getElem?_map] at h
  cases hc:(coreS p).funcs[i]? with
  |none=>rw[hc] at h;cases h
  |some C=>rw[hc] at h;exact⟨C,rfl,(Option.some.inj h).symm⟩
 refine⟨fun f hf=>?_,by omega,by omega,?_,?_,?_⟩
 ·obtain⟨i,hi⟩:=List.mem_iff_getElem?.1 hf
  obtain⟨_,_,_,_,_,_,h5,h6⟩:=hfn i f hi
  exact⟨h5,h6⟩
 ·intro i ps v h
  unfold sigs at h
  rw[List.getElem?_map] at h
  cases hc:p.funcs[i]? with
  |none=>rw[hc] at h;cases h
  |some f=>
   rw[hc] at h
   simp only[Option.map_some,Option.some.injEq,Prod.mk.injEq] at h
   obtain⟨C,hC⟩: ∃C,(coreS p).funcs[i]?=some C:=⟨_,List.getElem?_eq_getElem (by simp only[coreS,Jq];exact(List.getElem?_eq_some_iff.1 hc).1)⟩
   obtain⟨g,w',h1,h2,_⟩:=hfn i C hC
   rw[hc] at h1
   cases h1
   refine⟨lowF C,by simp[hC],?_,?_⟩
   ·rw[h2];simp only[lowF,coF];rw[<-h.1]
   ·rw[h2];simp only[lowF,coF];exact h.2
 ·intro i F h
  obtain⟨C,hC,rfl⟩:=hmap i F h
  obtain⟨f,w',h1,h2,h3,h4,_⟩:=hfn i C hC
  have h6:=Sy.Fd (List.mem_of_getElem? h1)
  unfold Fu.size at h6
  have h9:=hrf f (List.mem_of_getElem? h1)
  unfold rF at h9
  simp only[Bool.and_eq_true,decide_eq_true_eq] at h9
  have h10:=h9.1.1.1.2
  refine⟨f.params.length,Sy.slotsOf f,w'.toNat,by rw[h2];rfl,by omega,by rw[h2];rfl,by unfold Sy.slotsOf;omega,by rw[h2];simp only[lowF,coF];omega,by omega⟩
 ·intro i F h
  obtain⟨C,hC,rfl⟩:=hmap i F h
  obtain⟨_,_,_,_,_,_,h5,h6⟩:=hfn i C hC
  have h7:=lF_len C
  have h8:1<=(lF C).length:=by unfold lF leave;split<;>simp
  exact⟨h8,by simp only[lowF];omega,depthF h5⟩
theorem Hea {p:Pr}(h0:soundS nbT p=0)(hs:p.size<=20000)(hw:coWords p<=32768): ∃rs,(Lm X47).dat 51 [.agg [iv (coWords p),.sl false 5 ((coreS p).funcs.map Cf.row)]]=some rs/\ ∃(ws:List Int) (dt e:Int),ws.length<=16384/\rs=[.agg [.vec 1 (ur ws),iv dt],iv e]:=by
 refine fnR (P:=Tryz.prog) (E:=E47) (X:=X47) (R:=fun rs=> ∃(ws:List Int) (dt e:Int),ws.length<=16384/\rs=[.agg [.vec 1 (ur ws),iv dt],iv e]) Tryz.func51 (An _ _) rfl Dga rfl rtys_51 rvs_51 ?_
 obtain⟨g1,g2,g3,g4,g5,g6⟩:=low_ok h0 hs hw
 have hlo:=lowOf_w (coWords p) (coreS p).funcs g1 (by simp at g3;omega)
 obtain⟨_,he,ws,dt,e,hl,rfl⟩:=eOf_w (coWords p) _ g2 g3 g4 g5 g6
 clear g1 g2 g3 g4 g5 g6
 have hul:(ur ws).length=ws.length:=by simp
 have hut:(ur ws).take ws.length=ur ws:=by rw[List.take_of_length_le (by simp)]
 generalize (coreS p).funcs.map lowF=sfs at*
 generalize (coreS p).funcs.map Cf.row=cfs at*
 generalize coWords p=w0 at*
 have hsl:(sfs.map Sf.row).take sfs.length=sfs.map Sf.row:=by rw[List.take_of_length_le (by simp)]
 repeat' (first|refine ZN ?_|refine Z2 ?_ ?_|(intro h h';try simp[*,-h] at h'))
 exact⟨ws,dt,e,hl,rfl⟩
theorem Eda {p:Pr}(h0:soundS nbT p=0)(hs:p.size<=20000)(hw:coWords p<=32768): ∃rs,(Lm X47).dat 50 [.agg [iv (coWords p),.sl false 5 ((coreS p).funcs.map Cf.row)],iv 0,.fn 51 []]=some rs/\ ∃(ws:List Int) (dt e:Int),ws.length<=16384/\rs=[.agg [.vec 1 (ur ws),iv dt],iv e]:=by
 refine fnR (P:=Tryz.prog) (E:=E47) (X:=X47) (R:=fun rs=> ∃(ws:List Int) (dt e:Int),ws.length<=16384/\rs=[.agg [.vec 1 (ur ws),iv dt],iv e]) Tryz.func50 (An _ _) rfl O5 rfl Y9 rvs_50 ?_
 obtain⟨_,he,ws,dt,e,hl,rfl⟩:=Hea h0 hs hw
 have hul:(ur ws).length=ws.length:=by simp
 have hut:(ur ws).take ws.length=ur ws:=by rw[List.take_of_length_le (by simp)]
 generalize (coreS p).funcs.map Cf.row=cfs at*
 generalize coWords p=w0 at*
 repeat' (first|refine ZN ?_|refine Z2 ?_ ?_|(intro h h';try simp[*,-h] at h'))
 exact⟨ws,dt,e,hl,rfl⟩
theorem Qs (e:Int)(he:e≠0): ∃rs,(Lm X47).dat 50 [.agg [iv 0,.sl false 5 []],iv e,.fn 51 []]=some rs/\ ∃(ws:List Int) (dt e:Int),ws.length<=16384/\rs=[.agg [.vec 1 (ur ws),iv dt],iv e]:=by
 refine fnR (P:=Tryz.prog) (E:=E47) (X:=X47) (R:=fun rs=> ∃(ws:List Int) (dt e:Int),ws.length<=16384/\rs=[.agg [.vec 1 (ur ws),iv dt],iv e]) Tryz.func50 (An _ _) rfl O5 rfl Y9 rvs_50 ?_
 repeat' (first|refine ZN ?_|refine Z2 ?_ ?_|(intro h h';try simp[*,-h] at h'))
 exact⟨[],0,e,by simp,rfl⟩
theorem Image_w (vs:List Tx)(ar:List (Tx×Int))(fs:List Fu)(hs:vs.length+ar.length+fuSize fs<=20000): ∃rs,(Lm X47).dat 24 [.agg [.sl false 1 (txRows vs),.sl false 2 (arRows ar),.sl false 5 (fs.map Fu.row)]]=some rs/\ ∃(ws:List Int) (dt e:Int),ws.length<=16384/\rs=[.agg [.vec 1 (ur ws),iv dt],iv e]:=by
 refine fnR (P:=Tryz.prog) (E:=E47) (X:=X47) (R:=fun rs=> ∃(ws:List Int) (dt e:Int),ws.length<=16384/\rs=[.agg [.vec 1 (ur ws),iv dt],iv e]) Tryz.func24 (An _ _) rfl Dqa rfl rtys_24 rvs_24 ?_
 by_cases h0:soundS nbT ⟨vs,ar,fs⟩=0
 ·have hc:=Cga vs ar fs hs h0
  by_cases hw:32768<coWords ⟨vs,ar,fs⟩
  ·rw[if_pos hw] at hc
   obtain⟨_,he,ws,dt,e,hl,rfl⟩:=Qs 2 (by decide)
   have hul:(ur ws).length=ws.length:=by simp
   have hut:(ur ws).take ws.length=ur ws:=by rw[List.take_of_length_le (by simp)]
   clear h0 hw
   repeat' (first|refine ZN ?_|refine Z2 ?_ ?_|(intro h h';try simp[*,-h] at h'))
   exact⟨ws,dt,e,hl,rfl⟩
  ·rw[if_neg hw] at hc
   obtain⟨_,he,ws,dt,e,hl,rfl⟩:=Eda h0 (by unfold Pr.size;exact hs) (by omega)
   have hul:(ur ws).length=ws.length:=by simp
   have hut:(ur ws).take ws.length=ur ws:=by rw[List.take_of_length_le (by simp)]
   have hcl:((coreS ⟨vs,ar,fs⟩).funcs.map Cf.row).take (coreS ⟨vs,ar,fs⟩).funcs.length=(coreS ⟨vs,ar,fs⟩).funcs.map Cf.row:=by rw[List.take_of_length_le (by simp)]
   obtain⟨n,hn⟩: ∃n,(coreS ⟨vs,ar,fs⟩).funcs.length=n:=⟨_,rfl⟩
   have hcn:((coreS ⟨vs,ar,fs⟩).funcs.map Cf.row).length=n:=by simp[hn]
   rw[hn] at hcl
   generalize (coreS ⟨vs,ar,fs⟩).funcs.map Cf.row=cfs at*
   generalize coWords ⟨vs,ar,fs⟩=w0 at*
   clear h0 hw hn
   repeat' (first|refine ZN ?_|refine Z2 ?_ ?_|(intro h h';try simp[*,-h] at h'))
   exact⟨ws,dt,e,hl,rfl⟩
 ·have hc:=Jja vs ar fs hs h0
  generalize soundS nbT ⟨vs,ar,fs⟩=e0 at*
  obtain⟨_,he,ws,dt,e,hl,rfl⟩:=Qs e0 h0
  have hul:(ur ws).length=ws.length:=by simp
  have hut:(ur ws).take ws.length=ur ws:=by rw[List.take_of_length_le (by simp)]
  repeat' (first|refine ZN ?_|refine Z2 ?_ ?_|(intro h h';try simp[*,-h] at h'))
  exact⟨ws,dt,e,hl,rfl⟩
end Go.Proofs.YtpmoibjpjlhcgaaGreatDoor
namespace Go.Proofs.YtpmoibjpjlhcgaaGreatDoor
open Go Go.Ab Go.Ab.Sy
theorem Eea (vs:List Tx)(ar:List (Tx×Int))(fs:List Fu)(hs:vs.length+ar.length+fuSize fs<=20000): ∃rs,(Lm X47).dat 23 [.agg [.sl false 1 (txRows vs),.sl false 2 (arRows ar),.sl false 5 (fs.map Fu.row)],iv 0,.fn 24 []]=some rs/\ ∃(ws:List Int) (dt e:Int),ws.length<=16384/\rs=[.agg [.vec 1 (ur ws),iv dt],iv e]:=by
 refine fnR (P:=Tryz.prog) (E:=E47) (X:=X47) (R:=fun rs=> ∃(ws:List Int) (dt e:Int),ws.length<=16384/\rs=[.agg [.vec 1 (ur ws),iv dt],iv e]) Tryz.func23 (An _ _) rfl O8 rfl Zd rvs_23 ?_
 obtain⟨_,he,ws,dt,e,hl,rfl⟩:=Image_w vs ar fs hs
 have hul:(ur ws).length=ws.length:=by simp
 have hut:(ur ws).take ws.length=ur ws:=by rw[List.take_of_length_le (by simp)]
 repeat' (first|refine ZN ?_|refine Z2 ?_ ?_|(intro h h';try simp[*,-h] at h'))
 exact⟨ws,dt,e,hl,rfl⟩
theorem Efa (e:Int)(he:e≠0): ∃rs,(Lm X47).dat 23 [.agg [.sl false 1 [],.sl false 2 [],.sl false 5 []],iv e,.fn 24 []]=some rs/\ ∃(ws:List Int) (dt e:Int),ws.length<=16384/\rs=[.agg [.vec 1 (ur ws),iv dt],iv e]:=by
 refine fnR (P:=Tryz.prog) (E:=E47) (X:=X47) (R:=fun rs=> ∃(ws:List Int) (dt e:Int),ws.length<=16384/\rs=[.agg [.vec 1 (ur ws),iv dt],iv e]) Tryz.func23 (An _ _) rfl O8 rfl Zd rvs_23 ?_
 repeat' (first|refine ZN ?_|refine Z2 ?_ ?_|(intro h h';try simp[*,-h] at h'))
 exact⟨[],0,e,by simp,rfl⟩
theorem Qt (ws:List Int)(dt e:Int)(hl:ws.length<=16384): ∃rs,(Lm X47).dat 25 [.agg [.sl false 1 (ur ws),iv dt],iv e,.fn 26 []]=some rs/\ ∃(s:ByteArray) (e:Int),s.size<=70000/\(e≠0->s=⟨#[]⟩)/\rs=[tv s,iv e]:=by
 refine fnR (P:=Tryz.prog) (E:=E47) (X:=X47) (R:=fun rs=> ∃(s:ByteArray) (e:Int),s.size<=70000/\(e≠0->s=⟨#[]⟩)/\rs=[tv s,iv e]) Tryz.func25 (An _ _) rfl Dpa rfl rtys_25 rvs_25 ?_
 by_cases h0:e=0
 ·subst h0
  obtain⟨_,hp,s,e,hs,hse,rfl⟩:=Put_w ws dt hl
  repeat' (first|refine ZN ?_|refine Z2 ?_ ?_|(intro h h';try simp[*,-h] at h'))
  exact⟨s,e,hs,hse,rfl⟩
 ·repeat' (first|refine ZN ?_|refine Z2 ?_ ?_|(intro h h';try simp[*,-h] at h'))
  exact⟨⟨#[]⟩,e,by decide,fun _=>rfl,rfl⟩
theorem Dza (src:ByteArray)(hs:src.size<9223372036854775807): ∃rs,(Lm X47).dat 9 [tv src]=some rs/\ ∃(s:ByteArray) (a e:Int),s.size<=70000/\(e≠0->s=⟨#[]⟩)/\rs=[tv s,iv a,iv e]:=by
 refine fnR (P:=Tryz.prog) (E:=E47) (X:=X47) (R:=fun rs=> ∃(s:ByteArray) (a e:Int),s.size<=70000/\(e≠0->s=⟨#[]⟩)/\rs=[tv s,iv a,iv e]) Tryz.func9 (An _ _) rfl Jsa rfl rtys_9 rvs_9 ?_
 obtain⟨_,hP,a,e,⟨he0,rfl⟩|⟨rfl,⟨vs,ar,fs⟩,hsz,_,rfl⟩⟩:=Prog_w src hs
 ·obtain⟨_,h1,ws,dt,e1,hl,rfl⟩:=Efa e he0
  obtain⟨_,h2,s,e2,hss,hse,rfl⟩:=Qt ws dt e1 hl
  have hul:(ur ws).length=ws.length:=by simp
  have hut:(ur ws).take ws.length=ur ws:=by rw[List.take_of_length_le (by simp)]
  repeat' (first|refine ZN ?_|refine Z2 ?_ ?_|(intro h h';try simp[*,-h] at h'))
  exact⟨s,a,e2,hss,hse,rfl⟩
 ·unfold Pr.size at hsz
  simp only at hsz
  obtain⟨_,h1,ws,dt,e1,hl,rfl⟩:=Eea vs ar fs hsz
  obtain⟨_,h2,s,e2,hss,hse,rfl⟩:=Qt ws dt e1 hl
  have v1:(txRows vs).length=vs.length:=by simp[txRows]
  have v2:(arRows ar).length=ar.length:=by simp[arRows]
  have v3:(fs.map Fu.row).length=fs.length:=by simp
  have v4:(txRows vs).take vs.length=txRows vs:=by rw[List.take_of_length_le (by simp[txRows])]
  have v5:(arRows ar).take ar.length=arRows ar:=by rw[List.take_of_length_le (by simp[arRows])]
  have v6:(fs.map Fu.row).take fs.length=fs.map Fu.row:=by rw[List.take_of_length_le (by simp)]
  have hul:(ur ws).length=ws.length:=by simp
  have hut:(ur ws).take ws.length=ur ws:=by rw[List.take_of_length_le (by simp)]
  repeat' (first|refine ZN ?_|refine Z2 ?_ ?_|(intro h h';try simp[*,-h] at h'))
  exact⟨s,a,e2,hss,hse,rfl⟩
theorem stack_s (src s:ByteArray)(a e:Int)(hc:(Lm X47).dat 9 [tv src]=some [tv s,iv a,iv e]):(Lm X47).dat 19 [tv src]=some (if e=0 then[tv s,iv 0] else[tv ⟨#[]⟩,iv e]):=by
 refine fnW (P:=Tryz.prog) (E:=E47) (X:=X47) Tryz.func19 (An _ _) rfl Dsa rfl rtys_19 rvs_19 ?_
 by_cases he:e=0
 ·subst he
  rw[if_pos rfl]
  all_goals exact ZS
 ·rw[if_neg he]
  all_goals exact ZS
theorem stack_w (src:ByteArray)(hs:src.size<9223372036854775807): ∃(s:ByteArray) (a e:Int),(Lm X47).dat 9 [tv src]=some [tv s,iv a,iv e]/\(Lm X47).dat 19 [tv src]=some [tv s,iv e]/\s.size<=70000:=by
 obtain⟨_,hc,s,a,e,hss,hse,rfl⟩:=Dza src hs
 have h:=stack_s src s a e hc
 refine⟨s,a,e,hc,?_,hss⟩
 by_cases he:e=0
 ·rw[he] at h⊢
  simpa using h
 ·rw[if_neg he] at h
  rw[hse he]
  exact h
end Go.Proofs.YtpmoibjpjlhcgaaGreatDoor
