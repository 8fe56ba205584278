/- A part of the proof: Mi, Mj, Mk, Ml, Mn, Wx, Wf, Wg, Wh, Wi, Wj, Wk, Xh. -/
import Derived.Test.YtggghdmdjpianaaGreatDoorC10
import Derived.Test.YtggghdmdjpianaaGreatDoorC13
import Derived.Test.YtggghdmdjpianaaGreatDoorC14
import Derived.Test.YtggghdmdjpianaaGreatDoorC05
import Derived.Test.YtggghdmdjpianaaGreatDoorC11
set_option linter.unusedSimpArgs false
set_option linter.unusedVariables false
set_option maxRecDepth 200000
set_option maxHeartbeats 8000000
namespace Go.Proofs.YtggghdmdjpianaaGreatDoor
section
open Go Go.Ab Go.Ab.Sy
variable {L:List (Nat×Nat)}{g0 n:Nat}
structure RN (c:MK)(tk:Nat)(st:AS):Prop where
 f6:st.fr 6= .ptr ⟨0,6,0⟩ 1 0
 b6:st.hp ⟨0,6,0⟩= .box 1 [iv 0,tv ⟨⟨[]⟩⟩,iv 0] false
 f7:st.fr 7= .ptr ⟨0,7,0⟩ 1 0
 b7:st.hp ⟨0,7,0⟩= .box 1 [.ptr ⟨0,21,0⟩ 1 0] false
 ms:MS c tk st.hp
structure RC9 (p:Sy.Pr)(inp:ByteArray)(c:MK):Prop where
 FR:c.FR=p.funcs.map (yB p)
 nv:c.nv=p.vars.length
 al:c.al.length=p.arrays.length
 sz: ∀x∈c.al,x.2<=4096
 inp:c.inp=inp
 fu:c.fu=50
theorem J4 : ∀(l m:List (Nat×Nat)) (k:Nat),dC k (l++m)=dC k l++dC (k+l.length) m
 |[],m,k=>by simp[dC]
 |(a,b)::l,m,k=>by simp[dC,J4 l m,tJ,OF 1]
theorem Lr (g n:Nat):Cv g n (.arr g 1 73 (List.replicate n [uv 0]) false):=⟨List.replicate n 0,Zi,Zi,fun u hu=>by rw[List.eq_of_mem_replicate hu];exact lN⟩
theorem Coa{j:Nat}{hp If:Hp}(hL:L.length=j)(h: ∀k g n,L[k]?=some (g,n)->hp ⟨0,38,k+1⟩= .arr g 1 73 (List.replicate n [uv 0]) false)(h2: ∀k,k≠j->If ⟨0,38,k+1⟩=hp ⟨0,38,k+1⟩)(h3:If ⟨0,38,j+1⟩= .arr g0 1 73 (List.replicate n [uv 0]) false):
  ∀k g' n',(L++[(g0,n)])[k]?=some (g',n')->If ⟨0,38,k+1⟩= .arr g' 1 73 (List.replicate n' [uv 0]) false:=by
 intro k g' n' hk;by_cases hkj:k=j
 ·subst hkj
  rw[Ab9 Zo,hL,Adz] at hk;simp only[Rt,Bc,Br] at hk;obtain⟨rfl,rfl⟩:=hk;exact h3
 ·have hl:k<L.length:=by
   have:=(Oh.1 hk).1;simp only[X3,wP,Adb] at this;omega
  rw[Acu hl] at hk;rw[h2 k hkj];exact h k g' n' hk
theorem Ws(h: ∀x∈L,x.2<=4096)(hn:(n:Int)<=4096): ∀x∈L++[(g0,n)],x.2<=4096:=fun x hx=>by
 rcases nA.1 hx with hx|hx
 ·exact h x hx
 ·rw[FH.1 hx];simp only;omega
theorem Gba {c0 c1 c2 c3 d8 d9 d10:Code}(hb:Tryz.f99.body=some (.seq c0 (.seq c1 (.seq c2 (.seq c3 (.seq d8 (.seq d9 (.seq d10 .ret)))))))){vs:List Tx}{ar:List (Tx×Int)}{fs:List Sy.Fu}{inp:ByteArray}(hs:vs.length+ar.length+cV fs<=1048576)(hn:((jW ⟨vs,ar,fs⟩).map (·.1)).Nodup)(MD: ∀f∈fs,((sO f).map (·.1)).Nodup)(hA: ∀a∈ar,1<=a.2/\a.2<=4096):
  lM P0 EM 0 LM (fun _ _=>False) (fun s=> ∃c,RC9 ⟨vs,ar,fs⟩ inp c/\RN c 0 s) [c0,c1,c2] ⟨Uh [.agg [.sl false 1 (Ib vs),.sl false 2 (Ih ar),.sl false 5 (fs.map Sy.Fu.row)],tv inp,iv 50],U9⟩:=by
 have hp:=Dpa vs ar fs hs hn MD
 cases hb
 simp only[lM];have x1:(vs.length:Int)*4<=140737488355328:=Zo;have x2:(vs.length:Int)<=9223372036854775807:=Zo;have qM:max (50:Int) 0=50:=Zd;have uW:(Ih ar).length=ar.length:=by simp[Ih]
 repeat' first|refine ZN ?_|refine Z2 ?_ ?_|intro h h';try simp[*,-h] at h'
 generalize hF:(List.map (yB ⟨vs,ar,fs⟩) fs)=FR at*;have hFl:fs.length=FR.length:=by rw[<-hF];simp
 refine Ac (n:=ar.length) (fun s0 m z=> ∃(j gA:Nat) (L:List (Nat×Nat)) (AR:AV),ar.length - j<=m/\j<=ar.length/\L.length=j/\(∀x∈L,x.2<=4096)/\z.fr 6= .ptr ⟨0,6,0⟩ 1 0/\z.hp ⟨0,6,0⟩= .box 1 [iv 0,tv ⟨⟨[]⟩⟩,iv 0] false/\z.fr 7= .ptr ⟨0,7,0⟩ 1 0/\z.hp ⟨0,7,0⟩= .box 1 [.ptr ⟨0,21,0⟩ 1 0] false/\z.fr 23= .sl false 2 (Ih ar)/\z.fr 24=iv ar.length/\z.fr 25=iv j/\
  z.hp ⟨0,21,0⟩= .box 1 [.own ⟨0,21,1⟩ 1 FR.length,.own ⟨0,21,2⟩ 1 vs.length,AR,tv inp,iv 0,.own ⟨0,21,6⟩ 1 0,iv 0,iv 50] false/\z.hp ⟨0,21,1⟩= .arr 1 2 250 FR false/\z.hp ⟨0,21,2⟩= .arr 1 1 73 (List.replicate vs.length [uv 0]) false/\z.hp ⟨0,21,6⟩= .arr 1 1 5 [] false/\
  ((j=0/\AR= .own ⟨0,21,3⟩ 1 0/\z.hp ⟨0,21,3⟩= .arr 1 1 124 [] false)\/(0<j/\AR= .bsl ⟨0,38,0⟩ gA 1 0 j/\z.hp ⟨0,38,0⟩= .box gA (dC 0 L) false))/\ ∀k g n,L[k]?=some (g,n)->z.hp ⟨0,38,k+1⟩= .arr g 1 73 (List.replicate n [uv 0]) false)
  ⟨0,0,[],.own ⟨0,21,3⟩ 1 0,Zo,Zo,rfl,Zi,Zi,Zi,Zi,Zi,Zi,by simp[uW],Zi,Zm,Zm,Zi,Zi,.inl ⟨rfl,rfl,Zi⟩,Zi⟩ ?_
 have HF:=Lib.hid hF;clear hF;rintro m ⟨fr,hp⟩ ⟨j,gA,L,AR,hm,hj,hL,hL4,f6,b6,f7,b7,f23,f24,f25,b21,b211,b212,b216,hAR,hLh⟩;simp at f6 b6 f7 b7 f23 f24 f25 b21 b211 b212 b216 hAR;have HL:=Lib.hid hLh;have H4:=Lib.hid hL4;clear hLh hL4 qM x1 x2 hn MD;by_cases Ii:j<ar.length
 ·have e1:(j:Int)<ar.length:=Zo
  have FO:IntKind.i64.wrap ((j:Int)+1)=(j:Int)+1:=Iw Zo;obtain⟨⟨t1,t2⟩,hg⟩: ∃r,ar[j]?=some r:=⟨_,Bs Ii⟩;obtain⟨ht1,ht2⟩:=hA _ (sM hg);obtain⟨n,rfl⟩: ∃n:Nat,t2=n:=⟨t2.toNat,by simp only at ht1;omega⟩;simp only at ht1 ht2;have rV:(Ih ar)[j]?=some [tz t1.val,iz n]:=by simp[Ih,hg]
  have xH: ∀h:j<(Ih ar).length,(Ih ar)[j]'h=[tz t1.val,iz n]:=fun h=>nN ((Bs h).symm.trans rV)
  have x3:(n:Int)*4<=140737488355328:=Zo;have x4:(n:Int)<=9223372036854775807:=Zo;obtain⟨g9,hg9⟩: ∃g,(hp ⟨0,9,0⟩).gen=g:=⟨_,rfl⟩;have lY:(dC 0 L).length=j:=by rw[J3,hL]
  have mU:(dC 0 L).take j=dC 0 L:=Kb Zo;have kI:=Bq fs;have x5:(j+1)*24<=140737488355328:=Zo;have x6:j<=9223372036854775806:=Zo;obtain⟨cs,cB⟩: ∃cs,dC 0 L=cs:=⟨_,rfl⟩;rw[cB] at lY mU;have HCS:=Lib.hid cB;clear hg;rcases hAR with⟨rfl,rfl,b213⟩|⟨hj0,rfl,b38⟩
  ·clear mU
   clear cB
   repeat' first|refine ZN ?_|refine Z2 ?_ ?_|intro h h';try simp[*,-h] at h'
   all_goals exact⟨ar.length - (0+1),Zo,0+1,(hp ⟨0,38,0⟩).gen+1,L++[((hp ⟨0,38,0+1⟩).gen+1,n)],.bsl ⟨0,38,0⟩ ((hp ⟨0,38,0⟩).gen+1) 1 0 (0+1),Zo,Zo,by simp[hL],Ws H4.out ht2,Zm,Zm,Zm,Zm,Zm,Zm,Zm,Zi,Zm,Zm,Zm,.inr ⟨Zo,rfl,by rw[J4,HCS.out,List.length_eq_zero_iff.1 lY];simp[dC,hL]⟩,Coa hL HL.out (fun k hk=>by simp[hk]) Zi⟩
  ·rw[cB] at b38
   clear cB
   repeat' first|refine ZN ?_|refine Z2 ?_ ?_|intro h h';try simp[*,-h] at h'
   all_goals exact⟨ar.length - (j+1),Zo,j+1,gA+1+1,L++[((hp ⟨0,38,j+1⟩).gen+1,n)],.bsl ⟨0,38,0⟩ (gA+1+1) 1 0 (j+1),Zo,Zo,by simp[hL],Ws H4.out ht2,Zm,Zm,Zm,Zm,Zm,Zm,Zm,Zi,Zm,Zm,Zm,.inr ⟨Zo,rfl,by rw[J4,HCS.out];simp[dC,hL, *]⟩,Coa hL HL.out (fun k hk=>by simp[hk]) Zi⟩
 ·have e1: ¬(j:Int)<ar.length:=Zo
  repeat' first|refine ZN ?_|refine Z2 ?_ ?_|intro h h';try simp[*,-h] at h'
  have mM:j=ar.length:=Zo;refine⟨⟨FR,1,vs.length,AR,L,gA,inp,50⟩,⟨HF.out.symm,rfl,hL.trans mM,H4.out,rfl,rfl⟩,⟨Zm,Zm,Zm,Zm,⟨⟨0,1,0,by simp[bK, *],⟨Nat.zero_le _,Nat.zero_le _⟩,[],Zm,rfl⟩,by simp only;rw[b212];exact Lr _ _,fun Ir=>?_,Zm⟩⟩⟩;rcases hAR with⟨h0,_,_⟩|⟨_,hA1,hA2⟩
  ·exact absurd (List.length_eq_zero_iff.1 (hL.trans h0)) Ir
  ·exact⟨by rw[hA1,hL],hA2,fun k g n hk=>by have:=HL.out k g n hk;simp only at this⊢;rw[this];exact Lr _ _⟩
end
section
open Go Go.Ab Go.Ab.Sy
variable {st:AS}{c0 c3 c1 c2 d8 d9 d10:Code}{a:Int}{brows:List (List AV)}{c:MK}{tk w g63 j:Nat}
theorem Gr :dS P0 EM:=⟨fun t h=>by simp at h,fun _=>rfl⟩
theorem Ht :Av P0 LM:=Fl An Gr EI
theorem Bza :Tryz.f161.ntmps=23:=rfl
theorem Bla :Tryz.f161.results= #[]:=rfl
theorem Dla (p q:Addr)(w:World):
  CallsD P0 161 #[.pointer (some p),.pointer (some q)] .returning w fun e u' w'=>e= .returned (.tuple #[])/\u'= .returning/\w'=w:=by
 refine Adr Tryz.func161 rfl fun c₀ cs hu=>?_
 apply wpS_seq;apply Ad9;simp[wpOpsS,go_sem,recoverD,hu,Bza,Exit.thenS];refine Aeo (Aem ?_);refine nM (vA ?_);simp[wpOps,Oper.wp,Oper.upon,go_sem,Exit.then];left;refine wp_cond_true ?_ ?_
 ·simp[Act.eval,Array.replicate]
 refine vA ?_;simp[wpOps,Oper.wp,Oper.upon,go_sem,Exit.then];left
 cases c₀
 simp_all[bodyPostS,results,Bla]
def GF (a:Int):Nat->AV:=fun t=>if t=0 then .ptr ⟨0,7,0⟩ 1 0 else if t=1 then .ptr ⟨0,6,0⟩ 1 0 else if t=9 then bv true else if t=10 then .agg [iv a] else .any
@[simp] theorem frM_0 :GF a 0= .ptr ⟨0,7,0⟩ 1 0:=rfl
@[simp] theorem frM_1 :GF a 1= .ptr ⟨0,6,0⟩ 1 0:=rfl
@[simp] theorem frM_9 :GF a 9=bv true:=rfl
@[simp] theorem frM_10 :GF a 10= .agg [iv a]:=rfl
theorem Jw : ∀l:List Int,dF (l.map fun b=>[.sc (.int .u8 b)])=some (l.map fun b=>UInt8.ofNat b.toNat)
 |[]=>rfl
 |b::l=>by simp[dF,Jw l]
def ResB (a:Int)(hp:Hp):Prop:= ∃(o:ByteArray) (n:Nat),n<=50/\hp ⟨0,6,0⟩= .box 1 [iv a,tv o,iv n] false
theorem runC_w {cA c5 CC:Code}{x:Operand}{i:Nat}(hb:Tryz.f161.body=some (.seq c0 (.block i (.seq c3 (.cond x cA (.seq c5 CC)))))){hp:Hp}{x1 x2 x3:AV}(b6:hp ⟨0,6,0⟩= .box 1 [x1,x2,x3] false)(b7:hp ⟨0,7,0⟩= .box 1 [.ptr ⟨0,21,0⟩ 1 0] false)(nD:c.fu=50)(hR:MS c tk hp):W P0 EM 1 LM CC ⟨GF a,hp⟩ (fun e s=>e= .normal/\ResB a s.hp):=by
 obtain⟨⟨rd,go,no,cL,eB,O,hO,hOl⟩,hV,hA⟩:=hR;unfold bK at cL;subst hOl;clear hV hA;have hbr:=Jw O;have hRl:(O.map fun b=>[AV.sc (.int .u8 b)]).length=O.length:=Zi;have mU:(O.map fun b=>[AV.sc (.int .u8 b)]).take O.length=O.map fun b=>[AV.sc (.int .u8 b)]:=Kb Zi
 generalize (O.map fun b=>[AV.sc (.int .u8 b)])=rows at*;generalize (O.map fun b=>UInt8.ofNat b.toNat)=bs at*;generalize O.length=no at*;subst hRl
 cases hb
 repeat' first|refine ZN ?_|refine Z2 ?_ ?_|intro h h';try simp[*,-h] at h'
 all_goals exact⟨rfl,⟨⟨bs⟩⟩,tk,Zo,Zi⟩
theorem run_d8(hb:Tryz.f99.body=some (.seq c0 (.seq c1 (.seq c2 (.seq c3 (.seq d8 (.seq d9 (.seq d10 .ret))))))))(hF:1<=c.FR.length)(hx:c.FR.length<=1048576)(h:RN c tk st):W P0 EM 0 LM d8 st (fun e s2=>e= .normal/\s2.fr 10= .eptr ⟨0,21,1⟩ 1 (c.FR.length - 1) 0/\RN c tk s2):=by
 obtain⟨fr,hq⟩:=st;obtain⟨f6,b6,f7,b7,hR⟩:=h;simp only at f6 b6 f7 b7 hR;obtain⟨⟨rd,go,no,cL,eB,hO⟩,hV,hA,hFr⟩:=id hR;unfold bK at cL;clear hV hA hO;obtain⟨n,hn⟩: ∃n,c.FR.length=n+1:=⟨c.FR.length - 1,Zo⟩;have w1:IntKind.i64.wrap (((n+1:Nat):Int) - 1)=(n:Int):=by rw[show((n+1:Nat):Int) - 1=(n:Int) by omega];exact Bu Zo Zo
 have w3:IntKind.i64.wrap (n:Int)=(n:Int):=Bu Zo Zo;have w2:IntKind.i64.wrap ((n:Int)+1 - 1)=(n:Int):=by rw[show(n:Int)+1 - 1=(n:Int) by omega];exact Bu Zo Zo
 cases hb
 repeat' first|refine ZN ?_|refine Z2 ?_ ?_|intro h h';try simp[*,-h] at h'
 all_goals exact⟨rfl,by simp[hn],Zm,Zm,Zm,Zm,hR⟩
theorem IW(hb:Tryz.f99.body=some (.seq c0 (.seq c1 (.seq c2 (.seq c3 (.seq d8 (.seq d9 (.seq d10 .ret))))))))(nD:c.fu=50)(h:RN c tk st):W P0 EM 0 LM (.seq d10 .ret) st (fun e s2=>e= .ret/\s2.fr 6= .ptr ⟨0,6,0⟩ 1 0/\ResB 1 s2.hp):=by
 obtain⟨fr,hq⟩:=st;obtain⟨f6,b6,f7,b7,hR⟩:=h;simp only at f6 b6 f7 b7 hR;obtain⟨⟨rd,go,no,cL,eB,O,hO,hOl⟩,hV,hA,hFr⟩:=id hR;unfold bK at cL;subst hOl;clear hV hA;have hbr:=Jw O;have hRl:(O.map fun b=>[AV.sc (.int .u8 b)]).length=O.length:=Zi;have mU:(O.map fun b=>[AV.sc (.int .u8 b)]).take O.length=O.map fun b=>[AV.sc (.int .u8 b)]:=Kb Zi
 generalize (O.map fun b=>[AV.sc (.int .u8 b)])=rows at*;generalize (O.map fun b=>UInt8.ofNat b.toNat)=bs at*;generalize O.length=no at*;subst hRl
 cases hb
 repeat' first|refine ZN ?_|refine Z2 ?_ ?_|intro h h';try simp[*,-h] at h'
 all_goals exact⟨rfl,Zm,⟨⟨bs⟩⟩,tk,Zo,Zi⟩
theorem run_d9(hb:Tryz.f99.body=some (.seq c0 (.seq c1 (.seq c2 (.seq c3 (.seq d8 (.seq d9 (.seq d10 .ret))))))))(hw:w<=1048576)(hg:(st.hp ⟨0,63,0⟩).gen+1=g63)(lC:st.fr 10= .eptr ⟨0,21,1⟩ 1 j 0)(hj:c.FR[j]?=some [iz w,.sl false 6 brows])(h:RN c 0 st){tk2:Nat}{v:AV}{If:Hp}(hc:LM.hpc 0 64 162 [.ptr ⟨0,21,0⟩ 1 0,.sl false 6 brows,.own ⟨0,63,0⟩ g63 w] (Ur st.hp ⟨0,63,0⟩ (.arr g63 1 73 (List.replicate w [uv 0]) false))=some (v,If))(hR2:MS c tk2 If)(hf:gN 0 0 63 (Ur st.hp ⟨0,63,0⟩ (.arr g63 1 73 (List.replicate w [uv 0]) false)) If):W P0 EM 0 LM d9 st (fun e s2=>e= .normal/\RN c tk2 s2):=by
 obtain⟨fr,hq⟩:=st;obtain⟨f6,b6,f7,b7,hR⟩:=h;simp only at f6 b6 f7 b7 hR hg lC hc hf;obtain⟨⟨rd,go,no,cL,eB,hO⟩,hV,hA,hFr⟩:=id hR;unfold bK at cL;clear hV hA hO;have mM:=(Oh.1 hj).1;have yN: ∀h:j<c.FR.length,c.FR[j]'h=[iz w,.sl false 6 brows]:=fun h=>nN ((Bs h).symm.trans hj)
 have x1:(w:Int)*4<=140737488355328:=Zo;have x2:(w:Int)<=9223372036854775807:=Zo
 cases hb
 have y6:=(hf 0 6 0 (D5 _) Zi Zi).trans (by simp[b6]:_=It.box 1 [iv 0,tv ⟨⟨[]⟩⟩,iv 0] false);have y7:=(hf 0 7 0 (D5 _) Zi Zi).trans (by simp[b7]:_=It.box 1 [.ptr ⟨0,21,0⟩ 1 0] false);clear hf;refine Fi Zf ?_
 (repeat (first|((with_reducible apply gP);exact Zc)|((with_reducible apply gQ);exact Zc)))
 (with_reducible apply A7);refine Dx [(0,9),(1,9),(2,9),(3,9),(4,9)] ?_;(iterate 5 refine Zs ?_);(exact Zz)
 exact⟨rfl,Zm,y6,Zm,y7,hR2⟩
theorem IV(hb:Tryz.f99.body=some (.seq c0 (.seq c1 (.seq c2 (.seq c3 (.seq d8 (.seq d9 (.seq d10 .ret))))))))(hw:w<=1048576)(hg:(st.hp ⟨0,63,0⟩).gen+1=g63)(lC:st.fr 10= .eptr ⟨0,21,1⟩ 1 j 0)(hj:c.FR[j]?=some [iz w,.sl false 6 brows])(h:RN c 0 st){nn N:Nat}{v:Value}{hp':Hp}{K:Nat->Prop}{B:jZ}{a:Act}{wd:World}{Q:Exit->Act->World->Prop}(hN:N=75)(hc:gU P0 EM LM (.fn 0 162 [.ptr ⟨0,21,0⟩ 1 0,.sl false 6 brows,.own ⟨0,63,0⟩ g63 w] (Ur st.hp ⟨0,63,0⟩ (.arr g63 1 73 (List.replicate w [uv 0]) false))) nn v hp')(S:aX 0 N K B st a wd)
  (hQ: ∀fr a' w',fr 6=st.fr 6->fr 7=st.fr 7->aX 0 N K B ⟨fr,hp'⟩ a' w'->Q (.panic (iN v)) a' w'):d9.wp P0 Q a wd:=by
 subst hN;obtain⟨fr,hq⟩:=st;obtain⟨f6,b6,f7,b7,hR⟩:=h;simp only at f6 b6 f7 b7 hR hg lC hc;obtain⟨⟨rd,go,no,cL,eB,hO⟩,hV,hA,hFr⟩:=id hR;unfold bK at cL;clear hV hA hO;have mM:=(Oh.1 hj).1;have yN: ∀h:j<c.FR.length,c.FR[j]'h=[iz w,.sl false 6 brows]:=fun h=>nN ((Bs h).symm.trans hj)
 have x1:(w:Int)*4<=140737488355328:=Zo;have x2:(w:Int)<=9223372036854775807:=Zo
 cases hb
 have hcal:B7 P0 0 162 _ _ v hp':=Tg An Gr Ht nn _ v hp' hc;refine S9 (P:=P0) (E:=EM) (call:=LM) (c:=10) (c1:=9) (idx:=[0,1,2,3,4,5,6,7,8,9]) (hp1:=(Ur hq ⟨0,63,0⟩ (.arr g63 1 73 (List.replicate w [uv 0]) false))) (f:=162) (cs:=[]) (v:=v) (hp':=hp') An Gr Ht Zf Zf Zf (by(simp only[T9,nT,Nh,X4,Rt,T7,X1]);(repeat' (first|exact eS.nil|((with_reducible apply J8);exact Zc)|((with_reducible apply J7);decide;exact Zc;exact Zc)))) rfl ?_ G5a Zd ?_ Zf S ?_
 ·rfl
 ·simpa using hcal
 ·exact fun cur a' w' lW S'=>hQ cur a' w' (lW 6 Zi) (lW 7 Zi) S'
end
section
open Go Go.Ab Go.Ab.Sy
variable {s':AS}{act:Act}{o:ByteArray}{c0 c1 c2 c3 d8 d9 d10 cA c5 CC:Code}{hp1 hq:Hp}{a n:Int}{m1:Mp}{i:Nat}{fr:Nat->AV}{I I1:Nat->Prop}{x:Operand}{p q:Value}{w w1 w2:World}
theorem rs_run :Tryz.f99.results.toList=[.cell 6 141]:=rfl
theorem Bja {N:Nat}{D:List Deferred}(E01:aL I (fun b=>b<w.heap.size/\ ¬I b) (fun _=>none) U9 w I1 m1 hp1 w1)(S:aX 0 N (fun b=>b<w.heap.size/\ ¬I b) ⟨I1,m1,hp1,w1,D⟩ ⟨fr,hq⟩ act w2)(f6:fr 6= .ptr ⟨0,6,0⟩ 1 0)(b6:hq ⟨0,6,0⟩= .box 1 [iv a,tv o,iv n] false):
  ∃v,(results Tryz.f99 act.tmps).run P0 w2= .ok v w2/\aW P0 I w (Iv P0 99) [.agg [iv a,tv o,iv n]] v w2:=by
 obtain⟨I2,m2,G1,E1,mY,_,nX⟩:=S;have hr: ∃U7,(aN P0 fr [141] [.cell 6 141]).run hq=some ([.agg [iv a,tv o,iv n]],U7):=by
  refine⟨hq,?_⟩
  (conv=>lhs;simp -implicitDefEqProofs [f6,b6,aN,kR])<;>exact rfl
 obtain⟨U7,hr⟩:=hr;obtain⟨I3,bs,us',Uk,G2,E2,d2,nb,i2,l2,m3,n2⟩:=Et G1 mY hr;have hrt:Iv P0 99=[141]:=Zf;refine⟨gF us',Bl Tryz.f99 _ us' (by rw[rs_run];exact Uk),?_⟩;have E12:=(E01.trans E1).trans E2;exact {
  old:=fun b hb=>E12.keep b (by
   by_cases hi:I b
   ·exact .inl hi
   ·exact .inr ⟨hb,hi⟩)
  size:=E12.size
  os:=E12.os
  tape:=E12.tape
  output:=E12.output
  res:=⟨I3,us',bs,rfl,E12.isub,fun b hb=>by
    by_cases hi:I b
    ·exact .inl hi
    ·exact .inr (GN fun Ii=>G2.ik b hb ⟨Ii,hi⟩),G2.ilt,fun b hb=>by
    refine⟨GN fun Ii=>?_,(nb b hb).1⟩;by_cases hi:I b
    ·exact(nb b hb).1 (E12.isub b hi)
    ·exact(nb b hb).2 ⟨Ii,hi⟩,n2,by rw[hrt];exact d2⟩}
theorem run_c3(hb:Tryz.f99.body=some (.seq c0 (.seq c1 (.seq c2 (.seq c3 (.seq d8 (.seq d9 (.seq d10 .ret)))))))){a:Act}{Q:Exit->Act->World->Prop}(hs:a.tmps.size=75)
  (hQ:Q .normal {(a.put (some 42) (.func (.func 161) #[] #[a.eval (.tmp 7),a.eval (.tmp 6)])) with defers:={target:= .fn (.func 161) #[a.eval (.tmp 7),a.eval (.tmp 6)],args:= #[]}::a.defers} w):c3.wp P0 Q a w:=by
 cases hb
 refine vA ?_;have hmf: ∀(fn:Fn) (first cap:Array Value) (w:World),(Instr.makeFunc fn first cap).run P0 w= .ok (.func fn first cap) w:=fun _ _ _ _=>rfl
 simp[wpOps,Oper.wp,Oper.upon,go_sem,hmf,Region.wanted,hs];exact .inl (.inl (by simpa[Act.put,Act.eval,hs] using hQ))
theorem Fp(hb:Tryz.f99.body=some (.seq c0 (.seq c1 (.seq c2 (.seq c3 (.seq d8 (.seq d9 (.seq d10 .ret)))))))):(∀c∈[c0,c1,c2],Im 75 c=true)/\Im 75 d8=true/\Im 75 d9=true/\Im 75 (.seq d10 .ret)=true:=by
 have h:Im 75 (.seq c0 (.seq c1 (.seq c2 (.seq c3 (.seq d8 (.seq d9 (.seq d10 .ret)))))))=true:=by
  have h0:(match Tryz.f99.body with|some c=>Im 75 c|none=>false)=true:=Zf;rw[hb] at h0;exact h0
 simp only[Im,Ed] at h;obtain⟨a0,a1,a2,a3,a8,a9,a10⟩:=h;refine⟨?_,a8,a9,?_⟩
 ·intro c hc
  simp only[sV,Ac4,or_false] at hc;rcases hc with rfl|rfl|rfl<;>assumption
 ·simp only[Im,a10.1,Ade,Zt]
def BP (p q:Value):Deferred:={target:= .fn (.func 161) #[p,q],args:= #[]}
theorem V9 (p q:Value)(w:World):(invoke (.fn (.func 161) #[p,q]) #[]).run P0 w= .ok (.enter 161 #[p,q]) w:=by
 simp[go_sem]
theorem Gda{p q:Addr}(E01:aL I (fun b=>b<w.heap.size/\ ¬I b) (fun _=>none) U9 w I1 m1 hp1 w1)(S:aX 0 75 (fun b=>b<w.heap.size/\ ¬I b) ⟨I1,m1,hp1,w1,[BP (.pointer (some p)) (.pointer (some q))]⟩ ⟨fr,hq⟩ act w2)(f6:fr 6= .ptr ⟨0,6,0⟩ 1 0)(b6:hq ⟨0,6,0⟩= .box 1 [iv a,tv o,iv n] false):
  Leaves P0 Tryz.f99 act.tmps (fun e2 w2=> ∃u,e2=Ending.returned u/\aW P0 I w (Iv P0 99) [.agg [iv a,tv o,iv n]] u w2) act.defers .returning w2:=by
 obtain⟨v,hv,hS⟩:=Bja E01 S f6 b6;obtain⟨_,_,_,_,_,_,hd⟩:=S;rw[hd];refine Ad2 (f:=161) (args:= #[.pointer (some p),.pointer (some q)]) Zi (V9 _ _ _) ?_;refine(Dla p q w2).mono ?_;rintro e1 u' w1 ⟨rfl,rfl,rfl⟩;exact⟨v,hv,v,rfl,hS⟩
def CM9 (I K:Nat->Prop)(m:Mp)(hp:Hp)(w:World)(a:Int)(If:Hp)(e:Ending)(u':FrameMode)(w':World):Prop:=e= .returned (.tuple #[])/\u'= .panicking [{v:=pL a,recovered:=true}]/\
 ∃I' m',Uj I' K m' If w'/\aL I K m hp w I' m' If w'
theorem Y4(hb:Tryz.f161.body=some (.seq c0 (.block i (.seq c3 (.cond x cA (.seq c5 CC)))))){K:Nat->Prop}{m:Mp}{hp:Hp}(hW:W P0 EM 1 LM CC ⟨GF a,hp⟩ (fun e s=>e= .normal/\s=s'))(G:Uj I K m hp w)(h7:Ie 0 I m hp w (.ptr ⟨0,7,0⟩ 1 0) p)(h6:Ie 0 I m hp w (.ptr ⟨0,6,0⟩ 1 0) q):
  CallsD P0 161 #[p,q] (.panicking (iN (pL a))) w (CM9 I K m hp w a s'.hp):=by
 have yG:Im 23 CC=true:=by
  have h0:(match Tryz.f161.body with|some c=>Im 23 c|none=>false)=true:=Zf;rw[hb] at h0;simp only[Im,Ed] at h0;exact h0.2.2.2.2
 have zS:=hb
 cases hb
 refine Adr Tryz.func161 rfl fun c₀ cs hu=>?_
 apply wpS_seq;apply Ad9;simp[wpOpsS,go_sem,recoverD,hu,iN,Bza,Exit.thenS];refine Aeo (Aem ?_);refine nM (vA ?_);simp[wpOps,Oper.wp,Oper.upon,go_sem,Exit.then,pL];left;refine Aek ?_ ?_
 ·simp[Act.eval,Array.replicate]
 refine nM (vA ?_);simp[wpOps,Oper.wp,Oper.upon,go_sem,Exit.then,Instr.typeAssert];left;left;left;refine W.wp (N:=23) (k:=1) (K:=K) (B:=⟨I,m,hp,w,[]⟩) (E:=EM) (call:=LM) (st:=⟨GF a,hp⟩) An Gr Ht hW yG ?_ ?_ ?_
 ·refine⟨I,m,G,.refl _ _ _ _ _,fun t=>?_,Zi,rfl⟩
  show Ie 1 I m hp w (GF a t) _;by_cases e0:t=0
  ·subst e0;simpa[Act.eval] using Ie.depth (uY 0) _ _ h7
  by_cases e1:t=1
  ·subst e1;simpa[Act.eval] using Ie.depth (uY 0) _ _ h6
  by_cases e2:t=9
  ·subst e2;simp[Act.eval,Ie]
  by_cases e3:t=10
  ·subst e3;simp[Act.eval,Ie,bM]
  simp[GF,e0,e1,e2,e3,Ie]
 ·rintro e s a' w' ⟨rfl,rfl⟩ ⟨I1,m1,G1,E1,_,_,hd⟩
  refine⟨hd,_,rfl,?_⟩;refine⟨.tuple #[],by simp[results,Bla],?_⟩;exact⟨rfl,rfl,I1,m1,G1,E1⟩
 ·rintro v hp' a' w' ⟨h,_⟩
  exact nomatch h
theorem Gea(hb:Tryz.f161.body=some (.seq c0 (.block i (.seq c3 (.cond x cA (.seq c5 CC))))))(hW:W P0 EM 1 LM CC ⟨GF a,hq⟩ (fun e s=>e= .normal/\s=s'))(vK:s'.hp ⟨0,6,0⟩= .box 1 [iv a,tv o,iv n] false)(E01:aL I (fun b=>b<w.heap.size/\ ¬I b) (fun _=>none) U9 w I1 m1 hp1 w1)(S:aX 0 75 (fun b=>b<w.heap.size/\ ¬I b) ⟨I1,m1,hp1,w1,[BP p q]⟩ ⟨fr,hq⟩ act w2)(f6:fr 6= .ptr ⟨0,6,0⟩ 1 0)
  (AI: ∀I2 m2,Uj I2 (fun b=>b<w.heap.size/\ ¬I b) m2 hq w2->aL I1 (fun b=>b<w.heap.size/\ ¬I b) m1 hp1 w1 I2 m2 hq w2->Ie 0 I2 m2 hq w2 (.ptr ⟨0,7,0⟩ 1 0) p/\Ie 0 I2 m2 hq w2 (.ptr ⟨0,6,0⟩ 1 0) q):
  Leaves P0 Tryz.f99 act.tmps (fun e2 w2=> ∃u,e2=Ending.returned u/\aW P0 I w (Iv P0 99) [.agg [iv a,tv o,iv n]] u w2) act.defers (.panicking (iN (pL a))) w2:=by
 obtain⟨I2,m2,G1,E1,hf,hs,hd⟩:=S;rw[hd];refine Ad2 (f:=161) (args:= #[p,q]) Zi (V9 _ _ _) ?_;refine(Y4 hb hW G1 (AI I2 m2 G1 E1).1 (AI I2 m2 G1 E1).2).mono ?_;rintro e1 u' w3 ⟨rfl,rfl,I',m',G',E'⟩;obtain⟨v,hv,hS⟩:=Bja (N:=75) (fr:=fr) (hq:=s'.hp) (act:=act) (D:=[BP p q]) (a:=a) (o:=o) (n:=n) E01 (S:=⟨I',m',G',E1.trans E',fun t=>Ie.mono E' _ _ _ (hf t),hs,hd⟩) f6 vK;exact⟨v,hv,v,rfl,hS⟩
end
section
open Go Go.Ab Go.Ab.Sy
theorem Gca {c0 c1 c2 c3 d8 d9 d10:Code}(hb:Tryz.f99.body=some (.seq c0 (.seq c1 (.seq c2 (.seq c3 (.seq d8 (.seq d9 (.seq d10 .ret)))))))){c:MK}{s1:AS}{brows:List (List AV)}{wn:Nat}(hFR:1<=c.FR.length)(hFR2:c.FR.length<=1048576)(yM:c.FR[c.FR.length - 1]?=some [iz wn,.sl false 6 brows])(hwn:wn<=1048576)(hDo:FD c 50 wn brows)(nD:c.fu=50)(h1:RN c 0 s1):
  ∃(a:Int) (o:ByteArray) (n:Nat),n<=50/\ ∀(I I1:Nat->Prop) (m1:Mp) (w w1:World) (act:Act) (p q:Addr),aL I (fun b=>b<w.heap.size/\ ¬I b) (fun _=>none) U9 w I1 m1 s1.hp w1->aX 0 75 (fun b=>b<w.heap.size/\ ¬I b) ⟨I1,m1,s1.hp,w1,[BP (.pointer (some p)) (.pointer (some q))]⟩ s1 act w1->Ie 0 I1 m1 s1.hp w1 (.ptr ⟨0,7,0⟩ 1 0) (.pointer (some p))->Ie 0 I1 m1 s1.hp w1 (.ptr ⟨0,6,0⟩ 1 0) (.pointer (some q))->
   (Code.seq d8 (.seq d9 (.seq d10 .ret))).wp P0 (bodyPostD P0 Tryz.f99 (fun e2 w2=> ∃u,e2=Ending.returned u/\aW P0 I w (Iv P0 99) [.agg [iv a,tv o,iv n]] u w2)) act w1:=by
 obtain⟨e8,s8,hW8,rfl,lC,hR8⟩:=W.pick (run_d8 hb hFR hFR2 h1);obtain⟨g63,hg63⟩: ∃g,(s8.hp ⟨0,63,0⟩).gen+1=g:=⟨_,rfl⟩;have hD:=hDo 0 64 (Ur s8.hp ⟨0,63,0⟩ (.arr g63 1 73 (List.replicate wn [uv 0]) false)) 0 g63 0 63 (hR8.ms.own Zo) Zo (by simpa using Lr g63 wn) (D5 _) Zo;rcases hD with⟨v,If,hc,u,b,tk2,rfl,_,_,hR2,_,hf⟩|⟨nn,v,If,hc,⟨a,rfl⟩,⟨tk2,hR2⟩,hf⟩
 ·obtain⟨e9,s9,hW9,rfl,hR9⟩:=W.pick (run_d9 hb hwn hg63 lC yM hR8 hc hR2 hf)
  obtain⟨e10,s10,xO,rfl,f6,o,n,zL,sZ⟩:=W.pick (IW hb nD hR9);refine⟨1,o,n,zL,fun I I1 m1 w w1 act p q E01 S hp7 hp6=>?_⟩;refine nM (W.wp An Gr Ht hW8 (Fp hb).2.1 S (fun e s2 a' w' hh S'=>?_) (fun v hp' a' w' h=>nomatch h.1));obtain⟨rfl,rfl⟩:=hh;refine nM (W.wp An Gr Ht hW9 (Fp hb).2.2.1 S' (fun e s2 a' w' hh S'=>?_) (fun v hp' a' w' h=>nomatch h.1));obtain⟨rfl,rfl⟩:=hh;refine W.wp An Gr Ht xO (Fp hb).2.2.2 S' (fun e s2 a' w' hh S'=>?_) (fun v hp' a' w' h=>nomatch h.1);obtain⟨rfl,rfl⟩:=hh;exact Gda E01 S' f6 sZ
 ·obtain⟨k0,k3,kA,k5,CC,kx,ki,qN⟩: ∃c0 c3 cA c5 CC x i,Tryz.f161.body=some (.seq c0 (.block i (.seq c3 (.cond x cA (.seq c5 CC))))):=⟨_,_,_,_,_,_,_,rfl⟩
  have y6:=(hf 0 6 0 (D5 _) Zo Zo).trans (by simp[hR8.b6]:_=It.box 1 [iv 0,tv ⟨⟨[]⟩⟩,iv 0] false);have y7:=(hf 0 7 0 (D5 _) Zo Zo).trans (by simp[hR8.b7]:_=It.box 1 [.ptr ⟨0,21,0⟩ 1 0] false);obtain⟨eC,sC,hWC,rfl,o,n,zL,sZ⟩:=W.pick (runC_w qN (a:=a) y6 y7 nD hR2);refine⟨a,o,n,zL,fun I I1 m1 w w1 act p q E01 S hp7 hp6=>?_⟩;refine nM (W.wp An Gr Ht hW8 (Fp hb).2.1 S (fun e s2 a' w' hh S'=>?_) (fun v hp' a' w' h=>nomatch h.1));obtain⟨rfl,rfl⟩:=hh;refine nM (IV hb hwn hg63 lC yM hR8 rfl hc S' fun fr a2 w2 e6 e7 S2=>?_);exact Gea qN hWC sZ E01 S2 (e6.trans hR8.f6) (fun I2 m2 _ E2=>⟨Ie.mono E2 _ _ _ hp7,Ie.mono E2 _ _ _ hp6⟩)
theorem NU {vs:List Tx}{ar:List (Tx×Int)}{fs:List Sy.Fu}{inp:ByteArray}(hs:vs.length+ar.length+cV fs<=1048576)(hn:((jW ⟨vs,ar,fs⟩).map (·.1)).Nodup)(MD: ∀f∈fs,((sO f).map (·.1)).Nodup)(hA: ∀a∈ar,1<=a.2/\a.2<=4096)(mY:1<=fs.length)(pQ:inp.size<=4611686018427387904)
  (hg: ∀f∈fs,qD (sD ⟨vs,ar,fs⟩ f) vs.length ar.length (bB f) (fs.map bB) f.body): ∃(a:Int) (o:ByteArray) (n:Nat),n<=50/\eN P0 99 [.agg [.sl false 1 (Ib vs),.sl false 2 (Ih ar),.sl false 5 (fs.map Sy.Fu.row)],tv inp,iv 50] [.agg [iv a,tv o,iv n]]:=by
 obtain⟨c0,c1,c2,c3,d8,d9,d10,hb⟩: ∃c0 c1 c2 c3 d8 d9 d10,Tryz.f99.body=some (.seq c0 (.seq c1 (.seq c2 (.seq c3 (.seq d8 (.seq d9 (.seq d10 .ret))))))):=⟨_,_,_,_,_,_,_,rfl⟩;obtain⟨e1,s1,vR,h1⟩:=lM.pick _ (Gba hb (inp:=inp) hs hn MD hA);rcases h1 with⟨rfl,c,hC,h1⟩|⟨_,h1⟩
 case inr=>exact h1.elim
 have AL:=Bq fs;have hFl:c.FR.length=fs.length:=by rw[hC.FR];simp
 obtain⟨f,hfl2⟩: ∃f,fs[fs.length - 1]?=some f:=⟨_,Bs Zo⟩;have hfm:=sM hfl2;have yM:c.FR[c.FR.length - 1]?=some [iz (bB f),.sl false 6 (fM (sD ⟨vs,ar,fs⟩ f) f.body)]:=by rw[hFl,hC.FR,qY,hfl2];rfl
 have uV: ∀f∈fs,Ix f.body<=1048576/\bB f<=1048576:=fun f hf=>by
  have:=Do hf;unfold Sy.Fu.size at this;unfold bB;omega
 have hDo:=MN (c:=c) (p:=⟨vs,ar,fs⟩) (by rw[hC.fu];decide) (by rw[hC.inp];exact pQ) hC.nv hC.al (fun x hx=>by have:=hC.sz x hx;omega) hC.FR hg uV 50 f hfm;obtain⟨a,o,n,zL,oL⟩:=Gca hb Zo Zo yM (uV f hfm).2 hDo hC.fu (s1:=⟨Uw s1.fr (some 42) .any,s1.hp⟩) ⟨by simpa using h1.f6,h1.b6,by simpa using h1.f7,h1.b7,h1.ms⟩;refine⟨a,o,n,zL,?_⟩;intro Uz I w us Ii oJ ha;have hl:us.length=3:=by rw[<-ha.1];rfl
 have hN:Tryz.f99.ntmps=75:=rfl;have S0:aX 0 75 (fun b=>b<w.heap.size/\ ¬I b) ⟨I,fun _=>none,U9,w,[]⟩ ⟨Uh [.agg [.sl false 1 (Ib vs),.sl false 2 (Ih ar),.sl false 5 (fs.map Sy.Fu.row)],tv inp,iv 50],U9⟩ {tmps:=(⟨us⟩:Array Value)++Array.replicate (Tryz.f99.ntmps - (⟨us⟩:Array Value).size) undef,defers:=[]} w:=by
  refine⟨I,fun _=>none,⟨fun x=>trivial,fun x y p q hl=>by simp[U9,It.live] at hl,Ii,fun b hb=>hb.1,fun b hb hk=>hk.2 hb,oJ⟩,.refl _ _ _ _ _,fun t=>Cl (ha.imp fun a u h=>Gz h) t,?_,rfl⟩;simp only[AX,AW,BA,hN];omega
 refine Ac8 Tryz.func99 hb ?_;refine lM.wp An Gr Ht (fun s2 a' w' hh S=>?_) (fun e s2 a' w' Ir hh S=>(Ir hh.1).elim) (fun v hp' a' w' h=>nomatch h.1) [c0,c1,c2] vR (Fp hb).1 S0;obtain⟨rfl,_⟩:=hh;obtain⟨I1,m1,G1,E1,uI,pN,nX⟩:=S;have R7:=uI 7;have R6:=uI 6;rw[h1.f7] at R7;rw[h1.f6] at R6;have R7':=R7;have R6':=R6;simp only[Ie] at R7' R6';obtain⟨b7,n7,_,e7⟩:=R7'.2.2 _ _ h1.b7;obtain⟨b6,n6,_,e6⟩:=R6'.2.2 _ _ h1.b6;refine nM (run_c3 hb pN ?_);have S':aX 0 75 (fun b=>b<w.heap.size/\ ¬I b) ⟨I1,m1,s2.hp,w',[BP (.pointer (some ⟨b7,0,none⟩)) (.pointer (some ⟨b6,0,none⟩))]⟩ ⟨Uw s2.fr (some 42) .any,s2.hp⟩ {(a'.put (some 42) (.func (.func 161) #[] #[a'.eval (.tmp 7),a'.eval (.tmp 6)])) with defers:={target:= .fn (.func 161) #[a'.eval (.tmp 7),a'.eval (.tmp 6)],args:= #[]}::a'.defers} w':=by
  refine⟨I1,m1,G1,.refl _ _ _ _ _,fun t=>?_,?_,?_⟩
  ·show Ie 0 I1 m1 s2.hp w' (Uw s2.fr (some 42) .any t) ((a'.put (some 42) _).eval (.tmp t))
   rw[G7 _ _ _ _ Zo];by_cases h:t=42
   ·subst h;simp[Ie]
   ·simp only[Jx h]
    have:Uw s2.fr (some 42) .any t=s2.fr t:=by simp[Uw,h]
    rw[this];exact uI t
  ·show(a'.put (some 42) _).tmps.size=75
   rw[Eu];exact pN
  ·show _::a'.defers=_
   rw[nX,e7,e6];rfl
 exact oL I I1 m1 w w' _ _ _ E1 S' (by rw[e7] at R7;simpa using R7) (by rw[e6] at R6;simpa using R6)
end
end Go.Proofs.YtggghdmdjpianaaGreatDoor
namespace Go.Ab.Sy
section
open Go Go.Ab
variable {s:ByteArray}{x:Ex}{k:Int}{n m:Nat}
theorem Bxa (s:ByteArray): ∀k i v w,v<=4294967295->iO s k i v=some w->w<=4294967295
 |0,i,v,w,hv,h=>by rw[iO] at h;cases h;exact hv
 |k+1,i,v,w,hv,h=>by
  rw[iO] at h
  split at h
  ·cases h
  ·exact Bxa s k _ _ w Zo h
theorem Fwa{i:Nat}{t:Int×ByteArray×Int}(h:iD s i= .ok t):uU t.2.2:=by
 unfold iD at h
 split at h
 ·split at h
  ·rename_i v hv
   cases h
   have:=Bxa s _ _ _ v Zd hv;show 0<=(v:Int)/\(v:Int)<4294967296;omega
  ·cases h
 split at h
 ·split at h
  ·cases h
   have:=(aM s (i+1)).toNat_lt;show 0<=((aM s (i+1)).toNat:Int)/\((aM s (i+1)).toNat:Int)<4294967296;omega
  ·cases h
 split at h
 ·split at h
  ·cases h
  ·cases h;exact(⟨Zd,Zd⟩:uU 0)
 split at h
 ·cases h;exact(⟨Zd,Zd⟩:uU 0)
 ·cases h
theorem Kp (s:ByteArray): ∀f i l l',dH s f i l= .ok l'->(∀t∈l,uU t.2.2.1)-> ∀t∈l',uU t.2.2.1
 |0,i,l,l',h,_=>by simp[dH] at h
 |f+1,i,l,l',h,hl=>by
  rw[dH] at h
  split at h
  ·cases h;exact hl
  split at h
  ·exact Kp s f _ l l' h hl
  split at h
  ·exact Kp s f _ l l' h hl
  split at h
  ·cases h
  ·rename_i t ht
   refine Kp s f _ _ l' h fun u hu=>?_
   rcases nA.1 hu with hu|hu
   ·exact hl u hu
   ·simp only[FH] at hu
    subst hu;exact Fwa ht
theorem Hya{T:List Tok}(h:gW s= .ok (T.map mQ)): ∀t∈T,uU t.num:=fun t ht=>by
 unfold gW at h
 split at h
 ·cases h
 ·exact Kp s _ _ _ _ h (fun t ht=>by simp at ht) (mQ t) (List.mem_map_of_mem ht)
theorem Fya {T:List Tok}{t:Tok}(h:bW T k n=some (t,m)):t∈T:=by
 unfold bW at h
 split at h
 ·rename_i t' ht
  split at h
  ·cases h
   exact sM ht
  ·cases h
 ·cases h
theorem Hv :uU 0:=⟨Zd,Zd⟩
theorem Ft :jI []:=by rw[jI];trivial
theorem Ci(h:yC x):jI [x]:=by rw[jI];exact⟨h,Ft⟩
theorem Wi {y:Ex}(h:yC x)(h2:yC y):jI [x,y]:=by rw[jI];exact⟨h,Ci h2⟩
theorem Wj : ∀{l m:List Ex},jI l->jI m->jI (l++m)
 |[],m,_,h=>h
 |x::l,m,h1,h2=>by rw[jI] at h1;rw[FG,jI];exact⟨h1.1,Wj h1.2 h2⟩
theorem Js {o n:Int}{s:Tx}{l:List Ex}(h:uU n)(hl:jI l):yC (.mk k o n s l):=by rw[yC];exact⟨h,hl⟩
theorem Bm :iE []:=by rw[iE];trivial
theorem Hba {x:St}(h:nuS x):iE [x]:=by rw[iE];exact⟨h,Bm⟩
theorem Wh : ∀{l m:List St},iE l->iE m->iE (l++m)
 |[],m,_,h=>h
 |x::l,m,h1,h2=>by rw[iE] at h1;rw[FG,iE];exact⟨h1.1,Wh h1.2 h2⟩
theorem Ge{s:Tx}{e:List Ex}{t f:List St}(he:jI e)(ht:iE t)(hf:iE f):nuS (.mk k s e t f):=by rw[nuS];exact⟨he,ht,hf⟩
section
variable {T:List Tok}(hT: ∀t∈T,uU t.num)
include hT
theorem Bya : ∀f,
  (∀n x m,fC T f n=some (x,m)->yC x)/\(∀l n x m,cS T f l n=some (x,m)->yC x)/\
  (∀l y n x m,yC y->bZ T f l y n=some (x,m)->yC x)/\(∀n x m,gM T f n=some (x,m)->jI x)/\
  (∀l n x m,jI l->fY T f l n=some (x,m)->jI x):=by
 intro f
 induction f with
 |zero=>exact⟨fun _ _ _ h=>by simp[fC] at h,fun _ _ _ _ h=>by simp[cS] at h,fun _ _ _ _ _ _ h=>by simp[bZ] at h,fun _ _ _ h=>by simp[gM] at h,fun _ _ _ _ _ h=>by simp[fY] at h⟩
 |succ f ih=>
  obtain⟨hA,hE,hL,hG,hM⟩:=ih;refine⟨fun n x m h=>?_,fun l n x m h=>?_,fun l y n x m hy h=>?_,fun n x m h=>?_,fun l n x m hl h=>?_⟩
  ·rw[fC] at h
   split at h
   ·obtain⟨p,h1,h2⟩:=Ma.1 h
    cases h2
    exact Js (hT _ (Fya (t:=p.1) (m:=p.2) h1)) Ft
   split at h
   ·obtain⟨p,h1,h2⟩:=Ma.1 h
    cases h2
    exact Js Hv Ft
   split at h
   ·obtain⟨p,h1,h2⟩:=Ja.1 h
    obtain⟨q,h3,h4⟩:=Ma.1 h2
    cases h4
    exact hE _ _ p.1 p.2 h1
   split at h
   ·obtain⟨p,h1,h2⟩:=Ma.1 h
    cases h2
    exact Js Hv (Ci (hA _ p.1 p.2 h1))
   ·obtain⟨p,h1,h2⟩:=Ja.1 h
    split at h2
    ·obtain⟨q,h3,h4⟩:=Ja.1 h2
     obtain⟨r,h5,h6⟩:=Ma.1 h4
     cases h6
     exact Js Hv (Ci (hE _ _ q.1 q.2 h3))
    split at h2
    ·obtain⟨q,h3,h4⟩:=Ma.1 h2
     cases h4
     exact Js Hv (hG _ q.1 q.2 h3)
    ·cases h2
     exact Js Hv Ft
  ·rw[cS] at h
   obtain⟨p,h1,h2⟩:=Ja.1 h;exact hL _ _ _ _ _ (hA _ p.1 p.2 h1) h2
  ·rw[bZ] at h
   split at h
   ·cases h;exact hy
   ·obtain⟨p,h1,h2⟩:=Ja.1 h
    exact hL _ _ _ _ _ (Js Hv (Wi hy (hE _ _ p.1 p.2 h1))) h2
  ·rw[gM] at h
   split at h
   ·cases h;exact Ft
   ·obtain⟨p,h1,h2⟩:=Ja.1 h
    exact hM _ _ _ _ (Ci (hE _ _ p.1 p.2 h1)) h2
  ·rw[fY] at h
   split at h
   ·obtain⟨p,h1,h2⟩:=Ja.1 h
    exact hM _ _ _ _ (Wj hl (Ci (hE _ _ p.1 p.2 h1))) h2
   ·obtain⟨q,h3,h4⟩:=Ma.1 h
    cases h4
    exact hl
theorem Hb {l:Nat}(h:Uu T l n=some (x,m)):yC x:=(Bya hT _).2.1 _ _ x m h
theorem Haa{x:List Ex}(h:eG T n=some (x,m)):jI x:=(Bya hT _).2.2.2.1 _ x m h
theorem Om(h:fF T n=some (x,m)):yC x:=by
 obtain⟨a,h1,h2⟩:=Ja.1 h;obtain⟨p,h3,h4⟩:=Ja.1 h2;obtain⟨q,h5,h6⟩:=Ma.1 h4
 cases h6
 exact Hb hT (x:=p.1) (m:=p.2) h3
theorem G9a{x:St}(h:jX T n=some (x,m)):nuS x:=by
 obtain⟨p,h1,h2⟩:=Ja.1 h;obtain⟨q,h3,h4⟩:=Ja.1 h2;obtain⟨r,h5,h6⟩:=Ma.1 h4
 cases h6
 split at h3
 ·obtain⟨y,h7,h8⟩:=Ma.1 h3
  cases h8
  exact Ge (Ci (Hb hT (x:=y.1) (m:=y.2) h7)) Bm Bm
 split at h3
 ·obtain⟨y,h7,h8⟩:=Ja.1 h3
  obtain⟨m1,h9,lC⟩:=Ja.1 h8;obtain⟨m2,yR,MF⟩:=Ja.1 lC;obtain⟨z,h13,h14⟩:=Ma.1 MF
  cases h14
  exact Ge (Wi (Hb hT (x:=y.1) (m:=y.2) h7) (Hb hT (x:=z.1) (m:=z.2) h13)) Bm Bm
 split at h3
 ·obtain⟨y,h7,h8⟩:=Ma.1 h3
  cases h8
  exact Ge (Haa hT (x:=y.1) (m:=y.2) h7) Bm Bm
 ·cases h3
theorem KF : ∀f,
  (∀n x m,iI T f n=some (x,m)->nuS x)/\(∀n x m,gL T f n=some (x,m)->iE x)/\(∀l n x m,iE l->eJ T f l n=some (x,m)->iE x):=by
 intro f
 induction f with
 |zero=>exact⟨fun _ _ _ h=>by simp[iI] at h,fun _ _ _ h=>by simp[gL] at h,fun _ _ _ _ _ h=>by simp[eJ] at h⟩
 |succ f ih=>
  obtain⟨hS,hB,hL⟩:=ih;refine⟨fun n x m h=>?_,fun n x m h=>?_,fun l n x m hl h=>?_⟩
  ·rw[iI] at h
   split at h
   ·obtain⟨p,h1,h2⟩:=Ja.1 h
    obtain⟨q,h3,h4⟩:=Ma.1 h2
    cases h4
    exact Ge (Ci (Om hT (x:=p.1) (m:=p.2) h1)) Bm Bm
   split at h
   ·split at h
    ·cases h
     exact Ge Ft Bm Bm
    ·obtain⟨p,h1,h2⟩:=Ja.1 h
     obtain⟨q,h3,h4⟩:=Ma.1 h2
     cases h4
     exact Ge (Ci (Hb hT (x:=p.1) (m:=p.2) h1)) Bm Bm
   split at h
   ·obtain⟨p,h1,h2⟩:=Ja.1 h
    obtain⟨q,h3,h4⟩:=Ja.1 h2;have a:=Om hT (x:=p.1) (m:=p.2) h1;have b:=hB _ q.1 q.2 h3
    split at h4
    ·obtain⟨r,h5,h6⟩:=Ma.1 h4
     cases h6
     exact Ge (Ci a) b (hB _ r.1 r.2 h5)
    ·cases h4
     exact Ge (Ci a) b Bm
   split at h
   ·obtain⟨p,h1,h2⟩:=Ja.1 h
    obtain⟨q,h3,h4⟩:=Ma.1 h2
    cases h4
    exact Ge (Ci (Om hT (x:=p.1) (m:=p.2) h1)) (hB _ q.1 q.2 h3) Bm
   ·exact G9a hT h
  ·rw[gL] at h
   obtain⟨p,h1,h2⟩:=Ja.1 h;exact hL _ _ _ _ Bm h2
  ·rw[eJ] at h
   split at h
   ·cases h;exact hl
   ·obtain⟨p,h1,h2⟩:=Ja.1 h
    exact hL _ _ _ _ (Wh hl (Hba (hS _ p.1 p.2 h1))) h2
theorem KH{x:Fu}(h:kK T n=some (x,m)):iE x.body:=by
 obtain⟨p,h1,h2⟩:=Ja.1 h;obtain⟨q,h3,h4⟩:=Ja.1 h2;obtain⟨r,h5,h6⟩:=Ja.1 h4;obtain⟨u,h7,h8⟩:=Ja.1 h6;obtain⟨v,h9,lC⟩:=Ja.1 h8;obtain⟨w,yR,MF⟩:=Ma.1 lC
 cases MF
 exact(KF hT _).2.2 _ _ w.1 w.2 Bm yR
theorem Wg : ∀f l n l',kJ T f l n=some l'->(∀g∈l,iE g.body)-> ∀g∈l',iE g.body
 |0,l,n,l',h,_=>by simp[kJ] at h
 |f+1,l,n,l',h,hl=>by
  rw[kJ] at h;obtain⟨m,h1,h2⟩:=Ja.1 h;obtain⟨p,h3,h4⟩:=Ja.1 h2;have hp:=KH hT (x:=p.1) (m:=p.2) h3;have tD: ∀g∈l++[p.1],iE g.body:=fun g hg=>by
   rcases nA.1 hg with hg|hg
   ·exact hl g hg
   ·rw[FH.1 hg];exact hp
  split at h4
  ·exact Wg f _ _ l' h4 tD
  ·cases h4;exact tD
theorem KG {p:Pr}(h:iY T=some p): ∀g∈p.funcs,iE g.body:=by
 obtain⟨q,h1,h2⟩:=Ja.1 h;obtain⟨l,h3,h4⟩:=Ma.1 h2
 cases h4
 exact Wg hT _ _ _ l h3 (fun g hg=>by simp at hg)
end
end
end Go.Ab.Sy
namespace Go.Proofs.YtggghdmdjpianaaGreatDoor
section
open Go Go.Ab Go.Ab.Sy
variable {s:ByteArray}
theorem Kr (s:ByteArray): ∀f i l e,i<=s.size->s.size+1<=f+i->dH s f i l= .error e->e=2\/e=3
 |0,i,l,e,hi,hf,h=>Zo
 |f+1,i,l,e,hi,hf,h=>by
  rw[dH] at h
  split at h
  ·cases h
  rename_i h0
  split at h
  ·exact Kr s f _ _ _ Zo Zo h
  split at h
  ·rename_i hn
   have h1:=Sd hn;exact Kr s f _ _ _ ((By s pX i).2 hi) (by show s.size+1<=f+U0 s pX i;omega) h
  split at h
  ·rename_i ht
   cases h
   exact Sr ht
  ·rename_i t ht
   have:=Dj Zo ht;exact Kr s f _ _ _ Zo Zo h
theorem O0{e:Int}(h:gW s= .error e):e=2\/e=3:=by
 unfold gW at h
 split at h
 ·cases h;exact .inl rfl
 ·exact Kr s _ _ _ _ (Nat.zero_le _) (D5 _) h
theorem Gla (T:List Tok):(T.map mQ).map vE=T.map Tok.row:=by
 rw[List.map_map];exact GJ fun t _=>rfl
def lA (s:ByteArray)(e:Int):Prop:=gW s= .error e\/(e=3/\ ∃T:List Tok,gW s= .ok (T.map mQ)/\iY T=none)
theorem lA.ne{e:Int}(h:lA s e):e≠0:=by
 rcases h with h|⟨rfl,_⟩
 ·rcases O0 h with rfl|rfl<;>decide
 ·decide
def Hu (s:ByteArray)(p:Sy.Pr):Prop:= ∃T:List Tok,gW s= .ok (T.map mQ)/\iY T=some p
end
section
open Go Go.Ab Go.Ab.Sy
structure RH (s:ByteArray)(T:List Tok)(gp g4 g5:Nat)(hp:Hp)(st:AS):Prop where
 f0:st.fr 0=tv s
 f1:st.fr 1= .fn 155 [.ptr ⟨0,5,0⟩ gp 0]
 f4:st.fr 4= .ptr ⟨1,4,0⟩ g4 0/\st.hp ⟨1,4,0⟩= .box g4 [iv 0] false
 f5:st.fr 5= .ptr ⟨1,5,0⟩ g5 0/\st.hp ⟨1,5,0⟩= .box g5 [iv 0] false
 f6: ∃g,st.fr 6= .own ⟨1,12,1000⟩ g T.length/\st.hp ⟨1,12,1000⟩= .arr g 4 75 (T.map Tok.row) false
 low: ∀i c,st.hp ⟨0,i,c⟩=hp ⟨0,i,c⟩
 lx:gW s= .ok (T.map mQ)
theorem Dna {c0 c1 c2 c3 c4:Code}(hb:Tryz.f154.body=some (.seq c0 (.seq c1 (.seq c2 (.seq c3 c4))))){s:ByteArray}(hs:s.size<9223372036854775807){gp:Nat}{hp:Hp}:
  ∃T:List Tok,T.length<=20000/\lM P0 Un 1 (Lm bX) (wB P0 0 0 [.cell 4 3,.cell 5 33] (fun v hp'=> ∃a e:Int,v= .tup [iv a,iv e]/\lA s e/\ ∀i c,hp' ⟨0,i,c⟩=hp ⟨0,i,c⟩) (fun _ _=>False)) (RH s T gp ((hp ⟨1,4,0⟩).gen+1) ((hp ⟨1,5,0⟩).gen+1) hp) [c0,c1,c2] ⟨Uh [tv s,.fn 155 [.ptr ⟨0,5,0⟩ gp 0]],hp⟩:=by
 obtain⟨_,hL,at',rfl⟩:=LexX (X:=bX) (fun _ _=>rfl) s hs
 cases hx:gW s with
 |error e=>
  rw[hx] at hL;simp only[Tq] at hL;refine⟨[],Zi,?_⟩;have h23:=O0 hx
  cases hb
  rcases h23 with rfl|rfl
  all_goals
  simp only[lM]
  repeat' first|refine ZN ?_|refine Z2 ?_ ?_|intro h h';try simp[*,-h] at h'
  all_goals exact⟨at',_,rfl,.inl hx,fun i c=>Zi⟩
 |ok l=>
 obtain⟨T,rfl⟩:=Rg hx;rw[hx] at hL;simp only[Tq,Gla] at hL;refine⟨T,Wy hx,?_⟩
 cases hb
 simp only[lM]
 repeat' first|refine ZN ?_|refine Z2 ?_ ?_|intro h h';try simp[*,-h] at h'
 all_goals exact⟨Zi,Zi,⟨Zi,Zi⟩,⟨Zi,Zi⟩,⟨_,by simp;rfl,Zi⟩,fun i c=>Zi,hx⟩
end
section
open Go Go.Ab Go.Ab.Sy
variable {st:AS}{c0 c1 c2 c3 d5 d6 d7 d8 d9:Code}{hp:Hp}{T:List Tok}{gp g4 g5 gx gy n:Nat}{x:Operand}{p:Sy.Pr}
structure RT (T:List Tok)(gp g4 g5 gx gy n:Nat)(e:Int)(hp:Hp)(st:AS):Prop where
 f1:st.fr 1= .fn 155 [.ptr ⟨0,5,0⟩ gp 0]
 f4:st.fr 4= .ptr ⟨1,4,0⟩ g4 0/\st.hp ⟨1,4,0⟩= .box g4 [iv 0] false
 f5:st.fr 5= .ptr ⟨1,5,0⟩ g5 0/\st.hp ⟨1,5,0⟩= .box g5 [iv 0] false
 f9:st.fr 9= .ptr ⟨1,25,0⟩ gx 0
 rd:Rd T e 25 gx gy n st.hp
 low: ∀i c,st.hp ⟨0,i,c⟩=hp ⟨0,i,c⟩
theorem JI(hb:Tryz.f154.body=some (.seq c0 (.seq c1 (.seq c2 (.seq c3 (.seq d5 (.seq d6 (.seq (.seq d7 (.cond x d8 .skip)) (.seq d9 .ret))))))))){s:ByteArray}(hT:T.length<=20000)(h:RH s T gp g4 g5 hp st):W P0 Un 1 (Lm bX) d5 st (fun e s2=>e= .normal/\ ∃gx gy,RT T gp g4 g5 gx gy 0 s.size hp s2):=by
 obtain⟨fr,hq⟩:=st;obtain⟨f0,f1,⟨f4,b4⟩,⟨f5,b5⟩,⟨g6,f6,b6⟩,low,hlx⟩:=h;simp only at f0 f1 f4 b4 f5 b5 f6 b6 low;clear hlx
 cases hb
 repeat' first|refine ZN ?_|refine Z2 ?_ ?_|intro h h';try simp[*,-h] at h'
 exact⟨rfl,(hq ⟨1,25,0⟩).gen+1,(hq ⟨1,25,1⟩).gen+1,⟨Zm,⟨Zm,Zm⟩,⟨Zm,Zm⟩,Zm,⟨Zm,Zm,Zo,Zo⟩,fun i c=>Zm⟩⟩
def RC1 (T:List Tok)(e:Int)(gx gy gp:Nat)(hp1:Hp)(v:AV)(If:Hp)(x:Sy.Pr)(n2:Nat):Prop:=v= .tup []/\(iY T=some x/\T.length<=n2)/\If ⟨0,5,0⟩= .box gp x.row false/\x.size<=T.length/\Rd T e 25 gx gy n2 If/\ ∀d i c,d<=1->(⟨d,i,c⟩:Nm)≠⟨1,25,0⟩->(⟨d,i,c⟩:Nm)≠⟨0,5,0⟩->If ⟨d,i,c⟩=hp1 ⟨d,i,c⟩
structure RQ (T:List Tok)(gp g4 g5 gx gy n:Nat)(e:Int)(hp:Hp)(p:Sy.Pr)(st:AS):Prop where
 f4:st.fr 4= .ptr ⟨1,4,0⟩ g4 0/\st.hp ⟨1,4,0⟩= .box g4 [iv 0] false
 f5:st.fr 5= .ptr ⟨1,5,0⟩ g5 0/\st.hp ⟨1,5,0⟩= .box g5 [iv 0] false
 f9:st.fr 9= .ptr ⟨1,25,0⟩ gx 0
 rd:Rd T e 25 gx gy n st.hp
 bx:st.hp ⟨0,5,0⟩= .box gp p.row false
 low: ∀i c,(⟨0,i,c⟩:Nm)≠⟨0,5,0⟩->st.hp ⟨0,i,c⟩=hp ⟨0,i,c⟩
theorem JH(hb:Tryz.f154.body=some (.seq c0 (.seq c1 (.seq c2 (.seq c3 (.seq d5 (.seq d6 (.seq (.seq d7 (.cond x d8 .skip)) (.seq d9 .ret))))))))){e:Int}{v:AV}{If:Hp}(h:RT T gp g4 g5 gx gy 0 e hp st)(hc:(Lm bX).hpc 1 28 155 [.ptr ⟨1,25,0⟩ gx 0,.ptr ⟨0,5,0⟩ gp 0] st.hp=some (v,If))(hr:RC1 T e gx gy gp st.hp v If p n):
  W P0 Un 1 (Lm bX) d6 st (fun e1 s2=>e1= .normal/\RQ T gp g4 g5 gx gy n e hp p s2):=by
 obtain⟨fr,hq⟩:=st;obtain⟨f1,⟨f4,b4⟩,⟨f5,b5⟩,f9,rd,low⟩:=h;obtain⟨rfl,_,hb5,hps,eB,tC⟩:=hr;simp only at f1 f4 b4 f5 b5 f9 rd low hc tC
 cases hb
 repeat' first|refine ZN ?_|refine Z2 ?_ ?_|intro h h';try simp[*,-h] at h'
 exact⟨rfl,⟨Zm,by rw[<-b4];exact tC 1 4 0 Zo Zi Zi⟩,⟨Zm,by rw[<-b5];exact tC 1 5 0 Zo Zi Zi⟩,Zm,eB,hb5,fun i c Ir=>(tC 0 i c Zo Zi Ir).trans (low i c)⟩
theorem Gja(hb:Tryz.f154.body=some (.seq c0 (.seq c1 (.seq c2 (.seq c3 (.seq d5 (.seq d6 (.seq (.seq d7 (.cond x d8 .skip)) (.seq d9 .ret))))))))){nn N:Nat}{e:Int}{v:Value}{hp':Hp}{K:Nat->Prop}{B:jZ}{a:Act}{w:World}{Q:Exit->Act->World->Prop}(hN:N=41)(h:RT T gp g4 g5 gx gy 0 e hp st)(hc:gU P0 Un (Lm bX) (.fn 1 155 [.ptr ⟨1,25,0⟩ gx 0,.ptr ⟨0,5,0⟩ gp 0] st.hp) nn v hp')(S:aX 1 N K B st a w)
  (hQ: ∀fr a' w',fr 4=st.fr 4->fr 5=st.fr 5->aX 1 N K B ⟨fr,hp'⟩ a' w'->Q (.panic (iN v)) a' w'):d6.wp P0 Q a w:=by
 subst hN;obtain⟨fr,hq⟩:=st;obtain⟨f1,_,_,f9,_,_⟩:=h;simp only at f1 f9 hc;have hcal:B7 P0 1 155 [.ptr ⟨1,25,0⟩ gx 0,.ptr ⟨0,5,0⟩ gp 0] hq v hp':=Tg An Cc eR nn _ v hp' hc
 cases hb
 refine Mf (P:=P0) (E:=Un) (call:=Lm bX) (k:=1) (pre:=[_,_]) (st':=⟨Uw (Uw fr (some 26) (fr 1)) (some 27) (fr 9),hq⟩) (f:=155) (cs:=[.ptr ⟨0,5,0⟩ gp 0]) (v:=v) (hp':=hp') Cc eR Zf S rfl ?_ G6a Zd ?_ ?_
 ·simp[f1]
 ·simpa[f9] using hcal
 ·exact fun a' w' S'=>hQ (Uw (Uw fr (some 26) (fr 1)) (some 27) (fr 9)) a' w' rfl rfl S'
theorem JG(hb:Tryz.f154.body=some (.seq c0 (.seq c1 (.seq c2 (.seq c3 (.seq d5 (.seq d6 (.seq (.seq d7 (.cond x d8 .skip)) (.seq d9 .ret))))))))){e:Int}(h:RQ T gp g4 g5 gx gy n e hp p st):
  W P0 Un 1 (Lm bX) d7 st (fun e1 s2=>e1= .normal/\Uy s2.fr x=bv (decide (n<T.length))/\RQ T gp g4 g5 gx gy n e hp p s2):=by
 obtain⟨fr,hq⟩:=st;obtain⟨⟨f4,b4⟩,⟨f5,b5⟩,f9,⟨h1,h2,Ij,aI⟩,bx,low⟩:=h;simp only at f4 b4 f5 b5 f9 bx low h1 h2
 cases hb
 repeat' first|refine ZN ?_|refine Z2 ?_ ?_|intro h h';try simp[*,-h] at h'
 exact⟨rfl,by simp[Uy],⟨Zm,Zm⟩,⟨Zm,Zm⟩,Zm,⟨h1,h2,Ij,aI⟩,bx,low⟩
theorem JF(hb:Tryz.f154.body=some (.seq c0 (.seq c1 (.seq c2 (.seq c3 (.seq d5 (.seq d6 (.seq (.seq d7 (.cond x d8 .skip)) (.seq d9 .ret))))))))){e:Int}(h:RQ T gp g4 g5 gx gy n e hp p st):
  W P0 Un 1 (Lm bX) (.seq d9 .ret) st (fun e1 s2=>e1= .ret/\RQ T gp g4 g5 gx gy n e hp p s2):=by
 obtain⟨fr,hq⟩:=st;obtain⟨⟨f4,b4⟩,⟨f5,b5⟩,f9,⟨h1,h2,Ij,aI⟩,bx,low⟩:=h;simp only at f4 b4 f5 b5 f9 bx low h1 h2
 cases hb
 repeat' first|refine ZN ?_|refine Z2 ?_ ?_|intro h h';try simp[*,-h] at h'
 exact⟨rfl,⟨Zm,Zm⟩,⟨Zm,Zm⟩,Zm,⟨Zm,Zm,Ij,aI⟩,Zm,fun i c Ir=>by simpa using low i c Ir⟩
end
section
open Go Go.Ab Go.Ab.Sy
theorem Bma :Tryz.f154.results.toList=[.cell 4 3,.cell 5 33]:=rfl
theorem Vt {N:Nat}{K:Nat->Prop}{B:jZ}{fr:Nat->AV}{hq:Hp}{act:Act}{w:World}{a e:Int}{g4 g5:Nat}(S:aX 1 N K B ⟨fr,hq⟩ act w)(f4:fr 4= .ptr ⟨1,4,0⟩ g4 0)(b4:hq ⟨1,4,0⟩= .box g4 [iv a] false)(f5:fr 5= .ptr ⟨1,5,0⟩ g5 0)(b5:hq ⟨1,5,0⟩= .box g5 [iv e] false):
  ∃v,(results Tryz.f154 act.tmps).run P0 w= .ok v w/\ ∃I' m',sF I' K m' hq w (.tup [iv a,iv e]) 0 B.I B.m B.hp B.w v:=by
 obtain⟨I1,m1,G1,E1,mY,_,nX⟩:=S;have h:(dU P0 fr 0 0 [.cell 4 3,.cell 5 33]).run hq=some (.tup [iv a,iv e],hq):=by
  simp[f4,f5,b4,b5]
 obtain⟨us',Uk,I2,m2,G2,E2,R2⟩:=Fa (k:=0) G1 mY h;exact⟨gF us',Bl _ _ us' (by rw[Bma];exact Uk),I2,m2,G2,E1.trans E2,R2⟩
theorem JJ {c0 c1 c2 c3 d5 d6 d7 d8 d9:Code}{x:Operand}(hb:Tryz.f154.body=some (.seq c0 (.seq c1 (.seq c2 (.seq c3 (.seq d5 (.seq d6 (.seq (.seq d7 (.cond x d8 .skip)) (.seq d9 .ret))))))))){a:Act}{w:World}{Q:Exit->Act->World->Prop}(hs:a.tmps.size=41)
  (hQ:Q .normal {(a.put (some 20) (.func (.func 218) #[] #[a.eval (.tmp 4),a.eval (.tmp 5)])) with defers:={target:= .fn (.func 218) #[a.eval (.tmp 4),a.eval (.tmp 5)],args:= #[]}::a.defers} w):c3.wp P0 Q a w:=by
 cases hb
 refine vA ?_;have hmf: ∀(fn:Fn) (first cap:Array Value) (w:World),(Instr.makeFunc fn first cap).run P0 w= .ok (.func fn first cap) w:=fun _ _ _ _=>rfl
 simp[wpOps,Oper.wp,Oper.upon,go_sem,hmf,Region.wanted,hs];exact .inl (.inl (by simpa[Act.put,Act.eval,hs] using hQ))
end
section
open Go Go.Ab Go.Ab.Sy
variable {act:Act}{s:ByteArray}{c0 c1 c2 c3 d5 d6 d7 d8 d9:Code}{hp hq:Hp}{a:Int}{m:Mp}{gp g4 g5:Nat}{fr:Nat->AV}{I K:Nat->Prop}{x:Operand}{w w':World}
def RR (s:ByteArray)(hp:Hp)(gp:Nat)(v:AV)(hp':Hp):Prop:= ∃a e:Int,v= .tup [iv a,iv e]/\((e=0/\ ∃p:Sy.Pr,Hu s p/\p.size<=20000/\hp' ⟨0,5,0⟩= .box gp p.row false)\/(lA s e/\ ∃cells,hp' ⟨0,5,0⟩= .box gp cells false))/\ ∀i c,(⟨0,i,c⟩:Nm)≠⟨0,5,0⟩->hp' ⟨0,i,c⟩=hp ⟨0,i,c⟩
theorem N8{us:List Value}(G:Uj I K m hp w)(ha:Ue (Ie 0 I m hp w) [tv s,.fn 155 [.ptr ⟨0,5,0⟩ gp 0]] us):
  aX 1 41 K ⟨I,m,hp,w,[]⟩ ⟨Uh [tv s,.fn 155 [.ptr ⟨0,5,0⟩ gp 0]],hp⟩ {tmps:=(⟨us⟩:Array Value)++Array.replicate (Tryz.f154.ntmps - (⟨us⟩:Array Value).size) undef,defers:=[]} w:=by
 have hl:us.length=2:=by rw[<-ha.1];rfl
 have hn:Tryz.f154.ntmps=41:=rfl;refine⟨I,m,G,.refl _ _ _ _ _,fun t=>Cl (ha.imp fun a u h=>Ie.depth (uY 0) a u h) t,?_,rfl⟩;simp only[AX,AW,BA,hn];omega
theorem C3(hb:Tryz.f154.body=some (.seq c0 (.seq c1 (.seq c2 (.seq c3 (.seq d5 (.seq d6 (.seq (.seq d7 (.cond x d8 .skip)) (.seq d9 .ret))))))))):(∀c∈[c0,c1,c2],Im 41 c=true)/\Im 41 d5=true/\Im 41 d6=true/\Im 41 d7=true/\Im 41 d8=true/\Im 41 (.seq d9 .ret)=true:=by
 have h:Im 41 (.seq c0 (.seq c1 (.seq c2 (.seq c3 (.seq d5 (.seq d6 (.seq (.seq d7 (.cond x d8 .skip)) (.seq d9 .ret))))))))=true:=by
  have h0:(match Tryz.f154.body with|some c=>Im 41 c|none=>false)=true:=Zf;rw[hb] at h0;exact h0
 simp only[Im,Ed] at h;obtain⟨a0,a1,a2,a3,a5,a6,⟨a7,⟨_,a8⟩,_⟩,a9⟩:=h;refine⟨?_,a5,a6,a7,a8,?_⟩
 ·intro c hc
  simp only[sV,Ac4,or_false] at hc;rcases hc with rfl|rfl|rfl<;>assumption
 ·simp only[Im,a9.1,Ade,Zt]
theorem Y6(hb:Tryz.f154.body=some (.seq c0 (.seq c1 (.seq c2 (.seq c3 (.seq d5 (.seq d6 (.seq (.seq d7 (.cond x d8 .skip)) (.seq d9 .ret))))))))){hp':Hp}{v:AV}{s1:AS}
  (hW:lM P0 Un 1 (Lm bX) (fun e1 s2=>e1= .ret/\s2=s1) (fun s2=>s2=s1/\Ab.Ex.ret= .normal) [c0,c1,c2] ⟨Uh [tv s,.fn 155 [.ptr ⟨0,5,0⟩ gp 0]],hp⟩)
  (hl:(dU P0 s1.fr 0 0 [.cell 4 3,.cell 5 33]).run s1.hp=some (v,hp')):sG P0 0 154 [tv s,.fn 155 [.ptr ⟨0,5,0⟩ gp 0]] hp v hp':=by
 intro Uz I K m w us G ha;refine Ac8 Tryz.func154 hb ?_;refine lM.wp An Cc eR (fun s2 a' w' h=>nomatch h.2) (fun e s2 a' w' Ir h S=>?_) (fun v hp' a' w' h=>nomatch h.1) [c0,c1,c2] hW (C3 hb).1 (N8 G ha);obtain⟨rfl,rfl⟩:=h;obtain⟨I1,m1,G1,E1,mY,_,nX⟩:=S;obtain⟨us',Uk,I2,m2,G2,E2,R2⟩:=Fa (k:=0) G1 mY hl;show Leaves _ _ _ _ a'.defers .returning w';rw[nX];exact⟨gF us',Bl _ _ us' (by rw[Bma];exact Uk),gF us',rfl,I2,m2,G2,E1.trans E2,R2⟩
def BQ (p q:Value):Deferred:={target:= .fn (.func 218) #[p,q],args:= #[]}
theorem Bwa (p q:Value)(w:World):(invoke (.fn (.func 218) #[p,q]) #[]).run P0 w= .ok (.enter 218 #[p,q]) w:=by
 simp[go_sem]
theorem Eca{p q:Addr}{e:Int}(S:aX 1 41 K ⟨I,m,hp,w,[BQ (.pointer (some p)) (.pointer (some q))]⟩ ⟨fr,hq⟩ act w')(f4:fr 4= .ptr ⟨1,4,0⟩ g4 0)(b4:hq ⟨1,4,0⟩= .box g4 [iv a] false)(f5:fr 5= .ptr ⟨1,5,0⟩ g5 0)(b5:hq ⟨1,5,0⟩= .box g5 [iv e] false):
  Leaves P0 Tryz.f154 act.tmps (fun e' w''=> ∃u,e'= .returned u/\ ∃I' m',sF I' K m' hq w'' (.tup [iv a,iv e]) 0 I m hp w u) act.defers .returning w':=by
 obtain⟨v,hv,hS⟩:=Vt S f4 b4 f5 b5;obtain⟨_,_,_,_,_,_,hd⟩:=S;rw[hd];refine Ad2 (f:=218) (args:= #[.pointer (some p),.pointer (some q)]) Zi (Bwa _ _ _) ?_;refine(Awa p q w').mono ?_;rintro e1 u' w1 ⟨rfl,rfl,rfl⟩;exact⟨v,hv,v,rfl,hS⟩
theorem Eda{p q:Value}{x4 x5:AV}(S:aX 1 41 K ⟨I,m,hp,w,[BQ p q]⟩ ⟨fr,hq⟩ act w')(f4:fr 4= .ptr ⟨1,4,0⟩ g4 0)(b4:hq ⟨1,4,0⟩= .box g4 [x4] false)(f5:fr 5= .ptr ⟨1,5,0⟩ g5 0)(b5:hq ⟨1,5,0⟩= .box g5 [x5] false)
  (AI: ∀I1 m1,Uj I1 K m1 hq w'->aL I K m hp w I1 m1 hq w'->Ie 1 I1 m1 hq w' (.ptr ⟨1,4,0⟩ g4 0) p/\Ie 1 I1 m1 hq w' (.ptr ⟨1,5,0⟩ g5 0) q):
  Leaves P0 Tryz.f154 act.tmps (fun e' w''=> ∃u,e'= .returned u/\ ∃I' m',sF I' K m' (oR a g4 g5 hq) w'' (.tup [iv a,iv 3]) 0 I m hp w u) act.defers (.panicking (iN (qZ a))) w':=by
 obtain⟨I1,m1,G1,E1,hf,hs,hd⟩:=S;rw[hd];refine Ad2 (f:=218) (args:= #[p,q]) Zi (Bwa _ _ _) ?_;refine(X0 G1 (AI I1 m1 G1 E1).1 (AI I1 m1 G1 E1).2 b4 b5).mono ?_;rintro e1 u' w1 ⟨rfl,rfl,I',m',G',E'⟩;obtain⟨v,hv,hS⟩:=Vt (N:=41) (B:=⟨I,m,hp,w,[BQ p q]⟩) (a:=a) (e:=3) (S:=⟨I',m',G',E1.trans E',fun t=>Ie.mono E' _ _ _ (hf t),hs,hd⟩) f4 rfl f5 rfl;exact⟨v,hv,v,rfl,hS⟩
end
section
open Go Go.Ab Go.Ab.Sy
variable {st:AS}{x:Operand}
theorem read_x {K:Nat->Prop}{B:jZ}{a:Act}{w:World}{b t:Bool}(S:aX 1 41 K B st a w)(h:Uy st.fr x=bv b)(hb:b=t):a.eval x= .bool t:=by
 obtain⟨I,m,G,_,hf,_,_⟩:=S;have:=D0 G hf x;rw[h,hb] at this;simpa[Ie] using this
theorem Doa {c0 c1 c2 c3 d5 d6 d7 d8 d9:Code}(hb:Tryz.f154.body=some (.seq c0 (.seq c1 (.seq c2 (.seq c3 (.seq d5 (.seq d6 (.seq (.seq d7 (.cond x d8 .skip)) (.seq d9 .ret))))))))){s:ByteArray}{T:List Tok}{gp g4 g5:Nat}{hp:Hp}{c1v c2v c3v:AV}(hT:T.length<=20000)(h:RH s T gp g4 g5 hp st)(hbx:hp ⟨0,5,0⟩= .box gp [c1v,c2v,c3v] false):
  ∃v hp',RR s hp gp v hp'/\ ∀(I K:Nat->Prop) (m:Mp) (w:World) (act:Act) (p q:Addr),aX 1 41 K ⟨I,m,st.hp,w,[BQ (.pointer (some p)) (.pointer (some q))]⟩ st act w->Ie 1 I m st.hp w (st.fr 4) (.pointer (some p))->Ie 1 I m st.hp w (st.fr 5) (.pointer (some q))->
   (Code.seq d5 (.seq d6 (.seq (.seq d7 (.cond x d8 .skip)) (.seq d9 .ret)))).wp P0 (bodyPostD P0 Tryz.f154 (fun e' w''=> ∃u,e'= .returned u/\ ∃I' m',sF I' K m' hp' w'' v 0 I m st.hp w u)) act w:=by
 obtain⟨e5,s5,hW5,rfl,gx,gy,hRT⟩:=W.pick (JI hb hT h);have hq5:s5.hp ⟨0,5,0⟩= .box gp [c1v,c2v,c3v] false:=(hRT.low 5 0).trans hbx;rcases E3a 28 s5.hp hRT.rd hq5 with⟨v,If,hc,hr⟩|⟨nn,v,hp',hc,⟨⟨a,rfl⟩,Uf⟩,mX⟩
 ·obtain⟨pr,n,hr⟩: ∃pr n,RC1 T s.size gx gy gp s5.hp v If pr n:=by
   obtain⟨h1,x,n,ha,hb,h2⟩:=hr;exact⟨x,n,h1,⟨ha,hb⟩,h2⟩
  have hps:=hr.2.2.2.1;obtain⟨e6,s6,hW6,rfl,hRQ⟩:=W.pick (JH hb hRT hc hr);obtain⟨e7,s7,hW7,rfl,hx7,hRQ7⟩:=W.pick (JG hb hRQ);have hn: ¬n<T.length:=by have:=hr.2.1.2;omega
  obtain⟨e9,s9,hW9,rfl,zU⟩:=W.pick (JF hb hRQ7);refine⟨.tup [iv 0,iv 0],s9.hp,⟨0,0,rfl,.inl ⟨rfl,pr,⟨T,h.lx,hr.2.1.1⟩,Zo,zU.bx⟩,zU.low⟩,?_⟩;intro I K m w act p q S AI hp5;refine nM (W.wp An Cc eR hW5 (C3 hb).2.1 S (fun e s2 a' w' hh S'=>?_) (fun v hp' a' w' h=>nomatch h.1));obtain⟨rfl,rfl⟩:=hh;refine nM (W.wp An Cc eR hW6 (C3 hb).2.2.1 S' (fun e s2 a' w' hh S'=>?_) (fun v hp' a' w' h=>nomatch h.1));obtain⟨rfl,rfl⟩:=hh;refine nM (nM (W.wp An Cc eR hW7 (C3 hb).2.2.2.1 S' (fun e s2 a' w' hh S'=>?_) (fun v hp' a' w' h=>nomatch h.1)));obtain⟨rfl,rfl⟩:=hh;refine Aek (read_x S' hx7 (by simp[hn])) (wp_skip ?_);refine W.wp An Cc eR hW9 (C3 hb).2.2.2.2.2 S' (fun e s2 a' w' hh S'=>?_) (fun v hp' a' w' h=>nomatch h.1);obtain⟨rfl,rfl⟩:=hh;exact Eca S' zU.f4.1 zU.f4.2 zU.f5.1 zU.f5.2
 ·obtain⟨f4,b4⟩:=hRT.f4
  obtain⟨f5,b5⟩:=hRT.f5;refine⟨.tup [iv a,iv 3],oR a g4 g5 hp',⟨a,3,rfl,.inr ⟨.inr ⟨rfl,T,h.lx,mX⟩,_,((Uf 0 5 0 Zo Zi).trans hq5)⟩,fun i c Ir=>(Uf 0 i c Zo Zi).trans (hRT.low i c)⟩,?_⟩;intro I K m w act p q S AI hp5;refine nM (W.wp An Cc eR hW5 (C3 hb).2.1 S (fun e s2 a' w' hh S'=>?_) (fun v hp' a' w' h=>nomatch h.1));obtain⟨rfl,rfl⟩:=hh;refine nM (Gja hb rfl hRT hc S' fun fr a2 w2 e4 e5 S2=>?_);exact Eda S2 (e4.trans f4) ((Uf 1 4 0 Zo Zi).trans b4) (e5.trans f5) ((Uf 1 5 0 Zo Zi).trans b5) (fun I1 m1 _ E1=>⟨Ie.mono E1 _ _ _ (h.f4.1▸AI),Ie.mono E1 _ _ _ (h.f5.1▸hp5)⟩)
end
section
open Go Go.Ab Go.Ab.Sy
variable {c1v c2v c3v:AV}{s:ByteArray}{hp:Hp}{gp d:Nat}
theorem Hr {P:Program}{fn:Func}{tmps:Array Value}{R R':Ending->World->Prop}(h: ∀e w,R e w->R' e w): ∀(ds:List Deferred) (u:FrameMode) (w:World),Leaves P fn tmps R ds u w->Leaves P fn tmps R' ds u w
 |[],.returning,w,⟨v,h1,h2⟩=>⟨v,h1,h _ _ h2⟩
 |[],.panicking c,w,h1=>h _ _ h1
 |[],.run,_,h1=>h1.elim
 |d::ds,u,w,⟨hu,fv,cap,f,args,h1,h2,h3⟩=>by
  refine⟨hu,fv,cap,f,args,h1,h2,h3.mono fun e u' w' he=>?_⟩
  cases e with
  |returned v=>exact Hr h ds _ _ he
  |panicked c=>exact Hr h ds _ _ he
  |outgrown=>exact h _ _ he
theorem Po {P:Program}{fn:Func}{R R':Ending->World->Prop}(h: ∀e w,R e w->R' e w): ∀(e:Exit) (a:Act) (w:World),bodyPostD P fn R e a w->bodyPostD P fn R' e a w:=by
 intro e a w h1
 cases e<;>first|exact Hr h _ _ _ h1|exact h _ _ h1|exact h1.elim
theorem Gia(hs:s.size<9223372036854775807)(hbx:hp ⟨0,5,0⟩= .box gp [c1v,c2v,c3v] false):
  ∃v hp',sG P0 0 154 [tv s,.fn 155 [.ptr ⟨0,5,0⟩ gp 0]] hp v hp'/\RR s hp gp v hp':=by
 obtain⟨c0,c1,c2,c3,d5,d6,d7,x,d8,d9,hb⟩: ∃c0 c1 c2 c3 d5 d6 d7 x d8 d9,Tryz.f154.body=some (.seq c0 (.seq c1 (.seq c2 (.seq c3 (.seq d5 (.seq d6 (.seq (.seq d7 (.cond x d8 .skip)) (.seq d9 .ret)))))))):=⟨_,_,_,_,_,_,_,_,_,_,rfl⟩;obtain⟨T,hT,hW⟩:=Dna hb hs (gp:=gp) (hp:=hp);obtain⟨e1,s1,vR,h1⟩:=lM.pick _ hW;rcases h1 with⟨rfl,h1⟩|⟨Ir,h1⟩
 ·obtain⟨v,hp',hRR,oL⟩:=Doa hb hT (st:=⟨Uw s1.fr (some 20) .any,s1.hp⟩) (hp:=hp) (s:=s) (gp:=gp) ⟨by simpa using h1.f0,by simpa using h1.f1,by simpa using h1.f4,by simpa using h1.f5,by simpa using h1.f6,h1.low,h1.lx⟩ hbx
  refine⟨v,hp',?_,hRR⟩;intro Uz I K m w us G ha;refine Ac8 Tryz.func154 hb ?_;refine lM.wp An Cc eR (fun s2 a' w' hh S=>?_) (fun e s2 a' w' Ir hh S=>(Ir hh.1).elim) (fun v hp' a' w' h=>nomatch h.1) [c0,c1,c2] vR (C3 hb).1 (N8 G ha);obtain⟨rfl,_⟩:=hh;obtain⟨I1,m1,G1,E1,mY,pN,nX⟩:=S;have R4:=mY 4;have R5:=mY 5;rw[h1.f4.1] at R4;rw[h1.f5.1] at R5;have R4':=R4;have R5':=R5;simp only[Ie] at R4' R5';obtain⟨b4,n4,_,e4⟩:=R4'.2.2 _ _ h1.f4.2;obtain⟨b5,n5,_,e5⟩:=R5'.2.2 _ _ h1.f5.2;refine nM (JJ hb pN ?_);have S':aX 1 41 K ⟨I1,m1,s2.hp,w',[BQ (.pointer (some ⟨b4,0,none⟩)) (.pointer (some ⟨b5,0,none⟩))]⟩ ⟨Uw s2.fr (some 20) .any,s2.hp⟩ {(a'.put (some 20) (.func (.func 218) #[] #[a'.eval (.tmp 4),a'.eval (.tmp 5)])) with defers:={target:= .fn (.func 218) #[a'.eval (.tmp 4),a'.eval (.tmp 5)],args:= #[]}::a'.defers} w':=by
   refine⟨I1,m1,G1,.refl _ _ _ _ _,fun t=>?_,?_,?_⟩
   ·show Ie 1 I1 m1 s2.hp w' (Uw s2.fr (some 20) .any t) ((a'.put (some 20) _).eval (.tmp t))
    rw[G7 _ _ _ _ Zo];by_cases h:t=20
    ·subst h;simp[Ie]
    ·simp only[Jx h]
     have:Uw s2.fr (some 20) .any t=s2.fr t:=by simp[Uw,h]
     rw[this];exact mY t
   ·show(a'.put (some 20) _).tmps.size=41
    rw[Eu];exact pN
   ·show _::a'.defers=_
    rw[nX,e4,e5];rfl
  refine wp_mono (oL I1 K m1 w' _ _ _ S' (by rw[e4] at R4;simpa[h1.f4.1] using R4) (by rw[e5] at R5;simpa[h1.f5.1] using R5)) (Po ?_);rintro e w'' ⟨u,he,I',m',hS⟩;exact⟨u,he,I',m',hS.1,E1.trans hS.2.1,hS.2.2⟩
 ·cases e1 with
  |normal=>exact(Ir rfl).elim
  |exit i=>exact h1.elim
  |panic v=>exact h1.elim
  |ret=>
   obtain⟨v,hp',hl,a,e,rfl,he,tC⟩:=h1;exact⟨_,hp',Y6 hb vR hl,a,e,rfl,.inr ⟨he,_,(tC 5 0).trans hbx⟩,fun i c _=>tC i c⟩
def RhR (k f:Nat)(a:List AV)(hp:Hp)(v:AV)(hp':Hp):Prop:=k=0/\f=154/\ ∃s gp,a=[tv s,.fn 155 [.ptr ⟨0,5,0⟩ gp 0]]/\RR s hp gp v hp'
noncomputable def X47 :aS:=pA P0 (fun _ _ _=>False) RhR
theorem X47_ok :Av P0 X47:=Bia _ _ _
theorem B3 (f:Nat)(a:List AV):X47.dat f a=none:=Ji fun _ h=>h
theorem B2 {k f:Nat}{a:List AV}(h:f≠154):X47.hpc k d f a hp=none:=Jh fun _ _ h'=>h h'.2.1
theorem qW :Av P0 (Lm X47):=Fl An Cc X47_ok
theorem read_w(hs:s.size<9223372036854775807)(hbx:hp ⟨0,5,0⟩= .box gp [c1v,c2v,c3v] false):
  ∃v hp',(Lm X47).hpc 0 d 154 [tv s,.fn 155 [.ptr ⟨0,5,0⟩ gp 0]] hp=some (v,hp')/\RR s hp gp v hp':=by
 obtain⟨v,hp',h1,h2⟩:=Gia hs hbx;obtain⟨v',hp'',h3,_,_,s',gp',h4,h5⟩:=F9a (d:=d) (Rd:=fun _ _ _=>False) (Rh:=RhR) h1 ⟨rfl,rfl,s,gp,rfl,h2⟩;simp only[AC,AV.sc.injEq,Acr,AV.fn.injEq,AV.ptr.injEq,and_true,true_and] at h4;obtain⟨rfl,rfl⟩:=h4;exact⟨v',hp'',Tp h3,h5⟩
end
section
open Go Go.Ab Go.Ab.Sy
def dT (s:ByteArray):Bool:=decide (s≠⟨#[]⟩)&&(decide (s.size<=20)&&(mS (aM s 0)&&(decide (U0 s bJ 0=s.size)&& !U6 s)))
theorem IJ (s:ByteArray):bY s 0 s.size=s:=by
 unfold bY;apply Adc;rw[Ady];exact Array.extract_size
theorem sub_self {s:ByteArray}{j:Nat}(hj:j<=s.size):bY s 0 j=s↔j=s.size:=by
 constructor
 ·intro h
  have:=Ds (s:=s) (i:=0) (j:=j) Zo hj;rw[h] at this;omega
 ·rintro rfl
  exact IJ s
theorem NameX {X:aS}(hX: ∀f a,X.dat f a=none)(s:ByteArray)(hs:s.size<9223372036854775807):(Lm X).dat 300 [tv s]=some [bv (dT s)]:=by
 refine fW Tryz.func300 (hX _ _) ?_;have fn:=Xi hX s hs;have iw:=B8a hX s;have l1:=O1 hX;by_cases h0:s=⟨#[]⟩
 ·have hr:dT s=false:=by unfold dT;rw[h0];rfl
  rw[hr];clear hr fn iw l1;subst h0;exact ZS
 have hz:0<s.size:=by
  rcases Nat.eq_zero_or_pos s.size with h|h
  ·exact absurd (Adc (Ach h)) h0
  ·exact h
 have hv:aM s 0=s.data[0]'hz:=Bd hz;have Ii:=Gl (s.data[0]'hz);have le:=(By s bJ 0).2 Zo;have wF:=sub_self le;have hu:dT s=(decide (s.size<=20)&&(mS (aM s 0)&&(decide (U0 s bJ 0=s.size)&& !U6 s))):=by unfold dT;rw[sK h0,Zt]
 rw[hu,hv];clear hu hv le;by_cases h20':20<s.size
 ·have e1: ¬(s.size:Int)<=20:=Zo
  rw[oV Zo,xX];clear wF iw Ii;exact ZS
 have tS:s.size<=20:=Zo;have e1:(s.size:Int)<=20:=Zo;rw[sK tS,Zt]
 cases hl:mS (s.data[0]'hz) with
 |false=>
  rw[hl] at Ii;rw[xX];clear wF iw hl;exact ZS
 |true=>
  rw[hl] at Ii;rw[Zt];by_cases hf:U0 s bJ 0=s.size
  ·have hse:=wF.2 hf
   rw[sK hf,Zt];rw[hse] at fn
   cases hw:U6 s with
   |true=>
    rw[hw] at iw;clear wF hse hf hl hw;exact ZS
   |false=>
    rw[hw] at iw;clear wF hse hf hl hw;exact ZS
  ·have hse: ¬bY s 0 (U0 s bJ 0)=s:=fun h=>hf (wF.1 h)
   rw[oV hf,xX];clear wF hf hl iw;generalize bY s 0 (U0 s bJ 0)=u at*;exact ZS
end
end Go.Proofs.YtggghdmdjpianaaGreatDoor
