/- A part of the proof: Mg, Mh, Vf, Vg, Vh, Vi, Ta, Xa. -/
import Derived.Test.YtggghdmdjpianaaGreatDoorC09
import Derived.Test.YtggghdmdjpianaaGreatDoorC08
import Derived.Test.YtggghdmdjpianaaGreatDoorC07
import Derived.Test.YtggghdmdjpianaaGreatDoorC04
import Derived.Test.YtggghdmdjpianaaGreatDoorC05
import Derived.Lib.Hide
set_option linter.unusedSimpArgs false
set_option linter.unusedVariables false
set_option maxRecDepth 200000
set_option maxHeartbeats 8000000
namespace Go.Proofs.YtggghdmdjpianaaGreatDoor
section
open Go Go.Ab Go.Ab.Sy
variable {hp:Hp}{v:Int}{tr fr_:List (List AV)}{r0:List AV}{l:List Int}{c:MK}{tk j k w:Nat}
theorem MS.keep{hp1 If:Hp}(h:MS c tk hp1)(he: ∀i x,i=21\/i=38->If ⟨0,i,x⟩=hp1 ⟨0,i,x⟩):MS c tk If:=
 ⟨by rw[he 21 0 (.inl rfl),he 21 6 (.inl rfl)];exact h.bx,by rw[he 21 2 (.inl rfl)];exact h.vr,fun hn=>by
  obtain⟨a1,a2,a3⟩:=h.ar hn;exact⟨a1,by rw[he 38 0 (.inr rfl)];exact a2,fun k g n hk=>by rw[he 38 (k+1) (.inr rfl)];exact a3 k g n hk⟩,by rw[he 21 1 (.inl rfl)];exact h.fr⟩
theorem MS.own{dx ix x:Nat}{o:It}(h:MS c tk hp)(hn: ¬(dx=0/\(ix=21\/ix=38))):MS c tk (Ur hp ⟨dx,ix,x⟩ o):=
 h.keep fun i y hi=>by
  have n1:(⟨0,i,y⟩:Nm)≠⟨dx,ix,x⟩:=fun e=>by injection e with e1 e2 _;subst e1 e2;exact hn ⟨rfl,hi⟩
  simp[n1]
theorem MS.setV(h:MS c tk hp)(hl:l.length=c.nv)(hU: ∀u∈l,uU u)(hv:uU v):MS c tk (Ur hp ⟨0,21,2⟩ (.arr c.gv 1 73 ((l.map fun u=>[uv u]).set j [uv v]) false)):=by
 obtain⟨⟨rd,go,no,h1,h2,h3⟩,_,h5,h6⟩:=h;refine⟨⟨rd,go,no,by simpa using h1,h2,by simpa using h3⟩,by simpa using O5 hl hU hv,fun hn=>?_,by simpa using h6⟩;obtain⟨a1,a2,a3⟩:=h5 hn;exact⟨a1,by simpa using a2,fun k g n hk=>by simpa using a3 k g n hk⟩
theorem MS.setA{a g n:Nat}(h:MS c tk hp)(hg:c.al[a]?=some (g,n))(hl:l.length=n)(hU: ∀u∈l,uU u)(hv:uU v):MS c tk (Ur hp ⟨0,38,a+1⟩ (.arr g 1 73 ((l.map fun u=>[uv u]).set j [uv v]) false)):=by
 obtain⟨⟨rd,go,no,h1,h2,h3⟩,h4,h5,h6⟩:=h;refine⟨⟨rd,go,no,by simpa using h1,h2,by simpa using h3⟩,by simpa using h4,fun hn=>?_,by simpa using h6⟩;obtain⟨a1,a2,a3⟩:=h5 hn;refine⟨a1,by simpa using a2,fun k g' n' hk=>?_⟩;by_cases he:k=a
 ·subst he
  rw[hg] at hk;simp only[Bc,Br] at hk;obtain⟨rfl,rfl⟩:=hk;simpa using O5 hl hU hv
 ·have:=a3 k g' n' hk
  simpa[he] using this
theorem Gwa(hj:j<w)(c0:fZ c k w r0):qF c k w [iz 1,bz true,iz j,.sl false 6 [r0],.sl false 6 tr,.sl false 6 fr_]:=by
 intro D d hp1 tk gx dx ix hR nD hX hD hN;refine hB (k1:=D+1) (PR:=yU c D dx ix hp1) Tryz.func237 rfl ?_;have hF:=gN.refl D dx ix hp1;have hT:=D5 tk;obtain⟨⟨rd,go,no,cL,eB,hO⟩,⟨V,hV,kC,kD⟩,hA⟩:=id hR;unfold bK at cL;obtain⟨l,hl,iJ,iR⟩:=id hX
 repeat' (first|refine ZN ?_|refine Z2 ?_ ?_|(intro h h';try simp[*,-h] at h')|(exact⟨gT,gO,gN.val hF U7⟩)|((with_reducible apply Aq (f:=316));exact Zv;apply c0;exact hR;omega;exact hX;omega;exact hN;rotate_left;rintro _ dG ⟨gT,gO,U7⟩;rotate_right;(rintro _ If ⟨u,tk2,rfl,hu,mA,hR,hX,Ic⟩;have hF:=gN.val hF Ic;have hT:=Ve hT mA;obtain⟨⟨rd,go,no,cL,eB,hO⟩,⟨V,hV,kC,kD⟩,hA⟩:=id hR;unfold bK at cL;obtain⟨l,hl,iJ,iR⟩:=id hX))|fail)
 all_goals exact⟨_,_,tk2,rfl,lN,hT,hR.own hN,by simpa using O5 iJ iR hu,fun d i x hd hn hx=>(by have n1: ¬((⟨d,i,x⟩:Nm)=⟨dx,ix,0⟩):=(fun e=>by injection e with e1 e2 _;exact hx ⟨e1,e2⟩);simp[n1];exact hF d i x hd hn hx)⟩
theorem Gxa(hj:j<c.nv)(c0:fZ c k w r0):qF c k w [iz 1,bz false,iz j,.sl false 6 [r0],.sl false 6 tr,.sl false 6 fr_]:=by
 intro D d hp1 tk gx dx ix hR nD hX hD hN;refine hB (k1:=D+1) (PR:=yU c D dx ix hp1) Tryz.func237 rfl ?_;have hF:=gN.refl D dx ix hp1;have hT:=D5 tk;obtain⟨⟨rd,go,no,cL,eB,hO⟩,⟨V,hV,kC,kD⟩,hA⟩:=id hR;unfold bK at cL;obtain⟨l,hl,iJ,iR⟩:=id hX
 repeat' (first|refine ZN ?_|refine Z2 ?_ ?_|(intro h h';try simp[*,-h] at h')|(exact⟨gT,gO,gN.val hF U7⟩)|((with_reducible apply Aq (f:=316));exact Zv;apply c0;exact hR;omega;exact hX;omega;exact hN;rotate_left;rintro _ dG ⟨gT,gO,U7⟩;rotate_right;(rintro _ If ⟨u,tk2,rfl,hu,mA,hR,hX,Ic⟩;have hF:=gN.val hF Ic;have hT:=Ve hT mA;obtain⟨⟨rd,go,no,cL,eB,hO⟩,⟨V,hV,kC,kD⟩,hA⟩:=id hR;unfold bK at cL;obtain⟨l,hl,iJ,iR⟩:=id hX))|fail)
 all_goals exact⟨_,_,tk2,rfl,lN,hT,hR.setV kC kD hu,by simpa using hX,fun d i x hd hn hx=>(by have n1: ¬((⟨d,i,x⟩:Nm)=⟨0,21,2⟩):=(fun e=>by injection e with e1 e2 _;exact hn ⟨e1,.inl e2⟩);simp[n1];exact hF d i x hd hn hx)⟩
theorem Dva{r1:List AV}(b:Bool)(hj:j<c.al.length)(aZ: ∀x∈c.al,x.2<4294967296)(c0:fZ c k w r0)(c1:fZ c k w r1):qF c k w [iz 2,bz b,iz j,.sl false 6 [r0,r1],.sl false 6 tr,.sl false 6 fr_]:=by
 intro D d hp1 tk gx dx ix hR nD hX hD hN;refine hB (k1:=D+1) (PR:=yU c D dx ix hp1) Tryz.func237 rfl ?_;have hF:=gN.refl D dx ix hp1;have hT:=D5 tk;obtain⟨⟨rd,go,no,cL,eB,hO⟩,⟨V,hV,kC,kD⟩,hA⟩:=id hR;unfold bK at cL;obtain⟨l,hl,iJ,iR⟩:=id hX
 repeat' (first|refine ZN ?_|refine Z2 ?_ ?_|(intro h h';try simp[*,-h] at h')|(exact⟨gT,gO,gN.val hF U7⟩)|((with_reducible apply Aq (f:=316));exact Zv;apply c0;exact hR;omega;exact hX;omega;exact hN;rotate_left;rintro _ dG ⟨gT,gO,U7⟩;rotate_right;(rintro _ If ⟨u0,tk2,rfl,CI,mA,hR,hX,Ic⟩;have hF:=gN.val hF Ic;have hT:=Ve hT mA;obtain⟨⟨rd,go,no,cL,eB,hO⟩,⟨V,hV,kC,kD⟩,hA⟩:=id hR;unfold bK at cL;obtain⟨l,hl,iJ,iR⟩:=id hX))|((with_reducible apply Aq (f:=316));exact Zv;apply c1;exact hR;omega;exact hX;omega;exact hN;rotate_left;rintro _ dG ⟨gT,gO,U7⟩;rotate_right;(rintro _ If ⟨u1,tk2,rfl,uQ,mA,hR,hX,Ic⟩;have hF:=gN.val hF Ic;have hT:=Ve hT mA;obtain⟨⟨rd,go,no,cL,eB,hO⟩,⟨V,hV,kC,kD⟩,hA⟩:=id hR;unfold bK at cL;obtain⟨l,hl,iJ,iR⟩:=id hX))|((with_reducible apply Aq (f:=317));exact Zv;apply at_m;exact hR;exact hj;exact CI;exact aZ;rotate_left;rintro _ dG ⟨gT,gO,U7⟩;rotate_right;(rintro _ _ ⟨⟨ge,ne,wI,CH,rfl⟩,rfl⟩;obtain⟨la,xa,hla,hlan,hlaU,hxa,hxau,hxa2⟩:=M4 ((hR.ar (by intro h;rw[h] at hj;simp at hj)).2.2 _ _ _ wI) CH;have HGE:=Lib.hid wI;clear wI))|fail)
 all_goals exact⟨_,_,tk2,rfl,lN,hT,hR.setA HGE.out hlan hlaU uQ,by simpa using hX,fun d i x hd hn hx=>(by have n1: ¬((⟨d,i,x⟩:Nm)=⟨0,38,j+1⟩):=(fun e=>by injection e with e1 e2 _;exact hn ⟨e1,.inr e2⟩);simp[n1];exact hF d i x hd hn hx)⟩
theorem JT(b:Bool)(z:Int)(c0:fZ c k w r0):qF c k w [iz 3,bz b,iz z,.sl false 6 [r0],.sl false 6 tr,.sl false 6 fr_]:=by
 intro D d hp1 tk gx dx ix hR nD hX hD hN;refine hB (k1:=D+1) (PR:=yU c D dx ix hp1) Tryz.func237 rfl ?_;have hF:=gN.refl D dx ix hp1;have hT:=D5 tk;obtain⟨⟨rd,go,no,cL,eB,hO⟩,⟨V,hV,kC,kD⟩,hA⟩:=id hR;unfold bK at cL;obtain⟨l,hl,iJ,iR⟩:=id hX
 repeat' (first|refine ZN ?_|refine Z2 ?_ ?_|(intro h h';try simp[*,-h] at h')|(exact⟨gT,gO,gN.val hF U7⟩)|((with_reducible apply Aq (f:=316));exact Zv;apply c0;exact hR;omega;exact hX;omega;exact hN;rotate_left;rintro _ dG ⟨gT,gO,U7⟩;rotate_right;(rintro _ If ⟨u,tk2,rfl,hu,mA,hR,hX,Ic⟩;have hF:=gN.val hF Ic;have hT:=Ve hT mA;obtain⟨⟨rd,go,no,cL,eB,hO⟩,⟨V,hV,kC,kD⟩,hA⟩:=id hR;unfold bK at cL;obtain⟨l,hl,iJ,iR⟩:=id hX))|((with_reducible apply Aq (f:=318));exact Zv;apply put_m;exact hR;rotate_left;rintro _ dG ⟨gT,gO,U7⟩;rotate_right;(rintro _ zK ⟨rfl,hR,wJ⟩;have hX:Cv gx w (zK ⟨dx,ix,0⟩):=(by rw[wJ _ _ _ Zo hN];exact hX);have hF:=gN.val hF wJ))|fail)
 all_goals exact⟨_,_,tk2,rfl,lN,hT,hR,hX,hF⟩
theorem one_if(b:Bool)(z:Int)(c0:fZ c k w r0)(ht:FD c k w tr)(hf:FD c k w fr_):qF c k w [iz 4,bz b,iz z,.sl false 6 [r0],.sl false 6 tr,.sl false 6 fr_]:=by
 intro D d hp1 tk gx dx ix hR nD hX hD hN;refine hB (k1:=D+1) (PR:=yU c D dx ix hp1) Tryz.func237 rfl ?_;have hF:=gN.refl D dx ix hp1;have hT:=D5 tk;obtain⟨⟨rd,go,no,cL,eB,hO⟩,⟨V,hV,kC,kD⟩,hA⟩:=id hR;unfold bK at cL;obtain⟨l,hl,iJ,iR⟩:=id hX
 repeat' (first|refine ZN ?_|refine Z2 ?_ ?_|(intro h h';try simp[*,-h] at h')|(exact⟨gT,gO,gN.step hF U7⟩)|(exact⟨gT,gO,gN.val hF U7⟩)|((with_reducible apply Aq (f:=316));exact Zv;apply c0;exact hR;omega;exact hX;omega;exact hN;rotate_left;rintro _ dG ⟨gT,gO,U7⟩;rotate_right;(rintro _ If ⟨u,tk2,rfl,hu,mA,hR,hX,Ic⟩;have hF:=gN.val hF Ic;have hT:=Ve hT mA;obtain⟨⟨rd,go,no,cL,eB,hO⟩,⟨V,hV,kC,kD⟩,hA⟩:=id hR;unfold bK at cL;obtain⟨l,hl,iJ,iR⟩:=id hX))|((with_reducible apply Aq (f:=162));exact Zv;apply ht;exact hR;omega;exact hX;omega;exact hN;rotate_left;rintro _ dG ⟨gT,gO,U7⟩;rotate_right;(rintro _ zK ⟨u3,bb,tk3,rfl,hu3,DI,hR,hX,wJ⟩;have hF:=gN.step hF wJ;have hT:=Ve hT DI))|((with_reducible apply Aq (f:=162));exact Zv;apply hf;exact hR;omega;exact hX;omega;exact hN;rotate_left;rintro _ dG ⟨gT,gO,U7⟩;rotate_right;(rintro _ zK ⟨u3,bb,tk3,rfl,hu3,DI,hR,hX,wJ⟩;have hF:=gN.step hF wJ;have hT:=Ve hT DI))|fail)
 all_goals exact⟨u3,bb,tk3,rfl,hu3,hT,hR,hX,hF⟩
theorem Dua{er:List (List AV)}(b:Bool)(z:Int)(hw:WHp c k w [iz 5,bz b,iz z,.sl false 6 er,.sl false 6 tr,.sl false 6 fr_]):qF c k w [iz 5,bz b,iz z,.sl false 6 er,.sl false 6 tr,.sl false 6 fr_]:=by
 intro D d hp1 tk gx dx ix hR nD hX hD hN;refine hB (k1:=D+1) (PR:=yU c D dx ix hp1) Tryz.func237 rfl ?_;have hF:=gN.refl D dx ix hp1;have hT:=D5 tk;obtain⟨⟨rd,go,no,cL,eB,hO⟩,⟨V,hV,kC,kD⟩,hA⟩:=id hR;unfold bK at cL;obtain⟨l,hl,iJ,iR⟩:=id hX
 repeat' (first|refine ZN ?_|refine Z2 ?_ ?_|(intro h h';try simp[*,-h] at h')|(exact⟨gT,gO,gN.step hF U7⟩)|((with_reducible apply Aq (f:=319));exact Zv;apply hw;exact hR;omega;exact hX;omega;exact hN;rotate_left;rintro _ dG ⟨gT,gO,U7⟩;rotate_right;(rintro _ zK ⟨u3,bb,tk3,rfl,hu3,DI,hR,hX,wJ⟩;have hF:=gN.step hF wJ;have hT:=Ve hT DI))|fail)
 all_goals exact⟨u3,bb,tk3,rfl,hu3,hT,hR,hX,hF⟩
theorem G0a{rows:List (List AV)}(b:Bool)(hj:j<c.FR.length)(hc:yX c k w j rows):qF c k w [iz 6,bz b,iz j,.sl false 6 rows,.sl false 6 tr,.sl false 6 fr_]:=by
 intro D d hp1 tk gx dx ix hR nD hX hD hN;refine hB (k1:=D+1) (PR:=yU c D dx ix hp1) Tryz.func237 rfl ?_;have hF:=gN.refl D dx ix hp1;have hT:=D5 tk;obtain⟨⟨rd,go,no,cL,eB,hO⟩,⟨V,hV,kC,kD⟩,hA⟩:=id hR;unfold bK at cL;obtain⟨l,hl,iJ,iR⟩:=id hX;have hFr:=hR.fr
 repeat' (first|(first|((apply Df (c:=15) (idx:=[0,1,2,3,4,5,6,7,8,9,10,11,12,13,14]) (d:=139));kernel_rfl;kernel_rfl;simp only[T9,nT,Nh,X4,Rt,T7,X1];(repeat' (first|exact dL.nil|((with_reducible apply Ay);exact Zc)));exact rfl;exact Zc;exact Ok;decide;exact Zc;apply hc;exact hR;omega;exact hX;omega;exact hN;rotate_left;rintro _ dG ⟨gT,gO,U7⟩;rotate_right;(rintro _ If uK ⟨u,tk2,rfl,hu,mA,hR,hX,Ic⟩;have hF:=gN.val hF Ic;have hT:=Ve hT mA);refine Cb Zf ?_;(repeat (first|((with_reducible apply gP);exact Zc)|((with_reducible apply gQ);exact Zc)));(with_reducible apply A7);exact Dx [] Zz)|((apply Mt (c:=15) (idx:=[0,1,2,3,4,5,6,7,8,9,10,11,12,13,14]) (d:=139));kernel_rfl;kernel_rfl;simp only[T9,nT,Nh,X4,Rt,T7,X1];(repeat' (first|exact dL.nil|((with_reducible apply Ay);exact Zc)));exact rfl;exact Zc;exact Ok;decide;exact Zc;apply hc;exact hR;omega;exact hX;omega;exact hN;rotate_left;rintro _ dG ⟨gT,gO,U7⟩;rotate_right;(rintro _ If uK ⟨u,tk2,rfl,hu,mA,hR,hX,Ic⟩;have hF:=gN.val hF Ic;have hT:=Ve hT mA);refine Fi Zf ?_;(repeat (first|((with_reducible apply gP);exact Zc)|((with_reducible apply gQ);exact Zc)));(with_reducible apply A7);exact Dx [] Zz))|(refine Z1 ?_)|(refine Z2 ?_ ?_)|(intro h h';try simp[*,-h] at h')|(exact⟨gT,gO,gN.val hF U7⟩)|fail)
 all_goals exact⟨_,_,tk2,rfl,lN,hT,hR,hX,hF⟩
theorem Gza(b:Bool)(z:Int):qF c k w [iz 7,bz b,iz z,.sl false 6 [],.sl false 6 tr,.sl false 6 fr_]:=by
 intro D d hp1 tk gx dx ix hR nD hX hD hN;refine hB (k1:=D+1) (PR:=yU c D dx ix hp1) Tryz.func237 rfl ?_;have hF:=gN.refl D dx ix hp1;have hT:=D5 tk;obtain⟨⟨rd,go,no,cL,eB,hO⟩,⟨V,hV,kC,kD⟩,hA⟩:=id hR;unfold bK at cL;obtain⟨l,hl,iJ,iR⟩:=id hX
 repeat' first|refine ZN ?_|refine Z2 ?_ ?_|intro h h';try simp[*,-h] at h'
 all_goals exact⟨_,_,tk,rfl,lN,hT,hR,hX,hF⟩
theorem Gya(b:Bool)(z:Int)(c0:fZ c k w r0):qF c k w [iz 7,bz b,iz z,.sl false 6 [r0],.sl false 6 tr,.sl false 6 fr_]:=by
 intro D d hp1 tk gx dx ix hR nD hX hD hN;refine hB (k1:=D+1) (PR:=yU c D dx ix hp1) Tryz.func237 rfl ?_;have hF:=gN.refl D dx ix hp1;have hT:=D5 tk;obtain⟨⟨rd,go,no,cL,eB,hO⟩,⟨V,hV,kC,kD⟩,hA⟩:=id hR;unfold bK at cL;obtain⟨l,hl,iJ,iR⟩:=id hX
 repeat' (first|refine ZN ?_|refine Z2 ?_ ?_|(intro h h';try simp[*,-h] at h')|(exact⟨gT,gO,gN.val hF U7⟩)|((with_reducible apply Aq (f:=316));exact Zv;apply c0;exact hR;omega;exact hX;omega;exact hN;rotate_left;rintro _ dG ⟨gT,gO,U7⟩;rotate_right;(rintro _ If ⟨u,tk2,rfl,hu,mA,hR,hX,Ic⟩;have hF:=gN.val hF Ic;have hT:=Ve hT mA;obtain⟨⟨rd,go,no,cL,eB,hO⟩,⟨V,hV,kC,kD⟩,hA⟩:=id hR;unfold bK at cL;obtain⟨l,hl,iJ,iR⟩:=id hX))|fail)
 all_goals exact⟨u,_,tk2,rfl,hu,hT,hR,hX,hF⟩
end
section
open Go Go.Ab Go.Ab.Sy
theorem FD.mono {c:MK}{k k2 w:Nat}{rows:List (List AV)}(h:FD c k w rows)(hk:k2<=k):FD c k2 w rows:=
 fun D d hp1 tk gx dx ix hR nD hX hD hN=>h D d hp1 tk gx dx ix hR Zo hX hD hN
def HCp (c:MK)(k w:Nat)(ws:List Nat):Prop:= ∀j wj:Nat,ws[j]?=some wj->j<c.FR.length/\ ∀rows:List (List AV),rows.length<=wj->(∀r∈rows,fZ c k w r)->yX c k w j rows
mutual
theorem HQ {c:MK} {k w nv na:Nat} {fd:Sy.Fd} {ws:List Nat} (jC:c.fu<=4611686018427387904) (pQ:c.inp.size<=4611686018427387904) (vO:c.nv=nv) (pO:c.al.length=na) (aZ: ∀x∈c.al,x.2<4294967296) (HC:HCp c k w ws): ∀e:Sy.Ex,goE fd nv na w ws e->fZ c k w (prE fd e)
 | .mk k1 o n s l,h=>by
  rw[goE] at h;obtain⟨hn,h,hl⟩:=h;have hv:=Nj jC pQ vO pO aZ HC l hl;have aI:=Mg fd l;rw[Y9];generalize mV:iM fd l=rs at*;have h1:l.length=1-> ∃r0,rs=[r0]:=fun h=>len_1 (aI.trans h)
  have h2:l.length=2-> ∃r0 r1,rs=[r0,r1]:=fun h=>len_2 (aI.trans h)
  obtain⟨xF,rU⟩: ∃b,(fd s).1=b:=⟨_,rfl⟩;rcases h with rfl|⟨rfl,j,hj,hw⟩|⟨rfl,⟨j,hj,hw⟩,h3⟩|⟨rfl,j,wj,hj,hw,hl4⟩|rfl|⟨rfl,h3⟩|⟨rfl,h3⟩|⟨rfl,h3⟩|⟨rfl,h3⟩
  ·exact GY o n _ _ rs hn
  ·rw[hj];exact GX o n _ j rs (by subst vO;exact hw)
  ·obtain⟨r0,rfl⟩:=h1 h3
   rw[hj];exact C4a o n _ j r0 Zo aZ (hv _ Zi)
  ·obtain⟨hf,hc⟩:=HC j wj hw
   rw[hj];exact Fka o n _ j rs hf (hc rs Zo hv)
  ·exact HH o n _ _ rs pQ
  ·obtain⟨r0,r1,rfl⟩:=h2 h3
   exact val_op o n _ _ r0 r1 (hv _ Zi) (hv _ Zi)
  ·obtain⟨r0,rfl⟩:=h1 h3
   exact GZ o n _ _ r0 (hv _ Zi)
  ·obtain⟨r0,r1,rfl⟩:=h2 h3
   exact val_8 o n _ _ r0 r1 (hv _ Zi) (hv _ Zi)
  ·obtain⟨r0,r1,rfl⟩:=h2 h3
   exact val_9 o n _ _ r0 r1 (hv _ Zi) (hv _ Zi)
theorem Nj {c:MK} {k w nv na:Nat} {fd:Sy.Fd} {ws:List Nat} (jC:c.fu<=4611686018427387904) (pQ:c.inp.size<=4611686018427387904) (vO:c.nv=nv) (pO:c.al.length=na) (aZ: ∀x∈c.al,x.2<4294967296) (HC:HCp c k w ws): ∀l:List Sy.Ex,vS fd nv na w ws l-> ∀r∈iM fd l,fZ c k w r
 |[],h,r,hr=>by rw[iM] at hr;cases hr
 |e::l,h,r,hr=>by
  rw[vS] at h;rw[iM] at hr;rcases sV.1 hr with rfl|hr
  ·exact HQ jC pQ vO pO aZ HC e h.1
  ·exact Nj jC pQ vO pO aZ HC l h.2 r hr
end
mutual
theorem JU {c:MK} {k w nv na:Nat} {fd:Sy.Fd} {ws:List Nat} (jC:c.fu<=4611686018427387904) (pQ:c.inp.size<=4611686018427387904) (vO:c.nv=nv) (pO:c.al.length=na) (aZ: ∀x∈c.al,x.2<4294967296) (HC:HCp c k w ws): ∀e:Sy.St,e.size<=1073741824->goS fd nv na w ws e->qF c k w (prS fd e)
 | .mk k1 s e t f,hs,h=>by
  rw[goS] at h;obtain⟨h,he,ht,hf⟩:=h;rw[Bi] at hs;have hv:=Nj jC pQ vO pO aZ HC e he;have aI:=Mg fd e;have ht:=T0 jC pQ vO pO aZ HC t Zo ht;have hf:=T0 jC pQ vO pO aZ HC f Zo hf;rw[Y8];generalize mV:iM fd e=rs at*;have h1:e.length=1-> ∃r0,rs=[r0]:=fun h=>len_1 (aI.trans h)
  have h2:e.length=2-> ∃r0 r1,rs=[r0,r1]:=fun h=>len_2 (aI.trans h)
  rcases h with⟨rfl,⟨j,hj,hw⟩,h3⟩|⟨rfl,⟨j,hj,hw⟩,h3⟩|⟨rfl,h3⟩|⟨rfl,h3⟩|⟨rfl,h3⟩|⟨rfl,j,wj,hj,hw,hl4⟩|⟨rfl,h3⟩
  ·obtain⟨r0,rfl⟩:=h1 h3
   rw[hj]
   cases hb:(fd s).1 with
   |true=>rw[hb,Ka rfl] at hw;exact Gwa hw (hv _ Zi)
   |false=>rw[hb,Jx Zd] at hw;exact Gxa Zo (hv _ Zi)
  ·obtain⟨r0,r1,rfl⟩:=h2 h3
   rw[hj];exact Dva _ Zo aZ (hv _ Zi) (hv _ Zi)
  ·obtain⟨r0,rfl⟩:=h1 h3
   exact JT _ _ (hv _ Zi)
  ·obtain⟨r0,rfl⟩:=h1 h3
   exact one_if _ _ (hv _ Zi) ht hf
  ·obtain⟨r0,rfl⟩:=h1 h3
   exact Dua _ _ (GV _ _ _ (hv _ Zi) (fun k2 hk=>ht.mono Zo) jC)
  ·obtain⟨hf,hc⟩:=HC j wj hw
   rw[hj];exact G0a _ hf (hc rs Zo hv)
  ·by_cases h0:e.length=0
   ·have:rs=[]:=List.length_eq_zero_iff.1 (aI.trans h0)
    subst this;exact Gza _ _
   ·obtain⟨r0,rfl⟩:=h1 Zo
    exact Gya _ _ (hv _ Zi)
theorem V6 {c:MK} {k w nv na:Nat} {fd:Sy.Fd} {ws:List Nat} (jC:c.fu<=4611686018427387904) (pQ:c.inp.size<=4611686018427387904) (vO:c.nv=nv) (pO:c.al.length=na) (aZ: ∀x∈c.al,x.2<4294967296) (HC:HCp c k w ws): ∀l:List Sy.St,Ix l<=1073741824->qD fd nv na w ws l-> ∀r∈fM fd l,qF c k w r
 |[],hs,h,r,hr=>by rw[fM] at hr;cases hr
 |e::l,hs,h,r,hr=>by
  have h1:=Bp (Vc (a:=e) (l:=l));have h2:Ix l<=Ix (e::l):=Zi;rw[qD] at h;rw[fM] at hr;rcases sV.1 hr with rfl|hr
  ·exact JU jC pQ vO pO aZ HC e Zo h.1
  ·exact V6 jC pQ vO pO aZ HC l Zo h.2 r hr
theorem T0 {c:MK} {k w nv na:Nat} {fd:Sy.Fd} {ws:List Nat} (jC:c.fu<=4611686018427387904) (pQ:c.inp.size<=4611686018427387904) (vO:c.nv=nv) (pO:c.al.length=na) (aZ: ∀x∈c.al,x.2<4294967296) (HC:HCp c k w ws) (l:List Sy.St) (hs:Ix l<=1073741824) (h:qD fd nv na w ws l):FD c k w (fM fd l):=
 do_m (by have:=A9 l;simp only[Vw];omega) (V6 jC pQ vO pO aZ HC l hs h)
end
theorem MN {c:MK}{p:Sy.Pr}(jC:c.fu<=4611686018427387904)(pQ:c.inp.size<=4611686018427387904)(vO:c.nv=p.vars.length)(pO:c.al.length=p.arrays.length)(aZ: ∀x∈c.al,x.2<4294967296)(hFR:c.FR=p.funcs.map (yB p))
  (hg: ∀f∈p.funcs,qD (sD p f) p.vars.length p.arrays.length (bB f) (p.funcs.map bB) f.body) (hb: ∀f∈p.funcs,Ix f.body<=1048576/\bB f<=1048576): ∀(k:Nat) (f:Sy.Fu),f∈p.funcs->FD c k (bB f) (fM (sD p f) f.body):=by
 intro k
 induction k with
 |zero=>
  intro f hf;refine T0 jC pQ vO pO aZ (fun j wj hj=>?_) f.body (by have:=(hb f hf).1;omega) (hg f hf);rw[qY] at hj;obtain⟨g,qB,rfl⟩:=Ma.1 hj;have yN:c.FR[j]?=some (yB p g):=by rw[hFR,qY,qB];rfl
  refine⟨(Oh.1 yN).1,fun rows hl hr=>EE yN (by have:=(hb g (sM qB)).2;omega) hl hr (fun k2 hk=>absurd hk Zo) jC⟩
 |succ k ih=>
  intro f hf;refine T0 jC pQ vO pO aZ (fun j wj hj=>?_) f.body (by have:=(hb f hf).1;omega) (hg f hf);rw[qY] at hj;obtain⟨g,qB,rfl⟩:=Ma.1 hj;have yN:c.FR[j]?=some (yB p g):=by rw[hFR,qY,qB];rfl
  refine⟨(Oh.1 yN).1,fun rows hl hr=>EE yN (by have:=(hb g (sM qB)).2;omega) hl hr (fun k2 hk=>?_) jC⟩;have:k2=k:=Zo;subst this;exact ih g (sM qB)
end
section
open Go Go.Ab Go.Ab.Sy
variable {T:List Tok}{q n gx gy:Nat}
theorem Km (T:List Tok)(n:Nat):jX T n=(bW T 1 n).bind fun p=>
  (if Ig T p.2=lK then(Uu T 1 (p.2+1)).map fun q=>(Sy.St.mk 1 p.1.text [q.1] [] [],q.2)
  else if Ig T p.2=fO then(Uu T 1 (p.2+1)).bind fun q=>((I6 T bU q.2).bind (I6 T lK)).bind fun m=>(Uu T 1 m).map fun r=>(Sy.St.mk 2 p.1.text [q.1,r.1] [] [],r.2)
  else if Ig T p.2=Up then(eG T (p.2+1)).map fun q=>(Sy.St.mk 6 p.1.text q.1 [] [],q.2)
  else none).bind fun q=>(I6 T aJ q.2).map fun m=>(q.1,m):=by
 unfold jX;simp only[Acl]
theorem named{e:Int}(D:Nat)(hD:2<=D)(d:Nat)(hp1:Hp)(hr:Rd T e q gx gy n hp1):HB P0 Un (Lm bX) D d 483 [.ptr ⟨1,q,0⟩ gx 0] hp1 (RS (jX T n) T e q gx gy n D hp1) (Wn D q hp1 (jX T n=none)):=by
 obtain⟨k,rfl⟩: ∃k,D=k+2:=⟨D - 2,Zo⟩;clear hD;refine hZ (k1:=k+3) (PR:=Wn (k+2) q hp1 (jX T n=none)) Tryz.func483 rfl ?_;obtain⟨h1,h2,Ij,aI⟩:=hr
 repeat' (first|((apply Df (c:=2) (idx:=[0,1]) (d:=30));kernel_rfl;kernel_rfl;simp only[T9,nT,Nh,X4,Rt,T7,X1];(repeat' (first|exact dL.nil|((with_reducible apply Ay);exact Zc)));exact rfl;exact Zc;exact Oj;decide;exact Zc;apply K0 (k+3) Zo;decide;exact Zw;rotate_left;(rintro _ dG ⟨⟨⟨a,rfl⟩,U7⟩,dM⟩;simp only[qX] at dM);rotate_right;(rintro _ If uK ⟨⟨yk,yo,yn,ys,yl⟩,m3,rfl,hsy,kM,aO,⟨Ul,cT,_,Ub⟩,Ic⟩;have U1:=Ic.own Zo;have aB:=Ic.all (k:=k+2) Zo;clear Ic;simp only[Ag,A0] at*;simp only[qX] at hsy);refine Cb Zf ?_;(repeat (first|((with_reducible apply gP);exact Zc)|((with_reducible apply gQ);exact Zc)));(with_reducible apply A7);apply Be (ps:=[(0,1),(0,2)]);kernel_rfl;refine Zk ?_;refine ZA ?_;exact Zz)|((apply Mt (c:=2) (idx:=[0,1]) (d:=30));kernel_rfl;kernel_rfl;simp only[T9,nT,Nh,X4,Rt,T7,X1];(repeat' (first|exact dL.nil|((with_reducible apply Ay);exact Zc)));exact rfl;exact Zc;exact Oj;decide;exact Zc;apply K0 (k+3) Zo;decide;exact Zw;rotate_left;(rintro _ dG ⟨⟨⟨a,rfl⟩,U7⟩,dM⟩;simp only[qX] at dM);rotate_right;(rintro _ If uK ⟨⟨yk,yo,yn,ys,yl⟩,m3,rfl,hsy,kM,aO,⟨Ul,cT,_,Ub⟩,Ic⟩;have U1:=Ic.own Zo;have aB:=Ic.all (k:=k+2) Zo;clear Ic;simp only[Ag,A0] at*;simp only[qX] at hsy);refine Fi Zf ?_;(repeat (first|((with_reducible apply gP);exact Zc)|((with_reducible apply gQ);exact Zc)));(with_reducible apply A7);apply Be (ps:=[(0,1),(0,2)]);kernel_rfl;refine Zk ?_;refine ZA ?_;exact Zz)|(refine Z1 ?_)|(refine Z2 ?_ ?_)|(intro h h';try simp[*,-h] at h')|(exact⟨⟨⟨_,rfl⟩,fun d i c hd Ir=>(U7 d i c Zo Ir).trans (by have Uc:d≠k+3:=Zo;first|exact HF.out d i c hd Ir|(simp[*];done)|(simp[*];exact HF.out d i c hd Ir))⟩,by(rw[Km];simp[*,cH,Up,Uo,cM,fO,bU,Ug,fL,aA,nV,dI,bE,dP,aT,cR,bN,aJ,lK,aH,eH])⟩)|((with_reducible apply Ap (f:=220));exact Zv;apply BY (k+3) Zo;decide;exact Zw;(rintro _ If (⟨rfl,qK,⟨Ul,cT,_,_⟩,Ic⟩|⟨rfl,qK,aO,⟨Ul,cT,_,Ub⟩,Ic⟩)<;>(have U1:=Ic.own Zo;have aB:=Ic.all (k:=k+2) Zo;clear Ic)))|((with_reducible apply Aq (f:=223));exact Zv;apply Jm (k+3) Zo;exact Zc;decide;exact Zw;rotate_left;rintro _ dG ⟨⟨⟨a,rfl⟩,U7⟩,dM⟩;rotate_right;(rintro _ If ⟨rfl,AG,aO,⟨Ul,cT,_,Ub⟩,Ic⟩;have U1:=Ic.own Zo;have aB:=Ic.all (k:=k+2) Zo;clear Ic))|((with_reducible apply Aq (f:=223));exact Zv;apply BV (k+3) Zo;exact Zc;decide;decide;exact Zw;rotate_left;rintro _ dG ⟨⟨⟨a,rfl⟩,U7⟩,dM⟩;rotate_right;(rintro _ If ⟨rfl,AG,aO,⟨Ul,cT,_,Ub⟩,Ic⟩;have U1:=Ic.own Zo;have aB:=Ic.all (k:=k+2) Zo;clear Ic))|((with_reducible apply Aq (f:=222));exact Zv;apply take (k+3) Zo;decide;exact Zw;rotate_left;rintro _ dG ⟨⟨⟨a,rfl⟩,U7⟩,dM⟩;rotate_right;(rintro _ If ⟨⟨tk2,tt2,tn2,ta2⟩,rfl,dN,aO,⟨Ul,cT,_,Ub⟩,Ic⟩;have U1:=Ic.own Zo;have aB:=Ic.all (k:=k+2) Zo;clear Ic;simp only[Tok.row_mk]))|((with_reducible apply Aq (f:=481));exact Zv;apply K0 (k+3) Zo;omega;exact Zw;rotate_left;(rintro _ dG ⟨⟨⟨a,rfl⟩,U7⟩,dM⟩;simp only[qX] at dM);rotate_right;(rintro _ If ⟨⟨xk,xo,xn,xs,xl⟩,m2,rfl,sR,kM,aO,⟨Ul,cT,_,Ub⟩,Ic⟩;have U1:=Ic.own Zo;have aB:=Ic.all (k:=k+2) Zo;clear Ic;simp only[Ag,A0] at*;simp only[qX] at sR))|((with_reducible apply Aq (f:=526));exact Zv;apply Cna (k+3) Zo;exact Zw;rotate_left;rintro _ dG ⟨⟨⟨a,rfl⟩,U7⟩,dM⟩;rotate_right;(rintro _ If ⟨xl,m2,rfl,sR,kM,aO,⟨Ul,cT,_,Ub⟩,Ic⟩;have U1:=Ic.own Zo;have aB:=Ic.all (k:=k+2) Zo;clear Ic))|((with_reducible apply Aq (f:=219));exact Zv;apply fail (k+3) Zo;exact Zw;rotate_left;rintro _ dG ⟨⟨a,rfl⟩,U7⟩;rotate_right;(rintro _ _ Ic;exact Ic.elim))|fail)
 ·exact⟨.mk 6 tt2 xl [] [],m2+1,Zm,by(rw[Km];simp[*,cH,Up,Uo,cM,fO,bU,Ug,fL,aA,nV,dI,bE,dP,aT,cR,bN,aJ,lK,aH,eH]),by(try simp);try omega,Zo,⟨Zm,Zm,Ij,Zo⟩,fun d i c hd Ir=>by have Uc:d≠k+3:=Zo;simp[*]⟩
 ·exact⟨.mk 2 tt2 [.mk xk xo xn xs xl,.mk yk yo yn ys yl] [] [],m3+1,Zm,by(rw[Km];simp[*,cH,Up,Uo,cM,fO,bU,Ug,fL,aA,nV,dI,bE,dP,aT,cR,bN,aJ,lK,aH,eH]),by(try simp);try omega,Zo,⟨Zm,Zm,Ij,Zo⟩,fun d i c hd Ir=>by have Uc:d≠k+3:=Zo;simp[*]⟩
 ·exact⟨.mk 1 tt2 [.mk xk xo xn xs xl] [] [],m2+1,Zm,by(rw[Km];simp[*,cH,Up,Uo,cM,fO,bU,Ug,fL,aA,nV,dI,bE,dP,aT,cR,bN,aJ,lK,aH,eH]),by(try simp);try omega,Zo,⟨Zm,Zm,Ij,Zo⟩,fun d i c hd Ir=>by have Uc:d≠k+3:=Zo;simp[*]⟩
theorem stmt_w{e:Int}(D:Nat)(hD:2<=D)(d:Nat)(hp1:Hp)(ihB: ∀(D:Nat) (hD:2<=D) (d:Nat) (hp1:Hp) {n2:Nat} (hr:Rd T e q gx gy n2 hp1) (hn:n<n2),HB P0 Un (Lm bX) D d 482 [.ptr ⟨1,q,0⟩ gx 0] hp1 (RSL (gY T n2) T e q gx gy n2 D hp1) (Wn D q hp1 (gY T n2=none)))(hr:Rd T e q gx gy n hp1):HB P0 Un (Lm bX) D d 395 [.ptr ⟨1,q,0⟩ gx 0] hp1 (RS (fG T n) T e q gx gy n D hp1) (Wn D q hp1 (fG T n=none)):=by
 obtain⟨k,rfl⟩: ∃k,D=k+2:=⟨D - 2,Zo⟩;clear hD;refine hZ (k1:=k+3) (PR:=Wn (k+2) q hp1 (fG T n=none)) Tryz.func395 rfl ?_;obtain⟨h1,h2,Ij,aI⟩:=hr
 repeat' (first|refine ZN ?_|refine Z2 ?_ ?_|(intro h h';try simp[*,-h] at h')|(exact⟨⟨⟨_,rfl⟩,fun d i c hd Ir=>(U7 d i c Zo Ir).trans (by have Uc:d≠k+3:=Zo;first|exact HF.out d i c hd Ir|(simp[*];done)|(simp[*];exact HF.out d i c hd Ir))⟩,by(rw[A3];simp[*,cH,Up,Uo,cM,fO,bU,Ug,fL,aA,nV,dI,bE,dP,aT,cR,bN,aJ,lK,aH,eH,e0])⟩)|((with_reducible apply Ap (f:=220));exact Zv;apply BY (k+3) Zo;decide;exact Zw;(rintro _ If (⟨rfl,qK,⟨Ul,cT,_,_⟩,Ic⟩|⟨rfl,qK,aO,⟨Ul,cT,_,Ub⟩,Ic⟩)<;>(have U1:=Ic.own Zo;have aB:=Ic.all (k:=k+2) Zo;clear Ic)))|((with_reducible apply Aq (f:=223));exact Zv;apply Jm (k+3) Zo;exact Zc;decide;exact Zw;rotate_left;rintro _ dG ⟨⟨⟨a,rfl⟩,U7⟩,dM⟩;rotate_right;(rintro _ If ⟨rfl,AG,aO,⟨Ul,cT,_,Ub⟩,Ic⟩;have U1:=Ic.own Zo;have aB:=Ic.all (k:=k+2) Zo;clear Ic))|((with_reducible apply Aq (f:=223));exact Zv;apply BV (k+3) Zo;exact Zc;decide;decide;exact Zw;rotate_left;rintro _ dG ⟨⟨⟨a,rfl⟩,U7⟩,dM⟩;rotate_right;(rintro _ If ⟨rfl,AG,aO,⟨Ul,cT,_,Ub⟩,Ic⟩;have U1:=Ic.own Zo;have aB:=Ic.all (k:=k+2) Zo;clear Ic))|((with_reducible apply Aq (f:=222));exact Zv;apply take (k+3) Zo;decide;exact Zw;rotate_left;rintro _ dG ⟨⟨⟨a,rfl⟩,U7⟩,dM⟩;rotate_right;(rintro _ If ⟨⟨tk2,tt2,tn2,ta2⟩,rfl,dN,aO,⟨Ul,cT,_,Ub⟩,Ic⟩;have U1:=Ic.own Zo;have aB:=Ic.all (k:=k+2) Zo;clear Ic;simp only[Tok.row_mk]))|((with_reducible apply Aq (f:=481));exact Zv;apply K0 (k+3) Zo;omega;exact Zw;rotate_left;(rintro _ dG ⟨⟨⟨a,rfl⟩,U7⟩,dM⟩;simp only[qX] at dM);rotate_right;(rintro _ If ⟨⟨xk,xo,xn,xs,xl⟩,m2,rfl,sR,kM,aO,⟨Ul,cT,_,Ub⟩,Ic⟩;have U1:=Ic.own Zo;have aB:=Ic.all (k:=k+2) Zo;clear Ic;simp only[Ag,A0] at*;simp only[qX] at sR))|((with_reducible apply Aq (f:=526));exact Zv;apply Cna (k+3) Zo;exact Zw;rotate_left;rintro _ dG ⟨⟨⟨a,rfl⟩,U7⟩,dM⟩;rotate_right;(rintro _ If ⟨xl,m2,rfl,sR,kM,aO,⟨Ul,cT,_,Ub⟩,Ic⟩;have U1:=Ic.own Zo;have aB:=Ic.all (k:=k+2) Zo;clear Ic))|((with_reducible apply Aq (f:=219));exact Zv;apply fail (k+3) Zo;exact Zw;rotate_left;rintro _ dG ⟨⟨a,rfl⟩,U7⟩;rotate_right;(rintro _ _ Ic;exact Ic.elim))|((with_reducible apply Aq (f:=480));exact Zv;apply round (k+3) Zo;exact Zw;rotate_left;rintro _ dG ⟨⟨⟨a,rfl⟩,U7⟩,dM⟩;rotate_right;(rintro _ If ⟨rx,m2,rfl,hsr,kM,aO,⟨Ul,cT,_,Ub⟩,Ic⟩;have U1:=Ic.own Zo;have aB:=Ic.all (k:=k+2) Zo;clear Ic))|((fail_if_success (have xM:=bl));((with_reducible apply Aq (f:=482));exact Zv;apply ihB (k+3) Zo;exact Zw;omega;rotate_left;rintro _ dG ⟨⟨⟨a,rfl⟩,U7⟩,dM⟩;rotate_right;(rintro _ If ⟨bl,m2,rfl,hsB,kM,aO,⟨Ul,cT,_,Ub⟩,Ic⟩;have U1:=Ic.own Zo;have aB:=Ic.all (k:=k+2) Zo;clear Ic)))|((with_reducible apply Aq (f:=482));exact Zv;apply ihB (k+3) Zo;exact Zw;omega;rotate_left;rintro _ dG ⟨⟨⟨a,rfl⟩,U7⟩,dM⟩;rotate_right;(rintro _ If ⟨bl2,m2,rfl,hsB2,kM,aO,⟨Ul,cT,_,Ub⟩,Ic⟩;have U1:=Ic.own Zo;have aB:=Ic.all (k:=k+2) Zo;clear Ic))|((with_reducible apply Aq (f:=483));exact Zv;apply named (k+3) Zo;exact Zw;rotate_left;rintro _ dG ⟨⟨⟨a,rfl⟩,U7⟩,dM⟩;rotate_right;(rintro _ If ⟨⟨sk,sn,se,sth,sel⟩,m2,rfl,hsS,kM,aO,⟨Ul,cT,_,Ub⟩,Ic⟩;have U1:=Ic.own Zo;have aB:=Ic.all (k:=k+2) Zo;clear Ic;simp only[Bo,Bi] at*))|fail)
 ·exact⟨.mk sk sn se sth sel,m2,Zm,by(rw[A3];simp[*,cH,Up,Uo,cM,fO,bU,Ug,fL,aA,nV,dI,bE,dP,aT,cR,bN,aJ,lK,aH,eH,e0]),by(try simp);try omega,Zo,⟨Zm,Zm,Ij,Zo⟩,fun d i c hd Ir=>by have Uc:d≠k+3:=Zo;simp[*]⟩
 ·exact⟨.mk 5 gD [rx] bl [],m2,Zm,by(rw[A3];simp[*,cH,Up,Uo,cM,fO,bU,Ug,fL,aA,nV,dI,bE,dP,aT,cR,bN,aJ,lK,aH,eH,e0]),by(try simp);try omega,Zo,⟨Zm,Zm,Ij,Zo⟩,fun d i c hd Ir=>by have Uc:d≠k+3:=Zo;simp[*]⟩
 ·exact⟨.mk 4 gD [rx] bl [],m2,Zm,by(rw[A3];simp[*,cH,Up,Uo,cM,fO,bU,Ug,fL,aA,nV,dI,bE,dP,aT,cR,bN,aJ,lK,aH,eH,e0]),by(try simp);try omega,Zo,⟨Zm,Zm,Ij,Zo⟩,fun d i c hd Ir=>by have Uc:d≠k+3:=Zo;simp[*]⟩
 ·exact⟨.mk 4 gD [rx] bl bl2,m2,Zm,by(rw[A3];simp[*,cH,Up,Uo,cM,fO,bU,Ug,fL,aA,nV,dI,bE,dP,aT,cR,bN,aJ,lK,aH,eH,e0]),by(try simp);try omega,Zo,⟨Zm,Zm,Ij,Zo⟩,fun d i c hd Ir=>by have Uc:d≠k+3:=Zo;simp[*]⟩
 ·exact⟨.mk 7 gD [.mk xk xo xn xs xl] [] [],m2+1,Zm,by(rw[A3];simp[*,cH,Up,Uo,cM,fO,bU,Ug,fL,aA,nV,dI,bE,dP,aT,cR,bN,aJ,lK,aH,eH,e0]),by(try simp);try omega,Zo,⟨Zm,Zm,Ij,Zo⟩,fun d i c hd Ir=>by have Uc:d≠k+3:=Zo;simp[*]⟩
 ·exact⟨.mk 7 gD [] [] [],n+1+1,Zm,by(rw[A3];simp[*,cH,Up,Uo,cM,fO,bU,Ug,fL,aA,nV,dI,bE,dP,aT,cR,bN,aJ,lK,aH,eH,e0]),by(try simp);try omega,Zo,⟨Zm,Zm,Ij,Zo⟩,fun d i c hd Ir=>by have Uc:d≠k+3:=Zo;simp[*]⟩
 ·exact⟨.mk 3 gD [rx] [] [],m2+1,Zm,by(rw[A3];simp[*,cH,Up,Uo,cM,fO,bU,Ug,fL,aA,nV,dI,bE,dP,aT,cR,bN,aJ,lK,aH,eH,e0]),by(try simp);try omega,Zo,⟨Zm,Zm,Ij,Zo⟩,fun d i c hd Ir=>by have Uc:d≠k+3:=Zo;simp[*]⟩
theorem Dda (T:List Tok)(e:Int)(q gx gy:Nat): ∀m n:Nat,T.length+1 - n<=m->
  (∀(D:Nat) (hD:2<=D) (d:Nat) (hp1:Hp) (hr:Rd T e q gx gy n hp1),HB P0 Un (Lm bX) D d 482 [.ptr ⟨1,q,0⟩ gx 0] hp1 (RSL (gY T n) T e q gx gy n D hp1) (Wn D q hp1 (gY T n=none)))/\
  (∀(D:Nat) (hD:2<=D) (d:Nat) (hp1:Hp) (hr:Rd T e q gx gy n hp1),HB P0 Un (Lm bX) D d 395 [.ptr ⟨1,q,0⟩ gx 0] hp1 (RS (fG T n) T e q gx gy n D hp1) (Wn D q hp1 (fG T n=none)))/\
  (∀(D:Nat) (hD:2<=D) (d:Nat) (hp1:Hp) (hr:Rd T e q gx gy n hp1),HB P0 Un (Lm bX) D d 299 [.ptr ⟨1,q,0⟩ gx 0] hp1 (RSL (cP T [] n) T e q gx gy n D hp1) (Wn D q hp1 (cP T [] n=none))):=by
 intro m
 induction m using Nat.strongRecOn with
 |_ m ih=>
  intro n hm;have hS: ∀(D:Nat) (hD:2<=D) (d:Nat) (hp1:Hp) (hr:Rd T e q gx gy n hp1),HB P0 Un (Lm bX) D d 395 [.ptr ⟨1,q,0⟩ gx 0] hp1 (RS (fG T n) T e q gx gy n D hp1) (Wn D q hp1 (fG T n=none)):=
   fun D hD d hp1 hr=>stmt_w D hD d hp1 (fun D hD d hp1 n2 hr hn=>(ih (T.length+1 - n2) (by have:=hr.le;omega) n2 (D5 _)).1 D hD d hp1 hr) hr
  exact⟨fun D hD d hp1 hr=>body_w D hD d hp1 (fun D hD d hp1 n2 hr hn=>(ih (T.length+1 - n2) (by have:=hr.le;omega) n2 (D5 _)).2.2 D hD d hp1 hr) hr,hS,
   fun D hD d hp1 hr=>IK D hD d hp1 (fun D hD d hp1 n2 hr hn=>by
    by_cases h:n=n2
    ·subst h;exact hS D hD d hp1 hr
    ·exact(ih (T.length+1 - n2) (by have:=hr.le;omega) n2 (D5 _)).2.1 D hD d hp1 hr) hr⟩
theorem F4a{e:Int}(D:Nat)(hD:2<=D)(d:Nat)(hp1:Hp)(hr:Rd T e q gx gy n hp1):HB P0 Un (Lm bX) D d 299 [.ptr ⟨1,q,0⟩ gx 0] hp1 (RSL (cP T [] n) T e q gx gy n D hp1) (Wn D q hp1 (cP T [] n=none)):=
 (Dda T e q gx gy _ n (D5 _)).2.2 D hD d hp1 hr
end
section
open Go Go.Ab Go.Ab.Sy
def DU (T:List Tok)(n:Nat):Option (Sy.Fu×Nat):=(I6 T cR n).bind (kK T)
theorem Fw (T:List Tok)(n:Nat):yE T n=kV T [] n:=rfl
def RF (T:List Tok)(e:Int)(q gx gy n D:Nat)(hp1:Hp)(v:AV)(If:Hp):Prop:= ∃(x:Sy.Fu) (n2:Nat),v= .agg x.row/\DU T n=some (x,n2)/\n+x.size<=n2/\n<n2/\Rd T e q gx gy n2 If/\mZ D q hp1 If
theorem DS {T:List Tok}{e:Int}{q n gx gy:Nat}(D:Nat)(hD:2<=D)(d:Nat)(hp1:Hp)(hr:Rd T e q gx gy n hp1):HB P0 Un (Lm bX) D d 224 [.ptr ⟨1,q,0⟩ gx 0] hp1 (RF T e q gx gy n D hp1) (Wn D q hp1 (DU T n=none)):=by
 obtain⟨k,rfl⟩: ∃k,D=k+2:=⟨D - 2,Zo⟩;clear hD;refine hZ (k1:=k+3) (PR:=Wn (k+2) q hp1 (DU T n=none)) Tryz.func224 rfl ?_;obtain⟨h1,h2,Ij,aI⟩:=hr
 repeat' (first|refine ZN ?_|refine Z2 ?_ ?_|(intro h h';try simp[*,-h] at h')|(exact⟨⟨⟨_,rfl⟩,fun d i c hd Ir=>(U7 d i c Zo Ir).trans (by have Uc:d≠k+3:=Zo;first|exact HF.out d i c hd Ir|(simp[*];done)|(simp[*];exact HF.out d i c hd Ir))⟩,by(unfold DU kK dQ;simp[*,Fw,cH,Up,Uo,cM,fO,bU,Ug,fL,aA,nV,dI,bE,dP,aT,cR,bN,aJ,lK,aH,eH])⟩)|((with_reducible apply Ap (f:=220));exact Zv;apply BY (k+3) Zo;decide;exact Zw;(rintro _ If (⟨rfl,qK,⟨Ul,cT,_,_⟩,Ic⟩|⟨rfl,qK,aO,⟨Ul,cT,_,Ub⟩,Ic⟩)<;>(have U1:=Ic.own Zo;have aB:=Ic.all (k:=k+2) Zo;clear Ic)))|((with_reducible apply Aq (f:=223));exact Zv;apply Jm (k+3) Zo;exact Zc;decide;exact Zw;rotate_left;rintro _ dG ⟨⟨⟨a,rfl⟩,U7⟩,dM⟩;rotate_right;(rintro _ If ⟨rfl,AG,aO,⟨Ul,cT,_,Ub⟩,Ic⟩;have U1:=Ic.own Zo;have aB:=Ic.all (k:=k+2) Zo;clear Ic))|((with_reducible apply Aq (f:=222));exact Zv;apply take (k+3) Zo;decide;exact Zw;rotate_left;rintro _ dG ⟨⟨⟨a,rfl⟩,U7⟩,dM⟩;rotate_right;(rintro _ If ⟨⟨tk2,tt2,tn2,ta2⟩,rfl,dN,aO,⟨Ul,cT,_,Ub⟩,Ic⟩;have U1:=Ic.own Zo;have aB:=Ic.all (k:=k+2) Zo;clear Ic;simp only[Tok.row_mk]))|((with_reducible apply Ap (f:=298));exact Zv;apply kind (k+3) Zo;exact Zw;(rintro _ If ⟨rfl,⟨Ul,cT,_,_⟩,Ic⟩;have U1:=Ic.own Zo;have aB:=Ic.all (k:=k+2) Zo;clear Ic))|((with_reducible apply Aq (f:=221));exact Zv;apply tN (k+3) Zo;exact Zw;rotate_left;rintro _ dG ⟨⟨⟨a,rfl⟩,U7⟩,dM⟩;rotate_right;(rintro _ If ⟨nl2,m2,rfl,hsN,kM,aO,⟨Ul,cT,_,Ub⟩,Ic⟩;have U1:=Ic.own Zo;have aB:=Ic.all (k:=k+2) Zo;clear Ic))|fail)
 all_goals (refine Ac (n:=T.length+1 - n) (fun s0 m s=> ∃(n2 g2 g5:Nat) (ls ps:List Tx) (c1:AV) (w:Bool) (nm:Tx),T.length+1 - n2<=m/\n+ps.length+ls.length+1<=n2/\DU T n=((kV T ls n2).bind fun r=>(cP T [] r.2).map fun s=>((⟨nm,ps,r.1,w,s.1⟩:Sy.Fu),s.2))/\s.fr 0= .ptr ⟨1,q,0⟩ gx 0/\s.fr 2= .ptr ⟨k+3,2,0⟩ ((hp1 ⟨k+3,2,0⟩).gen+1) 0/\s.fr 3= .ptr ⟨k+3,3,0⟩ ((hp1 ⟨k+3,3,0⟩).gen+1) 0/\
   s.hp ⟨k+3,3,0⟩= .box ((hp1 ⟨k+3,3,0⟩).gen+1) [tv nm,c1,.own ⟨k+3,3,3⟩ g2 ls.length,bv w,.own ⟨k+3,3,5⟩ g5 0] false/\s.hp ⟨k+3,3,3⟩= .arr g2 1 9 (Ib ls) false/\s.hp ⟨k+3,3,5⟩= .arr g5 5 105 [] false/\
   (c1= .sl false 1 (Ib ps)\/(ps=[]/\ ∃g',c1= .own ⟨k+3,3,2⟩ g' 0/\s.hp ⟨k+3,3,2⟩= .arr g' 1 9 [] false))/\
   s.hp ⟨k+3,2,0⟩= .box ((hp1 ⟨k+3,2,0⟩).gen+1) [tv ⟨⟨[]⟩⟩,.own ⟨k+3,2,2⟩ ((hp1 ⟨k+3,2,2⟩).gen+1) 0,.own ⟨k+3,2,3⟩ ((hp1 ⟨k+3,2,3⟩).gen+1) 0,bv false,.own ⟨k+3,2,5⟩ ((hp1 ⟨k+3,2,5⟩).gen+1) 0] false/\Rd T e q gx gy n2 s.hp/\mZ (k+2) q hp1 s.hp) ?_ ?_;(first
  |(exact⟨m2+1+1+1,(hp1 ⟨k+3,3,3⟩).gen+1,(hp1 ⟨k+3,3,5⟩).gen+1,[],nl2,.sl false 1 (Ib nl2),true,tt2,Zo,by(try simp);try omega,by(unfold DU kK dQ;simp[*,Fw,cH,Up,Uo,cM,fO,bU,Ug,fL,aA,nV,dI,bE,dP,aT,cR,bN,aJ,lK,aH,eH]),Zm,Zm,Zm,by simp[*];done,Zm,Zm,.inl rfl,Zm,⟨by simp[*];done,Zm,Ij,Zo⟩,fun d i c hd Ir=>by have Uc:d≠k+3:=Zo;simp[*]⟩)
  |(exact⟨m2+1+1,(hp1 ⟨k+3,3,3⟩).gen+1,(hp1 ⟨k+3,3,5⟩).gen+1,[],nl2,.sl false 1 (Ib nl2),false,tt2,Zo,by(try simp);try omega,by(unfold DU kK dQ;simp[*,Fw,cH,Up,Uo,cM,fO,bU,Ug,fL,aA,nV,dI,bE,dP,aT,cR,bN,aJ,lK,aH,eH]),Zm,Zm,Zm,by simp[*];done,Zm,Zm,.inl rfl,Zm,⟨by simp[*];done,Zm,Ij,Zo⟩,fun d i c hd Ir=>by have Uc:d≠k+3:=Zo;simp[*]⟩)
  |(exact⟨n+1+1+1+1+1+1,(hp1 ⟨k+3,3,3⟩).gen+1,(hp1 ⟨k+3,3,5⟩).gen+1,[],[],.own ⟨k+3,3,2⟩ ((hp1 ⟨k+3,3,2⟩).gen+1) 0,true,tt2,Zo,by(try simp);try omega,by(unfold DU kK dQ;simp[*,Fw,cH,Up,Uo,cM,fO,bU,Ug,fL,aA,nV,dI,bE,dP,aT,cR,bN,aJ,lK,aH,eH]),Zm,Zm,Zm,by simp[*];done,Zm,Zm,.inr ⟨rfl,_,rfl,Zm⟩,Zm,⟨by simp[*];done,Zm,Ij,Zo⟩,fun d i c hd Ir=>by have Uc:d≠k+3:=Zo;simp[*]⟩)
  |(exact⟨n+1+1+1+1+1,(hp1 ⟨k+3,3,3⟩).gen+1,(hp1 ⟨k+3,3,5⟩).gen+1,[],[],.own ⟨k+3,3,2⟩ ((hp1 ⟨k+3,3,2⟩).gen+1) 0,false,tt2,Zo,by(try simp);try omega,by(unfold DU kK dQ;simp[*,Fw,cH,Up,Uo,cM,fO,bU,Ug,fL,aA,nV,dI,bE,dP,aT,cR,bN,aJ,lK,aH,eH]),Zm,Zm,Zm,by simp[*];done,Zm,Zm,.inr ⟨rfl,_,rfl,Zm⟩,Zm,⟨by simp[*];done,Zm,Ij,Zo⟩,fun d i c hd Ir=>by have Uc:d≠k+3:=Zo;simp[*]⟩)))
 all_goals clear h1 h2 Ul cT U1 aB
 all_goals rintro m ⟨fr,hp⟩ ⟨n2,g2,g5,ls,ps,c1,w,nm,hmm,qL,hsi,f0,f2,f3,b3,a3,a5,AN,b2,⟨hb,ha,_,jY⟩,Uf⟩
 all_goals simp at f0 f2 f3 b3 a3 a5 AN b2 ha Uf
 all_goals simp only at hb
 all_goals have HF:=Lib.hid Uf
 all_goals have LS:=Lib.hid hsi
 all_goals clear Uf hsi
 all_goals have t3:=D8 ls
 all_goals rcases AN with rfl|⟨rfl,g',rfl,a2⟩
 all_goals
  repeat' (first|((apply Df (c:=3) (idx:=[0,1,2]) (d:=34));kernel_rfl;kernel_rfl;simp only[T9,nT,Nh,X4,Rt,T7,X1];(repeat' (first|exact dL.nil|((with_reducible apply Ay);exact Zc)));exact rfl;exact Zc;exact V8;decide;exact Zc;apply tN (k+3) Zo;exact Zw;rotate_left;rintro _ dG ⟨⟨⟨a,rfl⟩,U7⟩,dM⟩;rotate_right;(rintro _ If uK ⟨nl3,m2,rfl,hsN,kM,aO,⟨Ul,cT,_,Ub⟩,Ic⟩;have U1:=Ic.own Zo;have aB:=Ic.all (k:=k+2) Zo;clear Ic;have b1:(ls.length+nl3.length)*16<=140737488355328:=Zo;have b2:ls.length+nl3.length<=9223372036854775807:=Zo);refine Cb Zf ?_;(repeat (first|((with_reducible apply gP);exact Zc)|((with_reducible apply gQ);exact Zc)));(with_reducible apply A7);apply Be (ps:=[(0,2),(1,2),(0,3),(1,3)]);kernel_rfl;(iterate 2 refine Zk ?_);refine ZA ?_;refine ZA ?_;exact Zz)|(refine Z1 ?_)|(refine Z2 ?_ ?_)|(intro h h';try simp[*,-h] at h')|(exact⟨⟨⟨_,rfl⟩,fun d i c hd Ir=>(U7 d i c Zo Ir).trans (by have Uc:d≠k+3:=Zo;first|exact HF.out d i c hd Ir|(simp[*];done)|(simp[*];exact HF.out d i c hd Ir))⟩,by(rw[LS.out,Ca];simp[*,cH,Up,Uo,cM,fO,bU,Ug,fL,aA,nV,dI,bE,dP,aT,cR,bN,aJ,lK,aH,eH])⟩)|((with_reducible apply Ap (f:=220));exact Zv;apply BY (k+3) Zo;decide;exact Zw;(rintro _ If (⟨rfl,qK,⟨Ul,cT,_,_⟩,Ic⟩|⟨rfl,qK,aO,⟨Ul,cT,_,Ub⟩,Ic⟩)<;>(have U1:=Ic.own Zo;have aB:=Ic.all (k:=k+2) Zo;clear Ic)))|((with_reducible apply Aq (f:=223));exact Zv;apply Jm (k+3) Zo;exact Zc;decide;exact Zw;rotate_left;rintro _ dG ⟨⟨⟨a,rfl⟩,U7⟩,dM⟩;rotate_right;(rintro _ If ⟨rfl,AG,aO,⟨Ul,cT,_,Ub⟩,Ic⟩;have U1:=Ic.own Zo;have aB:=Ic.all (k:=k+2) Zo;clear Ic))|((with_reducible apply Aq (f:=299));exact Zv;apply F4a (k+3) Zo;exact Zw;rotate_left;rintro _ dG ⟨⟨⟨a,rfl⟩,U7⟩,dM⟩;rotate_right;(rintro _ If ⟨sl,m2,rfl,hsL,kM,aO,⟨Ul,cT,_,Ub⟩,Ic⟩;have U1:=Ic.own Zo;have aB:=Ic.all (k:=k+2) Zo;clear Ic))|fail)
 all_goals have Uf:=HF.out
 all_goals first
  |(exact⟨⟨nm,ps,ls,w,sl⟩,m2,by simp[Sy.Fu.row, *],by(rw[LS.out,Ca];simp[*,cH,Up,Uo,cM,fO,bU,Ug,fL,aA,nV,dI,bE,dP,aT,cR,bN,aJ,lK,aH,eH]),by(try simp[Sy.Fu.size] at*);omega,Zo,⟨Zm,Zm,Ij,Zo⟩,fun d i c hd Ir=>by have Uc:d≠k+3:=Zo;simp[*];exact Uf d i c hd Ir⟩)
  |(exact⟨⟨nm,[],ls,w,sl⟩,m2,by simp[Sy.Fu.row, *],by(rw[LS.out,Ca];simp[*,cH,Up,Uo,cM,fO,bU,Ug,fL,aA,nV,dI,bE,dP,aT,cR,bN,aJ,lK,aH,eH]),by(try simp[Sy.Fu.size] at*);omega,Zo,⟨Zm,Zm,Ij,Zo⟩,fun d i c hd Ir=>by have Uc:d≠k+3:=Zo;simp[*];exact Uf d i c hd Ir⟩)
  |(exact⟨T.length+1 - (m2+1),Zo,m2+1,g2+1,g5,ls++nl3,ps,.sl false 1 (Ib ps),w,nm,Zo,by(try simp at*);omega,by(rw[LS.out,Ca];simp[*,cH,Up,Uo,cM,fO,bU,Ug,fL,aA,nV,dI,bE,dP,aT,cR,bN,aJ,lK,aH,eH]),Zm,Zm,Zm,by simp[*];done,Zm,Zm,.inl rfl,Zm,⟨by simp[*];done,Zm,Ij,Zo⟩,fun d i c hd Ir=>by have Uc:d≠k+3:=Zo;simp[*];exact Uf d i c hd Ir⟩)
  |(exact⟨T.length+1 - (m2+1),Zo,m2+1,g2+1,g5,ls++nl3,[],.own ⟨k+3,3,2⟩ g' 0,w,nm,Zo,by(try simp at*);omega,by(rw[LS.out,Ca];simp[*,cH,Up,Uo,cM,fO,bU,Ug,fL,aA,nV,dI,bE,dP,aT,cR,bN,aJ,lK,aH,eH]),Zm,Zm,Zm,by simp[*];done,Zm,Zm,(.inr ⟨rfl,g',rfl,Zm⟩),Zm,⟨by simp[*];done,Zm,Ij,Zo⟩,fun d i c hd Ir=>by have Uc:d≠k+3:=Zo;simp[*];exact Uf d i c hd Ir⟩)
@[simp] theorem A8 (nm:Tx)(ps ls:List Tx)(w:Bool)(b:List Sy.St):(Sy.Fu.mk nm ps ls w b).row=[tz nm.1,.sl false 1 (Ib ps),.sl false 1 (Ib ls),bz w,.sl false 5 (Ik b)]:=rfl
@[simp] theorem B1 (nm:Tx)(ps ls:List Tx)(w:Bool)(b:List Sy.St):(Sy.Fu.mk nm ps ls w b).size=ps.length+ls.length+Ix b+1:=rfl
def lR (T:List Tok)(n:Nat):Option Sy.Pr:=(nE T [] [] n).bind fun p=>(gJ T [] p.2).map fun l=>⟨p.1.1,p.1.2,l⟩
theorem Kx (T:List Tok)(l:List Sy.Fu)(n:Nat):gJ T l n=(DU T n).bind fun p=>if p.2<T.length then gJ T (l++[p.1]) p.2 else some (l++[p.1]):=by
 rw[O9,DU,Acl]
def RP (T:List Tok)(e:Int)(q gx gy n D:Nat)(hp1:Hp)(v:AV)(If:Hp):Prop:= ∃(x:Sy.Pr) (n2:Nat),v= .agg x.row/\lR T n=some x/\T.length<=n2/\n+x.size<=n2/\Rd T e q gx gy n2 If/\mZ D q hp1 If
theorem Nb (l:List (Tx×Int)):(Ih l).take l.length=Ih l:=by rw[Kb (by simp[Ih])]
theorem Pt (l:List (Tx×Int)):(Ih l).length=l.length:=by simp[Ih]
theorem Nc (l:List (Tx×Int))(s:Tx)(z:Int):Ih (l++[(s,z)])=Ih l++[[tz s.1,iz z]]:=by simp[Ih]
theorem M7 (l:List Sy.Fu):(l.map Sy.Fu.row).take l.length=l.map Sy.Fu.row:=by rw[Kb Zi]
theorem BL {T:List Tok}{e:Int}{q n gx gy:Nat}(D:Nat)(hD:2<=D)(d:Nat)(hp1:Hp)(hr:Rd T e q gx gy n hp1):HB P0 Un (Lm bX) D d 156 [.ptr ⟨1,q,0⟩ gx 0] hp1 (RP T e q gx gy n D hp1) (Wn D q hp1 (lR T n=none)):=by
 obtain⟨k,rfl⟩: ∃k,D=k+2:=⟨D - 2,Zo⟩;clear hD;refine hZ (k1:=k+3) (PR:=Wn (k+2) q hp1 (lR T n=none)) Tryz.func156 rfl ?_;obtain⟨h1,h2,Ij,aI⟩:=hr
 repeat' first|refine ZN ?_|refine Z2 ?_ ?_|intro h h';try simp[*,-h] at h'
 refine Ac (n:=T.length+1 - n) (fun s0 m s=> ∃(n2 gv ga gf:Nat) (vs:List Tx) (ar:List (Tx×Int)),T.length+1 - n2<=m/\n+vs.length+ar.length<=n2/\(nE T [] [] n=nE T vs ar n2)/\s.fr 0= .ptr ⟨1,q,0⟩ gx 0/\s.fr 2= .ptr ⟨k+3,2,0⟩ ((hp1 ⟨k+3,2,0⟩).gen+1) 0/\s.fr 3= .ptr ⟨k+3,3,0⟩ ((hp1 ⟨k+3,3,0⟩).gen+1) 0/\s.hp ⟨k+3,3,0⟩= .box ((hp1 ⟨k+3,3,0⟩).gen+1) [.own ⟨k+3,3,1⟩ gv vs.length,.own ⟨k+3,3,2⟩ ga ar.length,.own ⟨k+3,3,3⟩ gf 0] false/\s.hp ⟨k+3,3,1⟩= .arr gv 1 9 (Ib vs) false/\s.hp ⟨k+3,3,2⟩= .arr ga 2 82 (Ih ar) false/\s.hp ⟨k+3,3,3⟩= .arr gf 5 85 [] false/\s.hp ⟨k+3,2,0⟩= .box ((hp1 ⟨k+3,2,0⟩).gen+1) [.own ⟨k+3,2,1⟩ ((hp1 ⟨k+3,2,1⟩).gen+1) 0,.own ⟨k+3,2,2⟩ ((hp1 ⟨k+3,2,2⟩).gen+1) 0,.own ⟨k+3,2,3⟩ ((hp1 ⟨k+3,2,3⟩).gen+1) 0] false/\Rd T e q gx gy n2 s.hp/\mZ (k+2) q hp1 s.hp) ⟨n,(hp1 ⟨k+3,3,1⟩).gen+1,(hp1 ⟨k+3,3,2⟩).gen+1,(hp1 ⟨k+3,3,3⟩).gen+1,[],[],Zo,Zi,rfl,Zi,Zi,Zi,by simp;done,Zi,by simp[Ih],Zi,Zi,⟨Zm,Zm,Ij,aI⟩,fun d i c hd Ir=>by have Uc:d≠k+3:=Zo;simp[*]⟩ ?_;clear h1 h2;rintro m ⟨fr,hp⟩ ⟨n2,gv,ga,gf,vs,ar,hmm,qL,hsh,f0,f2,f3,b3,a1,a2,a3,b2,⟨hb,ha,_,jY⟩,Uf⟩;simp at f0 f2 f3 b3 a1 a2 a3 b2 ha Uf;simp only at hb;have HF:=Lib.hid Uf;have FS:=Lib.hid hsh;have t1:=D8 vs;have t2:=Nb ar;have t4:=Pt ar;have t6:=Nc ar;clear Uf hsh;have x1:(ar.length+1)*24<=140737488355328:=Zo;have x2:ar.length<=9223372036854775806:=Zo
 repeat' (first|((apply Df (c:=3) (idx:=[0,1,2]) (d:=11));kernel_rfl;kernel_rfl;simp only[T9,nT,Nh,X4,Rt,T7,X1];(repeat' (first|exact dL.nil|((with_reducible apply Ay);exact Zc)));exact rfl;exact Zc;exact V8;decide;exact Zc;apply tN (k+3) Zo;exact Zw;rotate_left;rintro _ dG ⟨⟨⟨a,rfl⟩,U7⟩,dM⟩;rotate_right;(rintro _ If uK ⟨nl3,m2,rfl,hsN,kM,aO,⟨Ul,cT,_,Ub⟩,Ic⟩;have U1:=Ic.own Zo;have aB:=Ic.all (k:=k+2) Zo;clear Ic;have b1:(vs.length+nl3.length)*16<=140737488355328:=Zo;have b2:vs.length+nl3.length<=9223372036854775807:=Zo);refine Cb Zf ?_;(repeat (first|((with_reducible apply gP);exact Zc)|((with_reducible apply gQ);exact Zc)));(with_reducible apply A7);apply Be (ps:=[(0,2),(1,2),(0,3),(1,3)]);kernel_rfl;(iterate 2 refine Zk ?_);refine ZA ?_;refine ZA ?_;exact Zz)|((apply Df (c:=3) (idx:=[0,1,2]) (d:=43));kernel_rfl;kernel_rfl;simp only[T9,nT,Nh,X4,Rt,T7,X1];(repeat' (first|exact dL.nil|((with_reducible apply Ay);exact Zc)));exact rfl;exact Zc;exact Ol;decide;exact Zc;apply DS (k+3) Zo;exact Zw;rotate_left;rintro _ dG ⟨⟨⟨a,rfl⟩,U7⟩,dM⟩;rotate_right;(rintro _ If uK ⟨⟨fn,fp,fl,fw,fb⟩,m2,rfl,wF,kM,aO,⟨Ul,cT,_,Ub⟩,Ic⟩;have U1:=Ic.own Zo;have aB:=Ic.all (k:=k+2) Zo;clear Ic;simp only[A8,B1] at*);refine Cb Zf ?_;(repeat (first|((with_reducible apply gP);exact Zc)|((with_reducible apply gQ);exact Zc)));(with_reducible apply A7);apply Be (ps:=[(0,2),(1,2),(0,3),(1,3),(0,4),(1,4)]);kernel_rfl;(iterate 2 refine Zk ?_);refine ZA ?_;refine ZA ?_;(iterate 2 refine Zs ?_);exact Zz)|(refine Z1 ?_)|(refine Z2 ?_ ?_)|(intro h h';try simp[*,-h] at h')|(exact⟨⟨⟨_,rfl⟩,fun d i c hd Ir=>(U7 d i c Zo Ir).trans (by have Uc:d≠k+3:=Zo;first|exact HF.out d i c hd Ir|(simp[*];done)|(simp[*];exact HF.out d i c hd Ir))⟩,by(first|(rw[lR,FS.out,Ck,Jx (by assumption),Jx (by assumption)];show(gJ T [] n2).map _=_;rw[Kx,dM];rfl)|(rw[lR,FS.out,Ck];simp[*,cH,Up,Uo,cM,fO,bU,Ug,fL,aA,nV,dI,bE,dP,aT,cR,bN,aJ,lK,aH,eH]))⟩)|((with_reducible apply Ap (f:=220));exact Zv;apply BY (k+3) Zo;decide;exact Zw;(rintro _ If (⟨rfl,qK,⟨Ul,cT,_,_⟩,Ic⟩|⟨rfl,qK,aO,⟨Ul,cT,_,Ub⟩,Ic⟩)<;>(have U1:=Ic.own Zo;have aB:=Ic.all (k:=k+2) Zo;clear Ic)))|((with_reducible apply Aq (f:=223));exact Zv;apply Jm (k+3) Zo;exact Zc;decide;exact Zw;rotate_left;rintro _ dG ⟨⟨⟨a,rfl⟩,U7⟩,dM⟩;rotate_right;(rintro _ If ⟨rfl,AG,aO,⟨Ul,cT,_,Ub⟩,Ic⟩;have U1:=Ic.own Zo;have aB:=Ic.all (k:=k+2) Zo;clear Ic))|((fail_if_success (have xM:=tt1));((with_reducible apply Aq (f:=222));exact Zv;apply take (k+3) Zo;decide;exact Zw;rotate_left;rintro _ dG ⟨⟨⟨a,rfl⟩,U7⟩,dM⟩;rotate_right;(rintro _ If ⟨⟨tk1,tt1,tn1,ta1⟩,rfl,hst1,aO,⟨Ul,cT,_,Ub⟩,Ic⟩;have U1:=Ic.own Zo;have aB:=Ic.all (k:=k+2) Zo;clear Ic;simp only[Tok.row_mk])))|((with_reducible apply Aq (f:=222));exact Zv;apply take (k+3) Zo;decide;exact Zw;rotate_left;rintro _ dG ⟨⟨⟨a,rfl⟩,U7⟩,dM⟩;rotate_right;(rintro _ If ⟨⟨tk2,tt2,tn2,ta2⟩,rfl,dN,aO,⟨Ul,cT,_,Ub⟩,Ic⟩;have U1:=Ic.own Zo;have aB:=Ic.all (k:=k+2) Zo;clear Ic;simp only[Tok.row_mk]))|fail)
 rotate_left
 ·have Uf:=HF.out
  exact⟨T.length+1 - (n2+1+1+1+1+1+1),Zo,n2+1+1+1+1+1+1,gv,ga+1,gf,vs,ar++[(tt1,IntKind.i64.wrap tn2)],Zo,by(try simp at*);omega,by(rw[FS.out,Ck];simp[*,cH,Up,Uo,cM,fO,bU,Ug,fL,aA,nV,dI,bE,dP,aT,cR,bN,aJ,lK,aH,eH]),Zm,Zm,Zm,by simp[*];done,Zm,Zm,Zm,Zm,⟨by simp[*];done,Zm,Ij,Zo⟩,fun d i c hd Ir=>by have Uc:d≠k+3:=Zo;simp[*];exact Uf d i c hd Ir⟩
 ·have Uf:=HF.out
  exact⟨T.length+1 - (m2+1),Zo,m2+1,gv+1,ga,gf,vs++nl3,ar,Zo,by(try simp at*);omega,by(rw[FS.out,Ck];simp[*,cH,Up,Uo,cM,fO,bU,Ug,fL,aA,nV,dI,bE,dP,aT,cR,bN,aJ,lK,aH,eH]),Zm,Zm,Zm,by simp[*];done,Zm,Zm,Zm,Zm,⟨by simp[*];done,Zm,Ij,Zo⟩,fun d i c hd Ir=>by have Uc:d≠k+3:=Zo;simp[*];exact Uf d i c hd Ir⟩
 have hsQ:lR T n=(if m2<T.length then gJ T [⟨fn,fp,fl,fw,fb⟩] m2 else some [⟨fn,fp,fl,fw,fb⟩]).map fun l=>(⟨vs,ar,l⟩:Sy.Pr):=by
  rw[lR,FS.out,Ck,Jx (by assumption),Jx (by assumption)];show(gJ T [] n2).map _=_;rw[Kx,wF];rfl
 refine Ac (n:=T.length+1 - n) (fun s0 m s=> ∃(n2 gv ga gf:Nat) (vs:List Tx) (ar:List (Tx×Int)) (fs:List Sy.Fu),T.length+1 - n2<=m/\n+vs.length+ar.length+cV fs<=n2/\(lR T n=(if n2<T.length then gJ T fs n2 else some fs).map fun l=>(⟨vs,ar,l⟩:Sy.Pr))/\s.fr 0= .ptr ⟨1,q,0⟩ gx 0/\s.fr 2= .ptr ⟨k+3,2,0⟩ ((hp1 ⟨k+3,2,0⟩).gen+1) 0/\s.fr 3= .ptr ⟨k+3,3,0⟩ ((hp1 ⟨k+3,3,0⟩).gen+1) 0/\s.hp ⟨k+3,3,0⟩= .box ((hp1 ⟨k+3,3,0⟩).gen+1) [.own ⟨k+3,3,1⟩ gv vs.length,.own ⟨k+3,3,2⟩ ga ar.length,.own ⟨k+3,3,3⟩ gf fs.length] false/\s.hp ⟨k+3,3,1⟩= .arr gv 1 9 (Ib vs) false/\s.hp ⟨k+3,3,2⟩= .arr ga 2 82 (Ih ar) false/\s.hp ⟨k+3,3,3⟩= .arr gf 5 85 (fs.map Sy.Fu.row) false/\s.hp ⟨k+3,2,0⟩= .box ((hp1 ⟨k+3,2,0⟩).gen+1) [.own ⟨k+3,2,1⟩ ((hp1 ⟨k+3,2,1⟩).gen+1) 0,.own ⟨k+3,2,2⟩ ((hp1 ⟨k+3,2,2⟩).gen+1) 0,.own ⟨k+3,2,3⟩ ((hp1 ⟨k+3,2,3⟩).gen+1) 0] false/\Rd T e q gx gy n2 s.hp/\mZ (k+2) q hp1 s.hp) ⟨m2,gv,ga,gf+1,vs,ar,[⟨fn,fp,fl,fw,fb⟩],Zo,by(try simp at*);omega,hsQ,Zm,Zm,Zm,by simp[*];done,Zm,Zm,Zm,Zm,⟨by simp[*];done,Zm,Ij,Zo⟩,fun d i c hd Ir=>by have Uc:d≠k+3:=Zo;simp[*];exact HF.out d i c hd Ir⟩ ?_;clear Ul cT U1 aB b3 a1 a2 a3 b2 ha hb HF t1 t2 t4 t6 hsQ wF FS qK;rintro m ⟨fr,hp⟩ ⟨n2,gv,ga,gf,vs,ar,fs,hmm,qL,hsh,f0,f2,f3,b3,a1,a2,a3,b2,⟨hb,ha,_,jY⟩,Uf⟩;simp at f0 f2 f3 b3 a1 a2 a3 b2 ha Uf;simp only at hb;have HF:=Lib.hid Uf;have FS:=Lib.hid hsh;have t1:=D8 vs;have t2:=Nb ar;have t4:=Pt ar;have t6:=Nc ar;clear Uf hsh;have t3:=M7 fs;have t5:=Bq fs;have x1:(fs.length+1)*96<=140737488355328:=Zo;have x2:fs.length<=9223372036854775806:=Zo;by_cases Ii:n2<T.length
 all_goals (first|have e1:(n2:Int)<T.length:=Zo|have e1: ¬(n2:Int)<T.length:=Zo)
 repeat' (first|((apply Mt (c:=3) (idx:=[0,1,2]) (d:=60));kernel_rfl;kernel_rfl;simp only[T9,nT,Nh,X4,Rt,T7,X1];(repeat' (first|exact dL.nil|((with_reducible apply Ay);exact Zc)));exact rfl;exact Zc;exact Ol;decide;exact Zc;apply DS (k+3) Zo;exact Zw;rotate_left;rintro _ dG ⟨⟨⟨a,rfl⟩,U7⟩,dM⟩;rotate_right;(rintro _ If uK ⟨⟨fn,fp,fl,fw,fb⟩,m2,rfl,wF,kM,aO,⟨Ul,cT,_,Ub⟩,Ic⟩;have U1:=Ic.own Zo;have aB:=Ic.all (k:=k+2) Zo;clear Ic;simp only[A8,B1] at*);refine Fi Zf ?_;(repeat (first|((with_reducible apply gP);exact Zc)|((with_reducible apply gQ);exact Zc)));(with_reducible apply A7);apply Be (ps:=[(0,2),(1,2),(0,3),(1,3),(0,4),(1,4)]);kernel_rfl;(iterate 2 refine Zk ?_);refine ZA ?_;refine ZA ?_;(iterate 2 refine Zs ?_);exact Zz)|((apply Df (c:=3) (idx:=[0,1,2]) (d:=60));kernel_rfl;kernel_rfl;simp only[T9,nT,Nh,X4,Rt,T7,X1];(repeat' (first|exact dL.nil|((with_reducible apply Ay);exact Zc)));exact rfl;exact Zc;exact Ol;decide;exact Zc;apply DS (k+3) Zo;exact Zw;rotate_left;rintro _ dG ⟨⟨⟨a,rfl⟩,U7⟩,dM⟩;rotate_right;(rintro _ If uK ⟨⟨fn,fp,fl,fw,fb⟩,m2,rfl,wF,kM,aO,⟨Ul,cT,_,Ub⟩,Ic⟩;have U1:=Ic.own Zo;have aB:=Ic.all (k:=k+2) Zo;clear Ic;simp only[A8,B1] at*);refine Cb Zf ?_;(repeat (first|((with_reducible apply gP);exact Zc)|((with_reducible apply gQ);exact Zc)));(with_reducible apply A7);apply Be (ps:=[(0,2),(1,2),(0,3),(1,3),(0,4),(1,4)]);kernel_rfl;(iterate 2 refine Zk ?_);refine ZA ?_;refine ZA ?_;(iterate 2 refine Zs ?_);exact Zz)|(refine Z1 ?_)|(refine Z2 ?_ ?_)|(intro h h';try simp[*,-h] at h')|(exact⟨⟨⟨_,rfl⟩,fun d i c hd Ir=>(U7 d i c Zo Ir).trans (by have Uc:d≠k+3:=Zo;first|exact HF.out d i c hd Ir|(simp[*];done)|(simp[*];exact HF.out d i c hd Ir))⟩,by(rw[FS.out,Ka Ii,Kx,dM];rfl)⟩)|fail)
 ·have Uf:=HF.out
  have t7:=Pa fs [⟨fn,fp,fl,fw,fb⟩];simp only[Xh,Ama,B1] at t7;exact⟨T.length+1 - m2,Zo,m2,gv,ga,gf+1,vs,ar,fs++[⟨fn,fp,fl,fw,fb⟩],Zo,by(try simp at*);omega,by rw[FS.out,Ka Ii,Kx,wF];rfl,Zm,Zm,Zm,by simp[*];done,Zm,Zm,Zm,Zm,⟨by simp[*];done,Zm,Ij,Zo⟩,fun d i c hd Ir=>by have Uc:d≠k+3:=Zo;simp[*];exact Uf d i c hd Ir⟩
 ·have Uf:=HF.out
  exact⟨⟨vs,ar,fs⟩,n2,by simp[Sy.Pr.row],by rw[FS.out,Jx Ii];rfl,Zo,by(try simp[Sy.Pr.size]);omega,⟨by simp[*];done,Zm,Ij,Zo⟩,fun d i c hd Ir=>by have Uc:d≠k+3:=Zo;simp[*];exact Uf d i c hd Ir⟩
def RC (T:List Tok)(e:Int)(gx gy gp:Nat)(hp1:Hp)(v:AV)(If:Hp):Prop:=v= .tup []/\ ∃(x:Sy.Pr) (n2:Nat),iY T=some x/\T.length<=n2/\If ⟨0,5,0⟩= .box gp x.row false/\x.size<=T.length/\Rd T e 25 gx gy n2 If/\ ∀d i c,d<=1->(⟨d,i,c⟩:Nm)≠⟨1,25,0⟩->(⟨d,i,c⟩:Nm)≠⟨0,5,0⟩->If ⟨d,i,c⟩=hp1 ⟨d,i,c⟩
theorem Bqa (T:List Tok):iY T=lR T 0:=Jq T
theorem E3a {T:List Tok}{e:Int}{gx gy gp:Nat}{c1 c2 c3:AV}(d:Nat)(hp1:Hp)(hr:Rd T e 25 gx gy 0 hp1)(hp:hp1 ⟨0,5,0⟩= .box gp [c1,c2,c3] false):HB P0 Un (Lm bX) 1 d 155 [.ptr ⟨1,25,0⟩ gx 0,.ptr ⟨0,5,0⟩ gp 0] hp1 (RC T e gx gy gp hp1) (Wn 1 25 hp1 (iY T=none)):=by
 rw[Bqa];refine hB (k1:=2) (PR:=Wn 1 25 hp1 (lR T 0=none)) Tryz.func155 rfl ?_;obtain⟨h1,h2,Ij,aI⟩:=hr
 repeat' (first|refine ZN ?_|refine Z2 ?_ ?_|(intro h h';try simp[*,-h] at h')|((with_reducible apply Aq (f:=156));exact Zv;apply BL 2 Zo;exact Zw;rotate_left;rintro _ dG ⟨⟨⟨a,rfl⟩,U7⟩,dM⟩;rotate_right;(rintro _ If ⟨⟨xv,xa,xf⟩,m2,rfl,hsP,hln2,aO,⟨Ul,cT,_,Ub⟩,Ic⟩;have U1:=Ic.own Zo;have aB:=Ic.all (k:=1) Zo;clear Ic;simp only[Sy.Pr.row] at*))|fail)
 ·exact⟨rfl,⟨xv,xa,xf⟩,m2,(Bqa T).trans hsP,hln2,by simp[Sy.Pr.row],Zo,⟨Zm,Zm,Ij,Ub⟩,fun d i c hd h8 h9=>Zm⟩
 ·exact⟨⟨⟨a,rfl⟩,fun d i c hd Ir=>U7 d i c Zo Ir⟩,dM⟩
end
section
open Go Go.Ab Go.Ab.Sy
variable {X:aS}
abbrev cv (c:Int):AV:= .sc (.int .u8 c)
def digB (c:Int):Bool:=decide (48<=c)&&decide (c<=57)
def pE (c:Int):Bool:=(decide (97<=c)&&decide (c<=122))||(decide (65<=c)&&decide (c<=90))
def wV (c:Int):Bool:=pE c||digB c||(c==95)
def wT (c:Int):Bool:=c !=10
theorem T3(hX: ∀f a,X.dat f a=none)(c:Int):(Lm X).dat 389 [cv c]=some [bv (digB c)]:=by
 refine fW Tryz.func389 (hX _ _) ?_
 repeat' first|refine ZN ?_|refine Z2 ?_ ?_|intro h h';try simp[*,-h] at h'
 all_goals (first|(simp_all[digB];done)|(simp_all[digB];omega))
theorem O1(hX: ∀f a,X.dat f a=none)(c:Int):(Lm X).dat 392 [cv c]=some [bv (pE c)]:=by
 refine fW Tryz.func392 (hX _ _) ?_
 repeat' first|refine ZN ?_|refine Z2 ?_ ?_|intro h h';try simp[*,-h] at h'
 all_goals (first|(simp_all[pE];done)|(simp_all[pE];omega))
theorem Jca(hX: ∀f a,X.dat f a=none)(c:Int):(Lm X).dat 394 [cv c]=some [bv (wV c)]:=by
 refine fW Tryz.func394 (hX _ _) ?_;have d1:=T3 hX;have l1:=O1 hX
 repeat' first|refine ZN ?_|refine Z2 ?_ ?_|intro h h';try simp[*,-h] at h'
 all_goals (first|(simp_all[wV];done)|(simp_all[wV];omega))
theorem not_w(hX: ∀f a,X.dat f a=none)(c:Int):(Lm X).dat 295 [cv c]=some [bv (wT c)]:=by
 refine fW Tryz.func295 (hX _ _) ?_
 repeat' first|refine ZN ?_|refine Z2 ?_ ?_|intro h h';try simp[*,-h] at h'
 all_goals (first|(simp_all[wT];done)|(simp_all[wT];omega))
end
section
open Go Go.Ab Go.Ab.Sy
variable {X:aS}
theorem Fe (c:UInt8):digB (c.toNat:Int)=aR c:=by
 unfold digB aR;simp only[Acf];congr 1<;>simp<;>omega
theorem Gl (c:UInt8):pE (c.toNat:Int)=mS c:=by
 unfold pE mS;simp only[Acf];congr 2<;>simp<;>omega
theorem eqC (c:UInt8)(n:Nat)(hn:n<256):decide ((c.toNat:Int)=n)=decide (c=UInt8.ofNat n):=by
 by_cases h:c=UInt8.ofNat n
 ·subst h
  simp[Adl hn]
 ·have: ¬(c.toNat:Int)=n:=fun e=>h (by
   apply UInt8.toNat_inj.1;simp[Adl hn];omega)
  simp[h,this]
theorem B9a (c:UInt8):wV (c.toNat:Int)=bJ c:=by
 unfold wV bJ;rw[Gl,Fe,Bool.or_assoc];congr 2;exact eqC c 95 Zd
def pX (c:UInt8):Bool:=decide (c≠10)
theorem B0a (c:UInt8):wT (c.toNat:Int)=pX c:=by
 have h:=eqC c 10 Zd;unfold wT pX;rw[bne,show((c.toNat:Int)==10)=decide ((c.toNat:Int)=(10:Nat)) from rfl,h,decide_not];rfl
theorem Bd {s:ByteArray}{i:Nat}(h:i<s.size):aM s i=s[i]:=by
 unfold aM;rw[Nh];show(s.data[i]?).getD 0=_;rw[FK (show i<s.data.size from h)];rfl
theorem Jpa(hX: ∀f a,X.dat f a=none)(s:ByteArray)(hs:s.size<9223372036854775807):(Lm X).dat 294 [tv s,.fn 389 []]=some [tv (bY s 0 (U0 s aR 0))]:=by
 refine fW Tryz.func294 (hX _ _) ?_;have d1:=T3 hX;unfold bY
 repeat' first|refine ZN ?_|refine Z2 ?_ ?_|intro h h';try simp[*,-h] at h'
 refine Ac (n:=s.size) (fun s0 m z=> ∃i:Nat,s.size - i<=m/\i<=s.size/\U0 s aR 0=U0 s aR i/\z.fr 0=tv s/\z.fr 1= .fn 389 []/\z.fr 5=iv i) ⟨0,Zo,Zo,rfl,Zi,Zi,Zi⟩ ?_;rintro m ⟨fr,hp⟩ ⟨i,hm,hi,hr,f0,f1,f5⟩;simp at f0 f1 f5;rw[hr];by_cases Ii:i<s.size
 ·have e1:(i:Int)<s.size:=Zo
  cases hb:digB (((s.data[i]'Ii).toNat:Nat):Int) with
  |true=>
   have hc:aR (aM s i)=true:=by rw[Bd Ii,<-Fe];exact hb
   have dN:=Lib.hid (Bf s aR i Ii hc);clear hc hr
   repeat' first|refine ZN ?_|refine Z2 ?_ ?_|intro h h';try simp[*,-h] at h'
   all_goals exact⟨s.size - (i+1),Zo,i+1,Zo,Zo,dN.out,Zm,Zm,by simp[*,Iw (k:=i) Zo]⟩
  |false=>
   have hc: ¬(i<s.size/\aR (aM s i)=true):=by rw[Bd Ii,<-Fe];exact fun h=>by rw[show digB ((s[i].toNat:Nat):Int)=false from hb] at h;cases h.2
   rw[B6 s aR i hc];clear hc hr;exact ZS
 ·have e1: ¬(i:Int)<s.size:=Zo
  rw[B6 s aR i Zo];clear hr;exact ZS
theorem Xi(hX: ∀f a,X.dat f a=none)(s:ByteArray)(hs:s.size<9223372036854775807):(Lm X).dat 294 [tv s,.fn 394 []]=some [tv (bY s 0 (U0 s bJ 0))]:=by
 refine fW Tryz.func294 (hX _ _) ?_;have d1:=Jca hX;unfold bY
 repeat' first|refine ZN ?_|refine Z2 ?_ ?_|intro h h';try simp[*,-h] at h'
 refine Ac (n:=s.size) (fun s0 m z=> ∃i:Nat,s.size - i<=m/\i<=s.size/\U0 s bJ 0=U0 s bJ i/\z.fr 0=tv s/\z.fr 1= .fn 394 []/\z.fr 5=iv i) ⟨0,Zo,Zo,rfl,Zi,Zi,Zi⟩ ?_;rintro m ⟨fr,hp⟩ ⟨i,hm,hi,hr,f0,f1,f5⟩;simp at f0 f1 f5;rw[hr];by_cases Ii:i<s.size
 ·have e1:(i:Int)<s.size:=Zo
  cases hb:wV (((s.data[i]'Ii).toNat:Nat):Int) with
  |true=>
   have hc:bJ (aM s i)=true:=by rw[Bd Ii,<-B9a];exact hb
   have dN:=Lib.hid (Bf s bJ i Ii hc);clear hc hr
   repeat' first|refine ZN ?_|refine Z2 ?_ ?_|intro h h';try simp[*,-h] at h'
   all_goals exact⟨s.size - (i+1),Zo,i+1,Zo,Zo,dN.out,Zm,Zm,by simp[*,Iw (k:=i) Zo]⟩
  |false=>
   have hc: ¬(i<s.size/\bJ (aM s i)=true):=by rw[Bd Ii,<-B9a];exact fun h=>by rw[show wV ((s[i].toNat:Nat):Int)=false from hb] at h;cases h.2
   rw[B6 s bJ i hc];clear hc hr;exact ZS
 ·have e1: ¬(i:Int)<s.size:=Zo
  rw[B6 s bJ i Zo];clear hr;exact ZS
theorem Jqa(hX: ∀f a,X.dat f a=none)(s:ByteArray)(hs:s.size<9223372036854775807):(Lm X).dat 294 [tv s,.fn 295 []]=some [tv (bY s 0 (U0 s pX 0))]:=by
 refine fW Tryz.func294 (hX _ _) ?_;have d1:=not_w hX;unfold bY
 repeat' first|refine ZN ?_|refine Z2 ?_ ?_|intro h h';try simp[*,-h] at h'
 refine Ac (n:=s.size) (fun s0 m z=> ∃i:Nat,s.size - i<=m/\i<=s.size/\U0 s pX 0=U0 s pX i/\z.fr 0=tv s/\z.fr 1= .fn 295 []/\z.fr 5=iv i) ⟨0,Zo,Zo,rfl,Zi,Zi,Zi⟩ ?_;rintro m ⟨fr,hp⟩ ⟨i,hm,hi,hr,f0,f1,f5⟩;simp at f0 f1 f5;rw[hr];by_cases Ii:i<s.size
 ·have e1:(i:Int)<s.size:=Zo
  cases hb:wT (((s.data[i]'Ii).toNat:Nat):Int) with
  |true=>
   have hc:pX (aM s i)=true:=by rw[Bd Ii,<-B0a];exact hb
   have dN:=Lib.hid (Bf s pX i Ii hc);clear hc hr
   repeat' first|refine ZN ?_|refine Z2 ?_ ?_|intro h h';try simp[*,-h] at h'
   all_goals exact⟨s.size - (i+1),Zo,i+1,Zo,Zo,dN.out,Zm,Zm,by simp[*,Iw (k:=i) Zo]⟩
  |false=>
   have hc: ¬(i<s.size/\pX (aM s i)=true):=by rw[Bd Ii,<-B0a];exact fun h=>by rw[show wT ((s[i].toNat:Nat):Int)=false from hb] at h;cases h.2
   rw[B6 s pX i hc];clear hc hr;exact ZS
 ·have e1: ¬(i:Int)<s.size:=Zo
  rw[B6 s pX i Zo];clear hr;exact ZS
end
end Go.Proofs.YtggghdmdjpianaaGreatDoor
