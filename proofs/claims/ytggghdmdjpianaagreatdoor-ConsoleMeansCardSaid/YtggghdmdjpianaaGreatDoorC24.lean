/- A part of the proof: Kl, Km, Kn, Ko, Kp, Kq, Kr, Ks, Kt, Ku, Nv, Kv, Kw, Zp, Zl, Zm, Zr, Rh. -/
import Derived.Test.YtggghdmdjpianaaGreatDoorC22
import Derived.Test.YtggghdmdjpianaaGreatDoorC23
import Derived.Test.YtggghdmdjpianaaGreatDoorC04
import Derived.Test.YtggghdmdjpianaaGreatDoorC10
import Derived.Test.YtggghdmdjpianaaGreatDoorC12
import Derived.Lib.Hide
import Derived.Test.YtggghdmdjpianaaGreatDoorC06
set_option linter.unusedSimpArgs false
set_option linter.unusedVariables false
set_option maxRecDepth 200000
set_option maxHeartbeats 8000000
namespace Go.Proofs.YtggghdmdjpianaaGreatDoor
section
open Go Go.Ab Go.Ab.Sy
structure DN (ns vs ws:List ByteArray)(verb ks:ByteArray)(f:Nat)(s:AS):Prop where
 f2:s.fr 2= .ptr ⟨0,2,0⟩ 1 0
 b2:s.hp ⟨0,2,0⟩= .box 1 (I7 ns vs) false
 f3:s.fr 3= .ptr ⟨0,3,0⟩ 1 0
 b3:s.hp ⟨0,3,0⟩= .box 1 [tv verb,.sl false 1 (aE ws)] false
 f4:s.fr 4= .ptr ⟨0,4,0⟩ 1 0
 b4:s.hp ⟨0,4,0⟩= .box 1 [.own ⟨0,4,1⟩ 1 0,.own ⟨0,4,2⟩ 1 0,.own ⟨0,4,3⟩ 1 0,.own ⟨0,4,4⟩ 1 0,.own ⟨0,4,5⟩ 1 0,iv 0,.own ⟨0,4,7⟩ 1 0] false
 f5:s.fr 5= .ptr ⟨0,5,0⟩ 1 0
 b5:s.hp ⟨0,5,0⟩= .box 1 [tv ⟨⟨[]⟩⟩] false
 f6:s.fr 6= .ptr ⟨0,6,0⟩ 1 0
 b6:s.hp ⟨0,6,0⟩= .box 1 [iv 0] false
 f7:s.fr 7= .ptr ⟨0,7,0⟩ 1 0
 b7:s.hp ⟨0,7,0⟩= .box 1 [tv ks,.fn f []] false
theorem NA {c0 c1 c2 c3 c4 d8 d9 d10:Code}(hb:Tryz.f10.body=some (.seq c0 (.seq c1 (.seq c2 (.seq c3 (.seq c4 (.seq d8 (.seq d9 (.seq d10 .ret))))))))){ns vs ws:List ByteArray}{verb ks:ByteArray}{f i:Nat}(hk:dY (.string verb) Je 0=some (some i))(hr:L9[i]?=some [tv ks,.fn f []])(hc:LC.dat 18 [.agg (I7 ns vs),tv ks,.sl false 1 (aE ws)]=some [iv 0]):
  lM P0 EC 0 LC (fun _ _=>False) (DN ns vs ws verb ks f) [c0,c1,c2,c3] ⟨Uh [.agg (I7 ns vs),.agg [tv verb,.sl false 1 (aE ws)]],U9⟩:=by
 have hv:=Sq;unfold I7 at hc⊢;generalize Je=vk at*;generalize L9=vr at*
 cases hb
 simp only[lM]
 repeat' first|refine ZN ?_|refine Z2 ?_ ?_|intro h h';try simp[*,-h] at h'
 all_goals exact⟨Zi,by simp[I7],Zi,Zi,Zi,Zi,Zi,Zi,Zi,Zi,Zi,Zi⟩
theorem do_d8 {c0 c1 c2 c3 c4 d8 d9 d10:Code}(hb:Tryz.f10.body=some (.seq c0 (.seq c1 (.seq c2 (.seq c3 (.seq c4 (.seq d8 (.seq d9 (.seq d10 .ret))))))))){ns vs ws:List ByteArray}{verb ks:ByteArray}{f:Nat}{st:AS}(h:DN ns vs ws verb ks f st):W P0 EC 0 LC d8 st (fun e s2=>e= .normal/\DN ns vs ws verb ks f s2/\ ∃g,s2.fr 10= .ptr ⟨0,36,0⟩ g 0/\s2.hp ⟨0,36,0⟩= .box g (bV ns vs ws ⟨⟨[]⟩⟩) false):=by
 obtain⟨fr,hq⟩:=st;obtain⟨f2,b2,f3,b3,f4,b4,f5,b5,f6,b6,f7,b7⟩:=h;simp only at f2 b2 f3 b3 f4 b4 f5 b5 f6 b6 f7 b7;unfold I7 at b2
 cases hb
 repeat' first|refine ZN ?_|refine Z2 ?_ ?_|intro h h';try simp[*,-h] at h'
 all_goals exact⟨rfl,⟨Zm,by simp[*,I7],Zm,Zm,Zm,Zm,Zm,Zm,Zm,Zm,Zm,Zm⟩,_,by simp;rfl,by simp[bV]⟩
theorem do_d10 {c0 c1 c2 c3 c4 d8 d9 d10:Code}(hb:Tryz.f10.body=some (.seq c0 (.seq c1 (.seq c2 (.seq c3 (.seq c4 (.seq d8 (.seq d9 (.seq d10 .ret))))))))){ns vs ws:List ByteArray}{verb ks t:ByteArray}{f g g1 g2 n1 n2:Nat}{A1 A2:List (List AV)}{st:AS}(h:DN ns vs ws verb ks f st)(lC:st.fr 10= .ptr ⟨0,36,0⟩ g 0)(wG:A1.length=n1)(aO:A2.length=n2)
  (k0:st.hp ⟨0,36,0⟩= .box g [.own ⟨0,36,1⟩ g1 n1,.own ⟨0,36,2⟩ g2 n2,.sl false 1 [],.sl false 6 [],.sl false 4 [],iv 0,.sl false 7 [],.sl false 1 (aE ws),tv t] false) (k1:st.hp ⟨0,36,1⟩= .arr g1 1 9 A1 false) (k2:st.hp ⟨0,36,2⟩= .arr g2 1 9 A2 false):
  W P0 EC 0 LC (.seq d10 .ret) st (fun e s2=>e= .ret/\(s2.fr 4= .ptr ⟨0,4,0⟩ 1 0/\s2.fr 5= .ptr ⟨0,5,0⟩ 1 0/\s2.fr 6= .ptr ⟨0,6,0⟩ 1 0)/\(∃ga gb,s2.hp ⟨0,4,0⟩= .box 1 [.own ⟨0,4,1⟩ ga n1,.own ⟨0,4,2⟩ gb n2,.sl false 1 [],.sl false 6 [],.sl false 4 [],iv 0,.sl false 7 []] false/\s2.hp ⟨0,4,1⟩= .arr ga 1 9 A1 false/\s2.hp ⟨0,4,2⟩= .arr gb 1 9 A2 false)/\s2.hp ⟨0,5,0⟩= .box 1 [tv t] false/\s2.hp ⟨0,6,0⟩= .box 1 [iv 0] false):=by
 obtain⟨fr,hq⟩:=st;obtain⟨f2,b2,f3,b3,f4,b4,f5,b5,f6,b6,f7,b7⟩:=h;simp only at f2 b2 f3 b3 f4 b4 f5 b5 f6 b6 f7 b7 lC k0 k1 k2;unfold I7 at b2;subst wG aO
 cases hb
 repeat' first|refine ZN ?_|refine Z2 ?_ ?_|intro h h';try simp[*,-h] at h'
 all_goals exact⟨rfl,⟨Zm,Zm,Zm⟩,⟨(hq ⟨0,4,1⟩).gen+1,(hq ⟨0,4,2⟩).gen+1,Zi,Zi,Zi⟩,Zi,Zi⟩
theorem do_c4 {c0 c1 c2 c3 c4 d8 d9 d10:Code}(hb:Tryz.f10.body=some (.seq c0 (.seq c1 (.seq c2 (.seq c3 (.seq c4 (.seq d8 (.seq d9 (.seq d10 .ret))))))))){a:Act}{w:World}{Q:Exit->Act->World->Prop}(hs:a.tmps.size=49)
  (hQ:Q .normal {(a.put (some 31) (.func (.func 19) #[] #[a.eval (.tmp 2),a.eval (.tmp 4),a.eval (.tmp 5),a.eval (.tmp 6)])) with defers:={target:= .fn (.func 19) #[a.eval (.tmp 2),a.eval (.tmp 4),a.eval (.tmp 5),a.eval (.tmp 6)],args:= #[]}::a.defers} w):c4.wp P0 Q a w:=by
 cases hb
 refine vA ?_;have hmf: ∀(fn:Fn) (first cap:Array Value) (w:World),(Instr.makeFunc fn first cap).run P0 w= .ok (.func fn first cap) w:=fun _ _ _ _=>rfl
 simp[wpOps,Oper.wp,Oper.upon,go_sem,hmf,Region.wanted,hs];exact .inl (.inl (by simpa[Act.put,Act.eval,hs] using hQ))
theorem BS :Tryz.f19.ntmps=21:=rfl
theorem BI :Tryz.f19.results= #[]:=rfl
theorem Kia (p q r s:Addr)(w:World):
  CallsD P0 19 #[.pointer (some p),.pointer (some q),.pointer (some r),.pointer (some s)] .returning w fun e u' w'=>e= .returned (.tuple #[])/\u'= .returning/\w'=w:=by
 refine Adr Tryz.func19 rfl fun c₀ cs hu=>?_
 apply wpS_seq;apply Ad9;simp[wpOpsS,go_sem,recoverD,hu,BS,Exit.thenS];refine Aeo (nM (vA ?_));simp[wpOps,Oper.wp,Oper.upon,go_sem,Exit.then];left;left;refine Aek ?_ (wp_skip ?_)
 ·simp[Act.eval,Array.replicate]
 cases c₀
 simp_all[bodyPostS,results,BI]
def AP (e:Int):Nat->AV:=fun t=>if t=0 then .ptr ⟨0,2,0⟩ 1 0 else if t=1 then .ptr ⟨0,4,0⟩ 1 0 else if t=2 then .ptr ⟨0,5,0⟩ 1 0 else if t=3 then .ptr ⟨0,6,0⟩ 1 0 else if t=13 then .agg [iv e] else if t=14 then bv true else .any
@[simp] theorem frK_0 {e:Int}:AP e 0= .ptr ⟨0,2,0⟩ 1 0:=rfl
@[simp] theorem frK_1 {e:Int}:AP e 1= .ptr ⟨0,4,0⟩ 1 0:=rfl
@[simp] theorem frK_2 {e:Int}:AP e 2= .ptr ⟨0,5,0⟩ 1 0:=rfl
@[simp] theorem frK_3 {e:Int}:AP e 3= .ptr ⟨0,6,0⟩ 1 0:=rfl
@[simp] theorem frK_13 {e:Int}:AP e 13= .agg [iv e]:=rfl
@[simp] theorem frK_14 {e:Int}:AP e 14=bv true:=rfl
theorem doC_w {c0 c1 CC:Code}{x:Operand}{id:Nat}{ops:Array Oper}(hb:Tryz.f19.body=some (.seq c0 (.seq c1 (.cond x (.seq (.region id ops false) CC) .skip)))){ns vs:List ByteArray}{e:Int}{hp:Hp}(y2:hp ⟨0,2,0⟩= .box 1 (I7 ns vs) false)(y4:hp ⟨0,4,0⟩= .box 1 [.own ⟨0,4,1⟩ 1 0,.own ⟨0,4,2⟩ 1 0,.own ⟨0,4,3⟩ 1 0,.own ⟨0,4,4⟩ 1 0,.own ⟨0,4,5⟩ 1 0,iv 0,.own ⟨0,4,7⟩ 1 0] false)(y5:hp ⟨0,5,0⟩= .box 1 [tv ⟨⟨[]⟩⟩] false)(y6:hp ⟨0,6,0⟩= .box 1 [iv 0] false):
  ∃st',cW P0 EC 1 LC ops (ops.toList.drop 5) ⟨AP e,hp⟩=some st'/\W P0 EC 1 LC CC st' (fun e1 s=>e1= .normal/\s.hp ⟨0,4,0⟩= .box 1 (I7 ns vs) false/\s.hp ⟨0,5,0⟩= .box 1 [tv ⟨⟨[]⟩⟩] false/\s.hp ⟨0,6,0⟩= .box 1 [iv e] false):=by
 unfold I7 at y2
 cases hb
 refine⟨⟨Uw (Uw (AP e) (some 5) (.ptr ⟨1,5,0⟩ ((hp ⟨1,5,0⟩).gen+1) 0)) (some 6) (bv true),Ur hp ⟨1,5,0⟩ (.box ((hp ⟨1,5,0⟩).gen+1) [iv e] false)⟩,?_,?_⟩
 ·simp[cW]
 repeat' first|refine ZN ?_|refine Z2 ?_ ?_|intro h h';try simp[*,-h] at h'
 all_goals exact⟨rfl,by simp[I7],Zm,Zi⟩
end
section
open Go Go.Ab Go.Ab.Sy
variable {act:Act}{t:ByteArray}{c0 c1:Code}{hp1 hq:Hp}{rs:List AV}{m1:Mp}{fr:Nat->AV}{I I1:Nat->Prop}{w w1 w2:World}
theorem rs_do :Tryz.f10.results.toList=[.cell 4 32,.cell 5 9,.cell 6 33]:=rfl
theorem Ata {N:Nat}{U7:Hp}{D:List Deferred}(E01:aL I (fun b=>b<w.heap.size/\ ¬I b) (fun _=>none) U9 w I1 m1 hp1 w1)(S:aX 0 N (fun b=>b<w.heap.size/\ ¬I b) ⟨I1,m1,hp1,w1,D⟩ ⟨fr,hq⟩ act w2)(hr:(aN P0 fr [32,9,33] [.cell 4 32,.cell 5 9,.cell 6 33]).run hq=some (rs,U7)):
  ∃v,(results Tryz.f10 act.tmps).run P0 w2= .ok v w2/\aW P0 I w (Iv P0 10) rs v w2:=by
 obtain⟨I2,m2,G1,E1,mY,_,nX⟩:=S;obtain⟨I3,bs,us',Uk,G2,E2,d2,nb,i2,l2,m3,n2⟩:=Et G1 mY hr;have hrt:Iv P0 10=[32,9,33]:=Zf;refine⟨gF us',Bl Tryz.f10 _ us' (by rw[rs_do];exact Uk),?_⟩;have E12:=(E01.trans E1).trans E2;exact {
  old:=fun b hb=>E12.keep b (by
   by_cases hi:I b
   ·exact .inl hi
   ·exact .inr ⟨hb,hi⟩)
  size:=E12.size
  os:=E12.os
  tape:=E12.tape
  output:=E12.output
  res:=⟨I3,us',bs,rfl,E12.isub,fun b hb=>by
    by_cases hi:I b
    ·exact .inl hi
    ·exact .inr (GN fun Ii=>G2.ik b hb ⟨Ii,hi⟩),G2.ilt,fun b hb=>by
    refine⟨GN fun Ii=>?_,(nb b hb).1⟩;by_cases hi:I b
    ·exact(nb b hb).1 (E12.isub b hi)
    ·exact(nb b hb).2 ⟨Ii,hi⟩,n2,by rw[hrt];exact d2⟩}
def yS (A1 A2:List (List AV)):List AV:=[.vec 1 A1,.vec 1 A2,.sl false 1 [],.sl false 6 [],.sl false 4 [],iv 0,.sl false 7 []]
def TD (rs:List AV)(s:AS):Prop:= ∃U7,(aN P0 s.fr [32,9,33] [.cell 4 32,.cell 5 9,.cell 6 33]).run s.hp=some (rs,U7)
theorem td_own {A1 A2:List (List AV)}{n1 n2 ga gb:Nat}{e:Int}(f4:fr 4= .ptr ⟨0,4,0⟩ 1 0)(f5:fr 5= .ptr ⟨0,5,0⟩ 1 0)(f6:fr 6= .ptr ⟨0,6,0⟩ 1 0)(wG:A1.length=n1)(aO:A2.length=n2)
  (b4:hq ⟨0,4,0⟩= .box 1 [.own ⟨0,4,1⟩ ga n1,.own ⟨0,4,2⟩ gb n2,.sl false 1 [],.sl false 6 [],.sl false 4 [],iv 0,.sl false 7 []] false) (b41:hq ⟨0,4,1⟩= .arr ga 1 9 A1 false) (b42:hq ⟨0,4,2⟩= .arr gb 1 9 A2 false) (b5:hq ⟨0,5,0⟩= .box 1 [tv t] false) (b6:hq ⟨0,6,0⟩= .box 1 [iv e] false):TD [.agg (yS A1 A2),tv t,iv e] ⟨fr,hq⟩:=by
 subst wG aO;unfold TD yS;apply Exists.intro
 (conv=>lhs;simp -implicitDefEqProofs [*,aN,kR])<;>exact rfl
theorem Bba {ns vs:List ByteArray}{e:Int}(f4:fr 4= .ptr ⟨0,4,0⟩ 1 0)(f5:fr 5= .ptr ⟨0,5,0⟩ 1 0)(f6:fr 6= .ptr ⟨0,6,0⟩ 1 0)
  (b4:hq ⟨0,4,0⟩= .box 1 (I7 ns vs) false) (b5:hq ⟨0,5,0⟩= .box 1 [tv t] false) (b6:hq ⟨0,6,0⟩= .box 1 [iv e] false):TD [.agg (I7 ns vs),tv t,iv e] ⟨fr,hq⟩:=by
 unfold I7 at b4⊢;unfold TD;apply Exists.intro
 (conv=>lhs;simp -implicitDefEqProofs [*,aN,kR])<;>exact rfl
theorem Hk {c2 c3 c4 d8 d9 d10:Code}(hb:Tryz.f10.body=some (.seq c0 (.seq c1 (.seq c2 (.seq c3 (.seq c4 (.seq d8 (.seq d9 (.seq d10 .ret))))))))):(∀c∈[c0,c1,c2,c3],Im 49 c=true)/\Im 49 d8=true/\Im 49 d9=true/\Im 49 (.seq d10 .ret)=true:=by
 have h:Im 49 (.seq c0 (.seq c1 (.seq c2 (.seq c3 (.seq c4 (.seq d8 (.seq d9 (.seq d10 .ret))))))))=true:=by
  have h0:(match Tryz.f10.body with|some c=>Im 49 c|none=>false)=true:=Zf;rw[hb] at h0;exact h0
 simp only[Im,Ed] at h;obtain⟨a0,a1,a2,a3,a4,a8,a9,a10⟩:=h;refine⟨?_,a8,a9,?_⟩
 ·intro c hc
  simp only[sV,Ac4,or_false] at hc;rcases hc with rfl|rfl|rfl|rfl<;>assumption
 ·simp only[Im,a10.1,Ade,Zt]
def BR (p q r s:Value):Deferred:={target:= .fn (.func 19) #[p,q,r,s],args:= #[]}
theorem Wa (p q r s:Value)(w:World):(invoke (.fn (.func 19) #[p,q,r,s]) #[]).run P0 w= .ok (.enter 19 #[p,q,r,s]) w:=by
 simp[go_sem]
theorem NC{p q r s:Addr}(E01:aL I (fun b=>b<w.heap.size/\ ¬I b) (fun _=>none) U9 w I1 m1 hp1 w1)(S:aX 0 49 (fun b=>b<w.heap.size/\ ¬I b) ⟨I1,m1,hp1,w1,[BR (.pointer (some p)) (.pointer (some q)) (.pointer (some r)) (.pointer (some s))]⟩ ⟨fr,hq⟩ act w2)(ht:TD rs ⟨fr,hq⟩):
  Leaves P0 Tryz.f10 act.tmps (fun e2 w2=> ∃u,e2=Ending.returned u/\aW P0 I w (Iv P0 10) rs u w2) act.defers .returning w2:=by
 obtain⟨U7,ht⟩:=ht;obtain⟨v,hv,hS⟩:=Ata E01 S ht;obtain⟨_,_,_,_,_,_,hd⟩:=S;rw[hd];refine Ad2 (f:=19) (args:= #[.pointer (some p),.pointer (some q),.pointer (some r),.pointer (some s)]) Zi (Wa _ _ _ _ _) ?_;refine(Kia p q r s w2).mono ?_;rintro e1 u' w1 ⟨rfl,rfl,rfl⟩;exact⟨v,hv,v,rfl,hS⟩
theorem Kha(E01:aL I (fun b=>b<w.heap.size/\ ¬I b) (fun _=>none) U9 w I1 m1 hp1 w1)(S:aX 0 49 (fun b=>b<w.heap.size/\ ¬I b) ⟨I1,m1,hp1,w1,[]⟩ ⟨fr,hq⟩ act w2)(ht:TD rs ⟨fr,hq⟩):
  Leaves P0 Tryz.f10 act.tmps (fun e2 w2=> ∃u,e2=Ending.returned u/\aW P0 I w (Iv P0 10) rs u w2) act.defers .returning w2:=by
 obtain⟨U7,ht⟩:=ht;obtain⟨v,hv,hS⟩:=Ata E01 S ht;obtain⟨_,_,_,_,_,_,hd⟩:=S;rw[hd];exact⟨v,hv,v,rfl,hS⟩
def CK9 (I K:Nat->Prop)(m:Mp)(hp:Hp)(w:World)(e:Int)(If:Hp)(en:Ending)(u':FrameMode)(w':World):Prop:=en= .returned (.tuple #[])/\u'= .panicking [{v:=iX e,recovered:=true}]/\
 ∃I' m',Uj I' K m' If w'/\aL I K m hp w I' m' If w'
theorem Xx {CC:Code}{x:Operand}{id:Nat}{ops:Array Oper}(hb:Tryz.f19.body=some (.seq c0 (.seq c1 (.cond x (.seq (.region id ops false) CC) .skip)))){K:Nat->Prop}{m:Mp}{hp:Hp}{e:Int}{st' s':AS}{p q r s:Value}(hE:cW P0 EC 1 LC ops (ops.toList.drop 5) ⟨AP e,hp⟩=some st')(hW:W P0 EC 1 LC CC st' (fun e s=>e= .normal/\s=s'))(G:Uj I K m hp w)(h2:Ie 0 I m hp w (.ptr ⟨0,2,0⟩ 1 0) p)(h4:Ie 0 I m hp w (.ptr ⟨0,4,0⟩ 1 0) q)(h5:Ie 0 I m hp w (.ptr ⟨0,5,0⟩ 1 0) r)(h6:Ie 0 I m hp w (.ptr ⟨0,6,0⟩ 1 0) s):
  CallsD P0 19 #[p,q,r,s] (.panicking (iN (iX e))) w (CK9 I K m hp w e s'.hp):=by
 have yG:Im 21 CC=true:=by
  have h0:(match Tryz.f19.body with|some c=>Im 21 c|none=>false)=true:=Zf;rw[hb] at h0;simp only[Im,Ed] at h0;exact h0.2.2.1.2.2
 have zS:=hb
 cases hb
 refine Adr Tryz.func19 rfl fun c₀ cs hu=>?_
 apply wpS_seq;apply Ad9;simp[wpOpsS,go_sem,recoverD,hu,iN,BS,Exit.thenS];refine Aeo (nM (vA ?_));simp[wpOps,Oper.wp,Oper.upon,go_sem,Exit.then,iX];left;left;refine wp_cond_true ?_ ?_
 ·simp[Act.eval,Array.replicate]
 refine nM (vA ?_);rw[show∀x0 x1 x2 x3 x4 x5 x6 x7:Oper,List.range (#[x0,x1,x2,x3,x4,x5,x6,x7]:Array Oper).size=0::1::2::3::4::(List.range' 5 3++[]) from fun _ _ _ _ _ _ _ _=>rfl];generalize hLd:List.range' 5 3++[]=Ld;simp[wpOps,Oper.wp,Oper.upon,go_sem,Instr.typeAssert];subst hLd;left;left;left;left;left;refine Ey (N:=21) (k:=1) (K:=K) (B:=⟨I,m,hp,w,[]⟩) Dh jV _ 5 ?_ ?_ ?_ hE ?_
 ·intro j hj
  match j,hj with
  |0,_=>rfl
  |1,_=>rfl
  |2,_=>rfl
 ·simp
 ·refine⟨I,m,G,.refl _ _ _ _ _,fun t=>?_,Zi,rfl⟩
  show Ie 1 I m hp w (AP e t) _;by_cases e0:t=0
  ·subst e0;simpa[Act.eval] using Ie.depth (uY 0) _ _ h2
  by_cases e1:t=1
  ·subst e1;simpa[Act.eval] using Ie.depth (uY 0) _ _ h4
  by_cases e2:t=2
  ·subst e2;simpa[Act.eval] using Ie.depth (uY 0) _ _ h5
  by_cases e3:t=3
  ·subst e3;simpa[Act.eval] using Ie.depth (uY 0) _ _ h6
  by_cases e4:t=13
  ·subst e4;simp[Act.eval,Ie,bM]
  by_cases e5:t=14
  ·subst e5;simp[Act.eval,Ie]
  simp[AP,e0,e1,e2,e3,e4,e5,Ie]
 intro a' w' S';refine W.wp (N:=21) (k:=1) (K:=K) (B:=⟨I,m,hp,w,[]⟩) (E:=EC) (call:=LC) (st:=st') An Dh jV hW yG S' ?_ ?_
 ·rintro e1 s2 a2 w2 ⟨rfl,rfl⟩ ⟨I1,m1,G1,E1,_,_,hd⟩
  refine⟨hd,_,rfl,?_⟩;refine⟨.tuple #[],by simp[results,BI],?_⟩;exact⟨rfl,rfl,I1,m1,G1,E1⟩
 ·rintro v hp' a' w' ⟨h,_⟩
  exact nomatch h
end
section
open Go Go.Ab Go.Ab.Sy
variable {st:AS}{a:Act}{B:jZ}{verb ks:ByteArray}{c0 c1 c2 c3 c4 d8 d9 d10:Code}{Q:Exit->Act->World->Prop}{hp':Hp}{ns vs ws:List ByteArray}{f t g N:Nat}{fr:Nat->AV}{K:Nat->Prop}{wd:World}
theorem DN.keep{s:AS}{If:Hp}(h:DN ns vs ws verb ks f s)(lW: ∀t,t<31->fr t=s.fr t)(hf: ∀i c,i≠36->If ⟨0,i,c⟩=s.hp ⟨0,i,c⟩):DN ns vs ws verb ks f ⟨fr,If⟩:=
 ⟨(lW 2 Zo).trans h.f2,(hf 2 0 Zo).trans h.b2,(lW 3 Zo).trans h.f3,(hf 3 0 Zo).trans h.b3,(lW 4 Zo).trans h.f4,(hf 4 0 Zo).trans h.b4,(lW 5 Zo).trans h.f5,(hf 5 0 Zo).trans h.b5,(lW 6 Zo).trans h.f6,(hf 6 0 Zo).trans h.b6,(lW 7 Zo).trans h.f7,(hf 7 0 Zo).trans h.b7⟩
def mC (fr:Nat->AV)(f:Nat):Nat->AV:=Uw (Uw (Uw fr (some 37) (.ptr ⟨0,7,0⟩ 1 1)) (some 38) (.fn f [])) (some 39) (fr 10)
theorem Cea(h:t<31):mC fr f t=fr t:=by
 have h1:t≠37:=Zo;have h2:t≠38:=Zo;have h3:t≠39:=Zo;simp[mC,Uw,h1,h2,h3]
theorem Xj{v:AV}(h:t<31):Uw (mC fr f) (some 40) v t=fr t:=by
 have h1:t≠40:=Zo;rw[<-Cea (fr:=fr) (f:=f) h];simp[Uw,h1]
theorem do_d9(hb:Tryz.f10.body=some (.seq c0 (.seq c1 (.seq c2 (.seq c3 (.seq c4 (.seq d8 (.seq d9 (.seq d10 .ret)))))))))(hN:N=49)(h:DN ns vs ws verb ks f st)(lC:st.fr 10= .ptr ⟨0,36,0⟩ g 0)(Uz:Il P0 f=true)(Ii:f<1000000)(hc:sG P0 0 f [.ptr ⟨0,36,0⟩ g 0] st.hp (.tup []) hp')(S:aX 0 N K B st a wd)
  (hQ: ∀a' w',aX 0 N K B ⟨Uw (mC st.fr f) (some 40) (.tup []),hp'⟩ a' w'->Q .normal a' w'):d9.wp P0 Q a wd:=by
 subst hN;obtain⟨fr,hq⟩:=st;obtain⟨f2,b2,f3,b3,f4,b4,f5,b5,f6,b6,f7,b7⟩:=h;simp only at f7 b7 lC hc hQ
 cases hb
 refine Tb (P:=P0) (E:=EC) (call:=LC) (k:=0) (pre:=[_,_,_]) (st':=⟨mC fr f,hq⟩) (f:=f) (cs:=[]) (v:= .tup []) (hp':=hp') Dh jV Zf S ?_ ?_ Uz Ii ?_ hQ
 ·simp[cW,mC, *]
 ·simp[mC,Uy]
 ·simpa[mC,lC] using hc
theorem do_d9p(hb:Tryz.f10.body=some (.seq c0 (.seq c1 (.seq c2 (.seq c3 (.seq c4 (.seq d8 (.seq d9 (.seq d10 .ret)))))))))(hN:N=49)(h:DN ns vs ws verb ks f st)(lC:st.fr 10= .ptr ⟨0,36,0⟩ g 0)(Uz:Il P0 f=true)(Ii:f<1000000){v:Value}(hc:B7 P0 0 f [.ptr ⟨0,36,0⟩ g 0] st.hp v hp')(S:aX 0 N K B st a wd)
  (hQ: ∀a' w',aX 0 N K B ⟨mC st.fr f,hp'⟩ a' w'->Q (.panic (iN v)) a' w'):d9.wp P0 Q a wd:=by
 subst hN;obtain⟨fr,hq⟩:=st;obtain⟨f2,b2,f3,b3,f4,b4,f5,b5,f6,b6,f7,b7⟩:=h;simp only at f7 b7 lC hc hQ
 cases hb
 refine Mf (P:=P0) (E:=EC) (call:=LC) (k:=0) (pre:=[_,_,_]) (st':=⟨mC fr f,hq⟩) (f:=f) (cs:=[]) (v:=v) (hp':=hp') Dh jV Zf S ?_ ?_ Uz Ii ?_ hQ
 ·simp[cW,mC, *]
 ·simp[mC,Uy]
 ·simpa[mC,lC] using hc
theorem NB(hb:Tryz.f10.body=some (.seq c0 (.seq c1 (.seq c2 (.seq c3 (.seq c4 (.seq d8 (.seq d9 (.seq d10 .ret))))))))){t:ByteArray}(h:DN ns vs ws verb ks f st)(lC:st.fr 10= .ptr ⟨0,36,0⟩ g 0)(k0:st.hp ⟨0,36,0⟩= .box g (bV ns vs ws t) false):
  W P0 EC 0 LC (.seq d10 .ret) st (fun e s2=>e= .ret/\(s2.fr 4= .ptr ⟨0,4,0⟩ 1 0/\s2.fr 5= .ptr ⟨0,5,0⟩ 1 0/\s2.fr 6= .ptr ⟨0,6,0⟩ 1 0)/\s2.hp ⟨0,4,0⟩= .box 1 (I7 ns vs) false/\s2.hp ⟨0,5,0⟩= .box 1 [tv t] false/\s2.hp ⟨0,6,0⟩= .box 1 [iv 0] false):=by
 obtain⟨fr,hq⟩:=st;obtain⟨f2,b2,f3,b3,f4,b4,f5,b5,f6,b6,f7,b7⟩:=h;simp only at f2 b2 f3 b3 f4 b4 f5 b5 f6 b6 f7 b7 lC k0;unfold I7 at b2;unfold bV at k0
 cases hb
 repeat' first|refine ZN ?_|refine Z2 ?_ ?_|intro h h';try simp[*,-h] at h'
 all_goals exact⟨rfl,⟨Zm,Zm,Zm⟩,by simp[I7],Zi,Zi⟩
def EX (RS:List AV->Prop)(ns vs ws:List ByteArray)(g:Nat)(If:Hp):Prop:=
 (∃(A1 A2:List (List AV)) (n1 n2 g1 g2:Nat) (t:ByteArray),If ⟨0,36,0⟩= .box g [.own ⟨0,36,1⟩ g1 n1,.own ⟨0,36,2⟩ g2 n2,.sl false 1 [],.sl false 6 [],.sl false 4 [],iv 0,.sl false 7 [],.sl false 1 (aE ws),tv t] false/\If ⟨0,36,1⟩= .arr g1 1 9 A1 false/\If ⟨0,36,2⟩= .arr g2 1 9 A2 false/\A1.length=n1/\A2.length=n2/\RS [.agg (yS A1 A2),tv t,iv 0])\/
 ∃t:ByteArray,If ⟨0,36,0⟩= .box g (bV ns vs ws t) false/\RS [.agg (I7 ns vs),tv t,iv 0]
def NX (RS:List AV->Prop)(ns vs ws:List ByteArray)(f:Nat):Prop:= ∀(g:Nat) (hp1:Hp),hp1 ⟨0,36,0⟩= .box g (bV ns vs ws ⟨⟨[]⟩⟩) false->
 (∃If,sG P0 0 f [.ptr ⟨0,36,0⟩ g 0] hp1 (.tup []) If/\(∀i c,i≠36->If ⟨0,i,c⟩=hp1 ⟨0,i,c⟩)/\EX RS ns vs ws g If)\/
 ∃(e:Int) (If:Hp),B7 P0 0 f [.ptr ⟨0,36,0⟩ g 0] hp1 (iX e) If/\(∀i c,i≠36->If ⟨0,i,c⟩=hp1 ⟨0,i,c⟩)/\RS [.agg (I7 ns vs),tv ⟨⟨[]⟩⟩,iv e]
end
section
open Go Go.Ab Go.Ab.Sy
variable {s1:AS}{verb ks:ByteArray}{c0 c1 c2 c3 c4 d8 d9 d10:Code}{rs:List AV}{ns vs ws:List ByteArray}{f:Nat}
theorem Xv(hb:Tryz.f10.body=some (.seq c0 (.seq c1 (.seq c2 (.seq c3 (.seq c4 (.seq d8 (.seq d9 (.seq d10 .ret)))))))))(h1:DN ns vs ws verb ks f s1)(vR:lM P0 EC 0 LC (fun e2 s2=>e2= .normal/\s2=s1) (fun s2=>s2=s1/\Ab.Ex.normal= .normal) [c0,c1,c2,c3] ⟨Uh [.agg (I7 ns vs),.agg [tv verb,.sl false 1 (aE ws)]],U9⟩)
  (oL: ∀(I I1:Nat->Prop) (m1:Mp) (w w1:World) (act:Act) (p q r s:Addr),aL I (fun b=>b<w.heap.size/\ ¬I b) (fun _=>none) U9 w I1 m1 s1.hp w1->aX 0 49 (fun b=>b<w.heap.size/\ ¬I b) ⟨I1,m1,s1.hp,w1,[BR (.pointer (some p)) (.pointer (some q)) (.pointer (some r)) (.pointer (some s))]⟩ ⟨Uw s1.fr (some 31) .any,s1.hp⟩ act w1->Ie 0 I1 m1 s1.hp w1 (.ptr ⟨0,2,0⟩ 1 0) (.pointer (some p))->Ie 0 I1 m1 s1.hp w1 (.ptr ⟨0,4,0⟩ 1 0) (.pointer (some q))->Ie 0 I1 m1 s1.hp w1 (.ptr ⟨0,5,0⟩ 1 0) (.pointer (some r))->Ie 0 I1 m1 s1.hp w1 (.ptr ⟨0,6,0⟩ 1 0) (.pointer (some s))->
   (Code.seq d8 (.seq d9 (.seq d10 .ret))).wp P0 (bodyPostD P0 Tryz.f10 (fun e2 w2=> ∃u,e2=Ending.returned u/\aW P0 I w (Iv P0 10) rs u w2)) act w1):eN P0 10 [.agg (I7 ns vs),.agg [tv verb,.sl false 1 (aE ws)]] rs:=by
 intro Uz I w us Ii oJ ha;have hl:us.length=2:=by rw[<-ha.1];rfl
 have hN:Tryz.f10.ntmps=49:=rfl;have S0:aX 0 49 (fun b=>b<w.heap.size/\ ¬I b) ⟨I,fun _=>none,U9,w,[]⟩ ⟨Uh [.agg (I7 ns vs),.agg [tv verb,.sl false 1 (aE ws)]],U9⟩ {tmps:=(⟨us⟩:Array Value)++Array.replicate (Tryz.f10.ntmps - (⟨us⟩:Array Value).size) undef,defers:=[]} w:=by
  refine⟨I,fun _=>none,⟨fun x=>trivial,fun x y p q hl=>by simp[U9,It.live] at hl,Ii,fun b hb=>hb.1,fun b hb hk=>hk.2 hb,oJ⟩,.refl _ _ _ _ _,fun t=>Cl (ha.imp fun a u h=>Gz h) t,?_,rfl⟩;simp only[AX,AW,BA,hN];omega
 refine Ac8 Tryz.func10 hb ?_;refine lM.wp An Dh jV (fun s2 a' w' hh S=>?_) (fun e s2 a' w' Ir hh S=>(Ir hh.1).elim) (fun v hp' a' w' h=>nomatch h.1) [c0,c1,c2,c3] vR (Hk hb).1 S0;obtain⟨rfl,_⟩:=hh;obtain⟨I1,m1,G1,E1,uI,pN,nX⟩:=S;have R2:=uI 2;have R4:=uI 4;have R5:=uI 5;have R6:=uI 6;rw[h1.f2] at R2;rw[h1.f4] at R4;rw[h1.f5] at R5;rw[h1.f6] at R6;have Q2:=R2;have Q4:=R4;have Q5:=R5;have Q6:=R6;simp only[Ie] at Q2 Q4 Q5 Q6;obtain⟨x2,_,_,e2⟩:=Q2.2.2 _ _ h1.b2;obtain⟨x4,_,_,e4⟩:=Q4.2.2 _ _ h1.b4;obtain⟨x5,_,_,e5⟩:=Q5.2.2 _ _ h1.b5;obtain⟨x6,_,_,e6⟩:=Q6.2.2 _ _ h1.b6;refine nM (do_c4 hb pN ?_);have S':aX 0 49 (fun b=>b<w.heap.size/\ ¬I b) ⟨I1,m1,s2.hp,w',[BR (.pointer (some ⟨x2,0,none⟩)) (.pointer (some ⟨x4,0,none⟩)) (.pointer (some ⟨x5,0,none⟩)) (.pointer (some ⟨x6,0,none⟩))]⟩ ⟨Uw s2.fr (some 31) .any,s2.hp⟩ {(a'.put (some 31) (.func (.func 19) #[] #[a'.eval (.tmp 2),a'.eval (.tmp 4),a'.eval (.tmp 5),a'.eval (.tmp 6)])) with defers:={target:= .fn (.func 19) #[a'.eval (.tmp 2),a'.eval (.tmp 4),a'.eval (.tmp 5),a'.eval (.tmp 6)],args:= #[]}::a'.defers} w':=by
  refine⟨I1,m1,G1,.refl _ _ _ _ _,fun t=>?_,?_,?_⟩
  ·show Ie 0 I1 m1 s2.hp w' (Uw s2.fr (some 31) .any t) ((a'.put (some 31) _).eval (.tmp t))
   rw[G7 _ _ _ _ Zo];by_cases h:t=31
   ·subst h;simp[Ie]
   ·simp only[Jx h]
    have:Uw s2.fr (some 31) .any t=s2.fr t:=by simp[Uw,h]
    rw[this];exact uI t
  ·show(a'.put (some 31) _).tmps.size=49
   rw[Eu];exact pN
  ·show _::a'.defers=_
   rw[nX,e2,e4,e5,e6];rfl
 exact oL I I1 m1 w w' _ _ _ _ _ E1 S' (by rw[e2] at R2;simpa using R2) (by rw[e4] at R4;simpa using R4) (by rw[e5] at R5;simpa using R5) (by rw[e6] at R6;simpa using R6)
theorem Xw(hb:Tryz.f10.body=some (.seq c0 (.seq c1 (.seq c2 (.seq c3 (.seq c4 (.seq d8 (.seq d9 (.seq d10 .ret)))))))))(vR:lM P0 EC 0 LC (fun e2 s2=>e2= .ret/\s2=s1) (fun s2=>s2=s1/\Ab.Ex.ret= .normal) [c0,c1,c2,c3] ⟨Uh [.agg (I7 ns vs),.agg [tv verb,.sl false 1 (aE ws)]],U9⟩)(ht:TD rs s1):eN P0 10 [.agg (I7 ns vs),.agg [tv verb,.sl false 1 (aE ws)]] rs:=by
 intro Uz I w us Ii oJ ha;have hl:us.length=2:=by rw[<-ha.1];rfl
 have hN:Tryz.f10.ntmps=49:=rfl;have S0:aX 0 49 (fun b=>b<w.heap.size/\ ¬I b) ⟨I,fun _=>none,U9,w,[]⟩ ⟨Uh [.agg (I7 ns vs),.agg [tv verb,.sl false 1 (aE ws)]],U9⟩ {tmps:=(⟨us⟩:Array Value)++Array.replicate (Tryz.f10.ntmps - (⟨us⟩:Array Value).size) undef,defers:=[]} w:=by
  refine⟨I,fun _=>none,⟨fun x=>trivial,fun x y p q hl=>by simp[U9,It.live] at hl,Ii,fun b hb=>hb.1,fun b hb hk=>hk.2 hb,oJ⟩,.refl _ _ _ _ _,fun t=>Cl (ha.imp fun a u h=>Gz h) t,?_,rfl⟩;simp only[AX,AW,BA,hN];omega
 refine Ac8 Tryz.func10 hb ?_;refine lM.wp An Dh jV (fun s2 a' w' h=>nomatch h.2) (fun e s2 a' w' Ir h S=>?_) (fun v hp' a' w' h=>nomatch h.1) [c0,c1,c2,c3] vR (Hk hb).1 S0;obtain⟨rfl,rfl⟩:=h;exact Kha (.refl _ _ _ _ _) S ht
theorem ND {CC:Code}{x:Operand}{id:Nat}{ops:Array Oper}(hb:Tryz.f19.body=some (.seq c0 (.seq c1 (.cond x (.seq (.region id ops false) CC) .skip)))){I I1:Nat->Prop}{m1:Mp}{hp1 hq:Hp}{w w1 w2:World}{fr:Nat->AV}{act:Act}{p q r s:Value}{e:Int}{st' s':AS}(hE:cW P0 EC 1 LC ops (ops.toList.drop 5) ⟨AP e,hq⟩=some st')(hW:W P0 EC 1 LC CC st' (fun e s=>e= .normal/\s=s'))(ht:TD rs ⟨fr,s'.hp⟩)(E01:aL I (fun b=>b<w.heap.size/\ ¬I b) (fun _=>none) U9 w I1 m1 hp1 w1)(S:aX 0 49 (fun b=>b<w.heap.size/\ ¬I b) ⟨I1,m1,hp1,w1,[BR p q r s]⟩ ⟨fr,hq⟩ act w2)
  (AI: ∀I2 m2,Uj I2 (fun b=>b<w.heap.size/\ ¬I b) m2 hq w2->aL I1 (fun b=>b<w.heap.size/\ ¬I b) m1 hp1 w1 I2 m2 hq w2->Ie 0 I2 m2 hq w2 (.ptr ⟨0,2,0⟩ 1 0) p/\Ie 0 I2 m2 hq w2 (.ptr ⟨0,4,0⟩ 1 0) q/\Ie 0 I2 m2 hq w2 (.ptr ⟨0,5,0⟩ 1 0) r/\Ie 0 I2 m2 hq w2 (.ptr ⟨0,6,0⟩ 1 0) s):
  Leaves P0 Tryz.f10 act.tmps (fun e2 w2=> ∃u,e2=Ending.returned u/\aW P0 I w (Iv P0 10) rs u w2) act.defers (.panicking (iN (iX e))) w2:=by
 obtain⟨I2,m2,G1,E1,hf,hs,hd⟩:=S;obtain⟨r2,r4,r5,r6⟩:=AI I2 m2 G1 E1;rw[hd];refine Ad2 (f:=19) (args:= #[p,q,r,s]) Zi (Wa _ _ _ _ _) ?_;refine(Xx hb hE hW G1 r2 r4 r5 r6).mono ?_;rintro e1 u' w3 ⟨rfl,rfl,I',m',G',E'⟩;obtain⟨U7,ht⟩:=ht;obtain⟨v,hv,hS⟩:=Ata (N:=49) (fr:=fr) (hq:=s'.hp) (act:=act) (D:=[BR p q r s]) E01 (S:=⟨I',m',G',E1.trans E',fun t=>Ie.mono E' _ _ _ (hf t),hs,hd⟩) ht;exact⟨v,hv,v,rfl,hS⟩
theorem P5{RS:List AV->Prop}{i:Nat}(hk:dY (.string verb) Je 0=some (some i))(hr:L9[i]?=some [tv ks,.fn f []])(hc:LC.dat 18 [.agg (I7 ns vs),tv ks,.sl false 1 (aE ws)]=some [iv 0])(Uz:Il P0 f=true)(Ii:f<1000000)(hM:NX RS ns vs ws f): ∃rs,RS rs/\eN P0 10 [.agg (I7 ns vs),.agg [tv verb,.sl false 1 (aE ws)]] rs:=by
 obtain⟨c0,c1,c2,c3,c4,d8,d9,d10,hb⟩: ∃c0 c1 c2 c3 c4 d8 d9 d10,Tryz.f10.body=some (.seq c0 (.seq c1 (.seq c2 (.seq c3 (.seq c4 (.seq d8 (.seq d9 (.seq d10 .ret)))))))):=⟨_,_,_,_,_,_,_,_,rfl⟩;obtain⟨e1,s1,vR,h1⟩:=lM.pick _ (NA hb hk hr hc);rcases h1 with⟨rfl,h1⟩|⟨_,h1⟩
 case inr=>exact h1.elim
 have pS:DN ns vs ws verb ks f ⟨Uw s1.fr (some 31) .any,s1.hp⟩:=h1.keep (fun t ht=>by have:t≠31:=Zo;simp[Uw,this]) (fun i c _=>rfl);obtain⟨e8,s8,hW8,rfl,h8,g,lC,bx⟩:=W.pick (do_d8 hb pS);rcases hM g s8.hp bx with⟨If,hc9,hfm,hE⟩|⟨e,If,hc9,hfm,hRS⟩
 ·have h9:DN ns vs ws verb ks f ⟨Uw (mC s8.fr f) (some 40) (.tup []),If⟩:=h8.keep (fun t ht=>Xj ht) hfm
  have h10':Uw (mC s8.fr f) (some 40) (.tup []) 10= .ptr ⟨0,36,0⟩ g 0:=(Xj Zo).trans lC;have xK: ∃rs e10 s10,RS rs/\W P0 EC 0 LC (.seq d10 .ret) ⟨Uw (mC s8.fr f) (some 40) (.tup []),If⟩ (fun e1 s=>e1=e10/\s=s10)/\e10= .ret/\TD rs s10:=by
   rcases hE with⟨A1,A2,n1,n2,g1,g2,t,k0,k1,k2,wG,aO,hRS⟩|⟨t,k0,hRS⟩
   ·obtain⟨e10,s10,xO,rfl,⟨f4,f5,f6⟩,⟨ga,gb,b4,b41,b42⟩,b5,b6⟩:=W.pick (do_d10 hb h9 h10' wG aO k0 k1 k2)
    exact⟨_,_,s10,hRS,xO,rfl,td_own f4 f5 f6 wG aO b4 b41 b42 b5 b6⟩
   ·obtain⟨e10,s10,xO,rfl,⟨f4,f5,f6⟩,b4,b5,b6⟩:=W.pick (NB hb h9 h10' k0)
    exact⟨_,_,s10,hRS,xO,rfl,Bba f4 f5 f6 b4 b5 b6⟩
  obtain⟨rs,e10,s10,hRS,xO,rfl,ht⟩:=xK;refine⟨rs,hRS,Xv hb h1 vR fun I I1 m1 w w1 act p q r s E01 S _ _ _ _=>?_⟩;refine nM (W.wp An Dh jV hW8 (Hk hb).2.1 S (fun e s2 a' w' hh S'=>?_) (fun v hp' a' w' h=>nomatch h.1));obtain⟨rfl,rfl⟩:=hh;refine nM (do_d9 hb rfl h8 lC Uz Ii hc9 S' fun a2 w2 S2=>?_);refine W.wp An Dh jV xO (Hk hb).2.2.2 S2 (fun e s2 a' w' hh S'=>?_) (fun v hp' a' w' h=>nomatch h.1);obtain⟨rfl,rfl⟩:=hh;exact NC E01 S' ht
 ·have h9:DN ns vs ws verb ks f ⟨mC s8.fr f,If⟩:=h8.keep (fun t ht=>Cea ht) hfm
  obtain⟨k0,k1,CC,kx,id,ops,qN⟩: ∃c0 c1 CC x id ops,Tryz.f19.body=some (.seq c0 (.seq c1 (.cond x (.seq (.region id ops false) CC) .skip))):=⟨_,_,_,_,_,_,rfl⟩;obtain⟨st',hE,hWC⟩:=doC_w qN (e:=e) h9.b2 h9.b4 h9.b5 h9.b6;obtain⟨eC,sC,hWC,rfl,b4,b5,b6⟩:=W.pick hWC;refine⟨_,hRS,Xv hb h1 vR fun I I1 m1 w w1 act p q r s E01 S r2 r4 r5 r6=>?_⟩;refine nM (W.wp An Dh jV hW8 (Hk hb).2.1 S (fun e s2 a' w' hh S'=>?_) (fun v hp' a' w' h=>nomatch h.1));obtain⟨rfl,rfl⟩:=hh;refine nM (do_d9p hb rfl h8 lC Uz Ii hc9 S' fun a2 w2 S2=>?_);exact ND qN hE hWC (Bba h9.f4 h9.f5 h9.f6 b4 b5 b6) E01 S2 (fun I2 m2 _ E2=>⟨Ie.mono E2 _ _ _ r2,Ie.mono E2 _ _ _ r4,Ie.mono E2 _ _ _ r5,Ie.mono E2 _ _ _ r6⟩)
end
section
open Go Go.Ab Go.Ab.Sy
variable {w v t x:ByteArray}{hp1 If:Hp}{D:List AV}{ns vs ws:List ByteArray}{f g:Nat}
theorem hm_of{R:AV->Hp->Prop}{PR:Value->Hp->Prop}(h:HB P0 EC LC 0 40 f [.ptr ⟨0,36,0⟩ g 0] hp1 R PR):
  (∃v If,sG P0 0 f [.ptr ⟨0,36,0⟩ g 0] hp1 v If/\R v If)\/ ∃v If,B7 P0 0 f [.ptr ⟨0,36,0⟩ g 0] hp1 v If/\PR v If:=
 h.imp (fun⟨v,hp',h1,h2⟩=>⟨v,hp',jV.2 _ _ _ _ _ _ _ h1,h2⟩) (fun⟨n,v,hp',h1,h2⟩=>⟨v,hp',Tg An Dh jV n _ v hp' h1,h2⟩)
theorem Bua(h:LC.dat 116 [tv w]=some [bv true])(hs:w.size<9223372036854775807):OkW D 78 w:=
 ⟨Kv 78 Zi w h,⟨[],Zi,Oq 78 Zi w,Zi⟩,M6 78 Zi w hs⟩
theorem okW_T(hs:w.size<9223372036854775807):OkW D 84 w:=
 ⟨H5a w,⟨[],Zi,Oq 84 Zi w,Zi⟩,M6 84 Zi w hs⟩
theorem Qw{k:UInt8}(hk:k=77\/k=73)(h:LC.dat 116 [tv w]=some [bv true])(hs:w.size<9223372036854775807)(hv:LC.dat 56 [.agg (I7 ns vs),tv w]=some [tv v,bv true]):OkW (I7 ns vs) k w:=by
 rcases hk with rfl|rfl
 ·exact⟨Kv 77 Zi w h,⟨[w],Zi,Oo 77 Zi w,by simpa using⟨v,hv⟩⟩,M6 77 Zi w hs⟩
 ·exact⟨Kv 73 Zi w h,⟨[w],Zi,Oo 73 Zi w,by simpa using⟨v,hv⟩⟩,M6 73 Zi w hs⟩
theorem okW_F{v:Int}(hv:v<=100000000)(h:LC.dat 117 [tv w]=some [uv v,iv 0]):OkW D 70 w:=
 ⟨H6a w v h,⟨[],Zi,Oq 70 Zi w,Zi⟩,MG w v hv h⟩
theorem V7 : ∀(ks:List UInt8) (ws:List ByteArray),(∀x∈ks.zip ws,OkW D x.1 x.2)-> ∀(i:Nat) (b:UInt8) (w:ByteArray),(⟨⟨ks⟩⟩:ByteArray).data[i]?=some b->ws[i]?=some w->OkW D b w:=by
 intro ks ws h i b w hb hw;have zS:ks[i]?=some b:=by simpa using hb
 exact h (b,w) (sM (i:=i) (by rw[List.getElem?_zip_eq_some];exact⟨zS,hw⟩))
def mF (ns vs:List ByteArray)(x v:ByteArray)(t:ByteArray):List AV:=[.agg (yS (aE (ns++[x])) (aE (vs++[v]))),tv t,iv 0]
theorem Cla {RS:List AV->Prop}{w:AV}(h:OC 0 g ns vs ws t x v hp1 w If)(hR:RS (mF ns vs x v t)):w= .tup []/\(∀i c,i≠36->If ⟨0,i,c⟩=hp1 ⟨0,i,c⟩)/\EX RS ns vs ws g If:=by
 obtain⟨rfl,g1,g2,k0,k1,k2,hf⟩:=h;exact⟨rfl,fun i c hi=>hf 0 i c (D5 _) (fun h=>hi h.2),.inl ⟨_,_,_,_,g1,g2,t,k0,k1,k2,Zi,Zi,hR⟩⟩
theorem Xu {RS:List AV->Prop}{w:AV}(h:FE 0 g ns vs ws x v hp1 w If)(hR: ∀t,RS (mF ns vs x v t)):w= .tup []/\(∀i c,i≠36->If ⟨0,i,c⟩=hp1 ⟨0,i,c⟩)/\EX RS ns vs ws g If:=by
 obtain⟨rfl,t,g1,g2,k0,k1,k2,hf⟩:=h;exact⟨rfl,fun i c hi=>hf 0 i c (D5 _) (fun h=>hi h.2),.inl ⟨_,_,_,_,g1,g2,t,k0,k1,k2,Zi,Zi,hR t⟩⟩
theorem Kfa {RS:List AV->Prop}{w:AV}(h:TellR 0 g ns vs ws t hp1 w If)(hR:RS [.agg (I7 ns vs),tv t,iv 0]):w= .tup []/\(∀i c,i≠36->If ⟨0,i,c⟩=hp1 ⟨0,i,c⟩)/\EX RS ns vs ws g If:=by
 obtain⟨rfl,k0,hf⟩:=h;exact⟨rfl,fun i c hi=>hf 0 i c (D5 _) (fun h=>hi h.2),.inr ⟨t,k0,hR⟩⟩
theorem M1 {RS:List AV->Prop}{R:Nat->Hp->AV->Hp->Prop}(h: ∀(g:Nat) (hp1:Hp),hp1 ⟨0,36,0⟩= .box g (bV ns vs ws ⟨⟨[]⟩⟩) false->HB P0 EC LC 0 40 f [.ptr ⟨0,36,0⟩ g 0] hp1 (R g hp1) (fun _ _=>False))
  (hE: ∀g hp1 w If,R g hp1 w If->w= .tup []/\(∀i c,i≠36->If ⟨0,i,c⟩=hp1 ⟨0,i,c⟩)/\EX RS ns vs ws g If):NX RS ns vs ws f:=by
 intro g hp1 hb;rcases hm_of (h g hp1 hb) with⟨v,If,h1,h2⟩|⟨_,_,_,h2⟩
 ·obtain⟨rfl,h3,h4⟩:=hE _ _ _ _ h2
  exact .inl ⟨If,h1,h3,h4⟩
 ·exact h2.elim
abbrev jK (ns vs:List ByteArray)(verb:ByteArray)(ws:List ByteArray):List AV:=[.agg (I7 ns vs),.agg [tv verb,.sl false 1 (aE ws)]]
theorem FC(hx:LC.dat 116 [tv x]=some [bv true])(sx:x.size<9223372036854775807)(sv:v.size<9223372036854775807)(hl:ns.length<=900)(pP:vs.length<=900)(hn: ∀j:Nat,ns[j]?≠some x):eN P0 10 (jK ns vs ⟨#[115,101,116]⟩ [x,v]) (mF ns vs x v ⟨⟨[]⟩⟩):=by
 obtain⟨rs,rfl,h⟩:=P5 (RS:=fun rs=>rs=mF ns vs x v ⟨⟨[]⟩⟩) (i:=0) (ks:=⟨#[78,84]⟩) (f:=34) (ws:=[x,v]) (ns:=ns) (vs:=vs) (verb:=⟨#[115,101,116]⟩) Zf rfl
  (Hl ns vs [x,v] _ Zi (by rfl) (V7 [78,84] [x,v] (by simp[Bua hx sx,okW_T sv]))) KB Zd (M1 (fun g hp1 hb=>set_w 0 40 hp1 hb (x:=x) (v:=v) rfl rfl hl pP hn) fun g hp1 w If h=>Cla h rfl)
 exact h
theorem Lfa(hx:LC.dat 116 [tv x]=some [bv true])(sx:x.size<9223372036854775807)(hv:LC.dat 56 [.agg (I7 ns vs),tv x]=some [tv v,bv true]):eN P0 10 (jK ns vs ⟨#[112,114,105,110,116]⟩ [x]) [.agg (I7 ns vs),tv v,iv 0]:=by
 obtain⟨rs,rfl,h⟩:=P5 (RS:=fun rs=>rs=[.agg (I7 ns vs),tv v,iv 0]) (i:=3) (ks:=⟨#[77]⟩) (f:=37) (ws:=[x]) (ns:=ns) (vs:=vs) (verb:=⟨#[112,114,105,110,116]⟩) Zf rfl
  (Hl ns vs [x] _ Zi (by rfl) (V7 [77] [x] (by simp[Qw (.inl rfl) hx sx hv]))) KA Zd (M1 (fun g hp1 hb=>JL 0 40 hp1 hb (x:=x) rfl hv) fun g hp1 w If h=>Kfa h rfl)
 exact h
theorem Lda{z y img:ByteArray}{na:Int}(hx:LC.dat 116 [tv x]=some [bv true])(sx:x.size<9223372036854775807)(hz:LC.dat 116 [tv z]=some [bv true])(sz:z.size<9223372036854775807)(hv:LC.dat 56 [.agg (I7 ns vs),tv z]=some [tv y,bv true])(hc:LC.dat 91 [tv y]=some [tv img,iv na,iv 0])(hl:ns.length<=900)(pP:vs.length<=900)(hn: ∀j:Nat,ns[j]?≠some x):eN P0 10 (jK ns vs ⟨#[115,116,97,99,107]⟩ [x,z]) (mF ns vs x img ⟨⟨[]⟩⟩):=by
 obtain⟨rs,rfl,h⟩:=P5 (RS:=fun rs=>rs=mF ns vs x img ⟨⟨[]⟩⟩) (i:=8) (ks:=⟨#[78,77]⟩) (f:=42) (ws:=[x,z]) (ns:=ns) (vs:=vs) (verb:=⟨#[115,116,97,99,107]⟩) Zf rfl
  (Hl ns vs [x,z] _ Zi (by rfl) (V7 [78,77] [x,z] (by simp[Bua hx sx,Qw (.inl rfl) hz sz hv]))) JZ Zd (M1 (fun g hp1 hb=>IN 0 40 hp1 hb (x:=x) (z:=z) rfl rfl hv hc hl pP hn) fun g hp1 w If h=>Cla h rfl)
 exact h
theorem Do_run{z1 z2 z3 y1 y2 out:ByteArray}{n:Int}(hx:LC.dat 116 [tv x]=some [bv true])(sx:x.size<9223372036854775807)(k1:LC.dat 116 [tv z1]=some [bv true])(s1:z1.size<9223372036854775807)(k2:LC.dat 116 [tv z2]=some [bv true])(s2:z2.size<9223372036854775807)(v1:LC.dat 56 [.agg (I7 ns vs),tv z1]=some [tv y1,bv true])(v2:LC.dat 56 [.agg (I7 ns vs),tv z2]=some [tv y2,bv true])(v3:LC.dat 117 [tv z3]=some [uv 1000000,iv 0])(hc:LC.dat 94 [tv y1,tv y2,iv 1000000]=some [.agg [iv 1,tv out,iv n],iv 0])(hl:ns.length<=900)(pP:vs.length<=900)(hn: ∀j:Nat,ns[j]?≠some x): ∃t,eN P0 10 (jK ns vs ⟨#[114,117,110]⟩ [x,z1,z2,z3]) (mF ns vs x out t):=by
 obtain⟨rs,⟨t,rfl⟩,h⟩:=P5 (RS:=fun rs=> ∃t,rs=mF ns vs x out t) (i:=10) (ks:=⟨#[78,77,73,70]⟩) (f:=44) (ws:=[x,z1,z2,z3]) (ns:=ns) (vs:=vs) (verb:=⟨#[114,117,110]⟩) Zf rfl
  (Hl ns vs [x,z1,z2,z3] _ Zi (by rfl) (V7 [78,77,73,70] [x,z1,z2,z3] (by simp[Bua hx sx,Qw (.inl rfl) k1 s1 v1,Qw (.inr rfl) k2 s2 v2,okW_F Zd v3]))) JY Zd (M1 (fun g hp1 hb=>run_w 0 40 hp1 hb (x:=x) (z1:=z1) (z2:=z2) (z3:=z3) rfl rfl rfl rfl v1 v2 Zd v3 hc hl pP hn) fun g hp1 w If h=>Xu h fun t=>⟨t,rfl⟩)
 exact⟨t,h⟩
end
section
open Go Go.Ab Go.Ab.Sy
theorem F7 : ∀a b:List Tx,Ib a=Ib b->a=b
 |[],[],_=>rfl
 |[],_::_,h=>by simp[Ib] at h
 |_::_,[],h=>by simp[Ib] at h
 |x::a,y::b,h=>by
  simp only[Ib,T9,AC,tz,AV.sc.injEq,Acr,and_true] at h;have:=F7 a b h.2;rw[this,Tx.ext h.1]
theorem Pu : ∀a b:List (Tx×Int),Ih a=Ih b->a=b
 |[],[],_=>rfl
 |[],_::_,h=>by simp[Ih] at h
 |_::_,[],h=>by simp[Ih] at h
 |(x,n)::a,(y,m)::b,h=>by
  simp only[Ih,T9,AC,tz,iz,AV.sc.injEq,Acr,Value.int.injEq,and_true,true_and] at h;have:=Pu a b h.2;rw[this,Tx.ext h.1.1,h.1.2]
mutual
theorem Eya : ∀a b:Sy.Ex,a.row=b.row->a=b
 | .mk k o n s l,.mk k' o' n' s' l',h=>by
  simp only[Ex.row,AC,tz,iz,uz,AV.sc.injEq,Acr,Value.int.injEq,AV.sl.injEq,and_true,true_and] at h;obtain⟨h1,h2,h3,h4,h5⟩:=h;rw[h1,h2,h3,Tx.ext h4,Ju l l' h5]
theorem Ju : ∀a b:List Sy.Ex,In a=In b->a=b
 |[],[],_=>rfl
 |[],_::_,h=>by simp[In] at h
 |_::_,[],h=>by simp[In] at h
 |x::a,y::b,h=>by
  simp only[In,AC] at h;rw[Eya x y h.1,Ju a b h.2]
end
mutual
theorem Dha : ∀a b:St,a.row=b.row->a=b
 | .mk k s e t f,.mk k' s' e' t' f',h=>by
  simp only[St.row,AC,tz,iz,AV.sc.injEq,Acr,Value.int.injEq,AV.sl.injEq,and_true,true_and] at h;obtain⟨h1,h2,h3,h4,h5⟩:=h;rw[h1,Tx.ext h2,Ju e e' h3,Gc t t' h4,Gc f f' h5]
theorem Gc : ∀a b:List St,Ik a=Ik b->a=b
 |[],[],_=>rfl
 |[],_::_,h=>by simp[Ik] at h
 |_::_,[],h=>by simp[Ik] at h
 |x::a,y::b,h=>by
  simp only[Ik,AC] at h;rw[Dha x y h.1,Gc a b h.2]
end
theorem Eoa (a b:Fu)(h:a.row=b.row):a=b:=by
 obtain⟨n,p,l,w,t⟩:=a;obtain⟨n',p',l',w',t'⟩:=b;simp only[Fu.row,AC,tz,bz,AV.sc.injEq,Acr,Value.bool.injEq,AV.sl.injEq,and_true,true_and] at h;obtain⟨h1,h2,h3,h4,h5⟩:=h;rw[Tx.ext h1,F7 _ _ h2,F7 _ _ h3,h4,Gc _ _ h5]
theorem Pb : ∀a b:List Fu,a.map Fu.row=b.map Fu.row->a=b
 |[],[],_=>rfl
 |[],_::_,h=>by simp at h
 |_::_,[],h=>by simp at h
 |x::a,y::b,h=>by
  simp only[T9,AC] at h;rw[Eoa x y h.1,Pb a b h.2]
theorem Dqa (a b:Pr)(h:a.row=b.row):a=b:=by
 obtain⟨v,r,f⟩:=a;obtain⟨v',r',f'⟩:=b;simp only[Pr.row,AC,AV.sl.injEq,and_true,true_and] at h;obtain⟨h1,h2,h3⟩:=h;rw[F7 _ _ h1,Pu _ _ h2,Pb _ _ h3]
end
section
open Go Go.Ab Go.Ab.Sy
variable {s:ByteArray}{e':Int}{p:Sy.Pr}
def tX (s:ByteArray)(e:Int):Prop:=lA s e\/ ∃p:Sy.Pr,Hu s p/\p.size<=20000/\((rP iZ p=false/\e=2)\/(rP iZ p=true/\e=fE iZ p))
theorem Vu {a b:List Tok}(h:a.map mQ=b.map mQ):a=b:=by
 induction a generalizing b with
 |nil=>cases b with
  |nil=>rfl
  |cons y b=>simp at h
 |cons x a ih=>cases b with
  |nil=>simp at h
  |cons y b=>
   simp only[T9,AC] at h;rw[ih h.2];obtain⟨k,s,n,a⟩:=x;obtain⟨k',s',n',a'⟩:=y;have h1:=h.1;simp only[mQ,Br] at h1;obtain⟨rfl,h2,rfl,rfl⟩:=h1;rw[Tx.ext h2]
theorem N9{p':Sy.Pr}(h:Hu s p)(h':Hu s p'):p=p':=by
 obtain⟨T,h1,h2⟩:=h;obtain⟨T',pS,zV⟩:=h';rw[h1] at pS;obtain rfl:=Vu (Except.ok.inj pS);exact nN (h2.symm.trans zV)
theorem Td{e:Int}(h:Hu s p)(h':lA s e):False:=by
 obtain⟨T,h1,h2⟩:=h;rcases h' with h'|⟨_,T',pS,zV⟩
 ·rw[h1] at h';cases h'
 ·rw[h1] at pS
  obtain rfl:=Vu (Except.ok.inj pS);rw[h2] at zV;cases zV
theorem no_one{e:Int}(h:lA s e)(h':lA s e'):e=e':=by
 rcases h with h|⟨rfl,T,h1,h2⟩<;>rcases h' with h'|⟨rfl,T',pS,zV⟩
 ·rw[h] at h';cases h';rfl
 ·rw[h] at pS;cases pS
 ·rw[h1] at h';cases h'
 ·rfl
theorem tX.one{e:Int}(h:tX s e)(h':tX s e'):e=e':=by
 rcases h with h|⟨p,h1,_,h2⟩<;>rcases h' with h'|⟨p',pS,_,zV⟩
 ·exact no_one h h'
 ·exact(Td pS h).elim
 ·exact(Td h1 h').elim
 ·obtain rfl:=N9 h1 pS
  rcases h2 with⟨a,rfl⟩|⟨a,rfl⟩<;>rcases zV with⟨b,rfl⟩|⟨b,rfl⟩
  ·rfl
  ·rw[a] at b;cases b
  ·rw[a] at b;cases b
  ·rfl
theorem prog_c (s:ByteArray)(hs:s.size<9223372036854775807): ∃rs,LC.dat 97 [tv s]=some rs/\P4 s rs:=by
 obtain⟨rs,h1,h2⟩:=ES s hs;obtain⟨r',h3,h4⟩:=K8 (qW.1 _ _ _ h1) (.inl ⟨rfl,s,rfl,h2⟩);refine⟨r',h3,?_⟩;rcases h4 with⟨_,s',h5,h6⟩|⟨h,_⟩|⟨h,_⟩|⟨h,_⟩|⟨h,_⟩
 ·cases h5;exact h6
 all_goals exact absurd h Zd
theorem IR (p:Sy.Pr)(hs:p.size<=1048576):LC.dat 98 [.agg p.row]=some [iv (fE iZ p)]:=by
 obtain⟨pv,pa,pf⟩:=p;obtain⟨r',h3,h4⟩:=K8 (qW.1 _ _ _ (Csa pv pa pf hs)) (.inr (.inl ⟨rfl,⟨pv,pa,pf⟩,rfl,rfl⟩));rcases h4 with⟨h,_⟩|⟨_,p',h5,h6⟩|⟨h,_⟩|⟨h,_⟩|⟨h,_⟩
 ·exact absurd h Zd
 ·simp only[AC,AV.agg.injEq,and_true] at h5
  have:=Dqa ⟨pv,pa,pf⟩ p' h5;subst this;rw[<-h6];exact h3
 all_goals exact absurd h Zd
theorem run_c {a:List AV}{c:Int}{o:ByteArray}{n:Nat}(h:eN P0 99 a [.agg [iv c,tv o,iv n]])(hn:n<=50): ∃(c:Int) (o:ByteArray) (n:Nat),n<=50/\LC.dat 99 a=some [.agg [iv c,tv o,iv n]]:=by
 obtain⟨r',h3,h4⟩:=K8 h (.inr (.inr (.inl ⟨rfl,c,0,o,n,hn,rfl⟩)));rcases h4 with⟨h,_⟩|⟨h,_⟩|⟨_,c,_,o,n,hn,rfl⟩|⟨h,_⟩|⟨h,_⟩
 ·exact absurd h Zd
 ·exact absurd h Zd
 ·exact⟨c,o,n,hn,h3⟩
 all_goals exact absurd h Zd
theorem run_of {inp:ByteArray}{pv:List Tx}{pa:List (Tx×Int)}{pf:List Sy.Fu}(h:Hu s ⟨pv,pa,pf⟩)(hz:Sy.Pr.size ⟨pv,pa,pf⟩<=20000)(h0:fE iZ ⟨pv,pa,pf⟩=0)(pQ:inp.size<=4611686018427387904): ∃(c:Int) (o:ByteArray) (n:Nat),n<=50/\LC.dat 99 [.agg [.sl false 1 (Ib pv),.sl false 2 (Ih pa),.sl false 5 (pf.map Sy.Fu.row)],tv inp,iv 50]=some [.agg [iv c,tv o,iv n]]:=by
 obtain⟨T,h1,h2⟩:=h;obtain⟨⟨g1,g2,g3⟩,g4⟩:=F7a h0 (KG (Hya h1) h2);unfold Sy.Pr.size at hz;simp only at hz;have hm: ∀f∈pf,∃i:Nat,pf[i]?=some f:=fun f hf=>List.getElem?_of_mem hf
 obtain⟨a,o,n,zL,hS⟩:=NU (inp:=inp) (vs:=pv) (ar:=pa) (fs:=pf) Zo (by rw[Zn];exact Wl g1) (fun f hf=>by obtain⟨i,hi⟩:=hm f hf;rw[Eja];exact Wl (g4 i f hi).1) g2 g3 pQ (fun f hf=>by obtain⟨i,hi⟩:=hm f hf;exact(g4 i f hi).2);exact run_c hS zL
def Sn (ns vs:List ByteArray)(x:ByteArray)(e:Int)(rs:List AV):Prop:=(e=0/\ ∃o t,rs=mF ns vs x o t)\/(e≠0/\rs=[.agg (I7 ns vs),tv ⟨⟨[]⟩⟩,iv e])
theorem OA {ns vs:List ByteArray}{x z1 z2 z3 y1 y2:ByteArray}(hx:LC.dat 116 [tv x]=some [bv true])(sx:x.size<9223372036854775807)(k1:LC.dat 116 [tv z1]=some [bv true])(s1:z1.size<9223372036854775807)(k2:LC.dat 116 [tv z2]=some [bv true])(s2:z2.size<9223372036854775807)(v1:LC.dat 56 [.agg (I7 ns vs),tv z1]=some [tv y1,bv true])(v2:LC.dat 56 [.agg (I7 ns vs),tv z2]=some [tv y2,bv true])(v3:LC.dat 117 [tv z3]=some [uv 50,iv 0])(hy:y1.size<9223372036854775807)(pQ:y2.size<=4611686018427387904)(hl:ns.length<=900)(pP:vs.length<=900)(hn: ∀j:Nat,ns[j]?≠some x):
  ∃(e:Int) (rs:List AV),tX y1 e/\Sn ns vs x e rs/\eN P0 10 (jK ns vs ⟨#[109,101,97,110]⟩ [x,z1,z2,z3]) rs:=by
 obtain⟨rsP,hP,a,hR⟩:=prog_c y1 hy;have gen: ∀(e:Int),tX y1 e->NX (Sn ns vs x e) ns vs [x,z1,z2,z3] 45-> ∃(e:Int) (rs:List AV),tX y1 e/\Sn ns vs x e rs/\eN P0 10 (jK ns vs ⟨#[109,101,97,110]⟩ [x,z1,z2,z3]) rs:=by
  intro e he hM;obtain⟨rs,h1,h⟩:=P5 (RS:=Sn ns vs x e) (i:=11) (ks:=⟨#[78,77,73,70]⟩) (f:=45) (ws:=[x,z1,z2,z3]) (ns:=ns) (vs:=vs) (verb:=⟨#[109,101,97,110]⟩) Zf rfl
   (Hl ns vs [x,z1,z2,z3] _ Zi (by rfl) (V7 [78,77,73,70] [x,z1,z2,z3] (by simp[Bua hx sx,Qw (.inl rfl) k1 s1 v1,Qw (.inr rfl) k2 s2 v2,okW_F Zd v3]))) JX Zd hM
  exact⟨e,rs,he,h1,h⟩
 have bad: ∀(e:Int),e≠0->(∀(g:Nat) (hp1:Hp),hp1 ⟨0,36,0⟩= .box g (bV ns vs [x,z1,z2,z3] ⟨⟨[]⟩⟩) false->HB P0 EC LC 0 40 45 [.ptr ⟨0,36,0⟩ g 0] hp1 (fun _ _=>False) (ER 0 hp1 e))->NX (Sn ns vs x e) ns vs [x,z1,z2,z3] 45:=by
  intro e he h g hp1 hb;rcases hm_of (h g hp1 hb) with⟨_,_,_,h2⟩|⟨v,If,h1,rfl,hf⟩
  ·exact h2.elim
  ·exact .inr ⟨e,If,h1,fun i c hi=>hf 0 i c (D5 _) (fun h=>hi h.2),.inr ⟨he,rfl⟩⟩
 rcases hR with⟨e,mX,rfl⟩|⟨⟨pv,pa,pf⟩,nC,aZ,⟨hr,rfl⟩|⟨hr,rfl⟩⟩
 ·exact gen e (.inl mX) (bad e mX.ne fun g hp1 hb=>Q8 (x:=x) 0 40 hp1 hb rfl v1 mX.ne hP)
 ·exact gen 2 (.inr ⟨_,nC,aZ,.inl ⟨hr,rfl⟩⟩) (bad 2 Zd fun g hp1 hb=>Q8 (x:=x) 0 40 hp1 hb rfl v1 Zd hP)
 ·have hS:=IR ⟨pv,pa,pf⟩ Zo
  by_cases h0:fE iZ ⟨pv,pa,pf⟩=0
  ·obtain⟨c,o,n,zL,Uk⟩:=run_of (inp:=y2) nC aZ h0 pQ
   refine gen 0 (.inr ⟨_,nC,aZ,.inr ⟨hr,h0.symm⟩⟩) ?_;intro g hp1 hb;obtain⟨v,If,h1,h2⟩:=Hma (ws:=[x,z1,z2,z3]) hb rfl rfl rfl rfl v1 v2 v3 hP (by rw[h0] at hS;exact hS) Uk zL hl pP hn;obtain⟨rfl,h3,h4⟩:=Xu (RS:=Sn ns vs x 0) h2 fun t=> .inl ⟨rfl,_,_,rfl⟩
   exact .inl ⟨If,h1,h3,h4⟩
  ·exact gen _ (.inr ⟨_,nC,aZ,.inr ⟨hr,rfl⟩⟩) (bad _ h0 fun g hp1 hb=>D1a (x:=x) 0 40 hp1 hb rfl v1 hP h0 hS)
end
section
open Go Go.Ab Go.Ab.Sy
variable {verb ks:ByteArray}{c0 c1 c2 c3 c4 d8 d9 d10:Code}{ns vs ws:List ByteArray}{f i:Nat}
theorem do_nf(hb:Tryz.f10.body=some (.seq c0 (.seq c1 (.seq c2 (.seq c3 (.seq c4 (.seq d8 (.seq d9 (.seq d10 .ret)))))))))(hk:dY (.string verb) Je 0=some none):
  lM P0 EC 0 LC (fun e s=>e= .ret/\TD [.agg (I7 ns vs),tv ⟨⟨[]⟩⟩,iv 4] s) (fun _=>False) [c0,c1,c2,c3] ⟨Uh [.agg (I7 ns vs),.agg [tv verb,.sl false 1 (aE ws)]],U9⟩:=by
 have hv:=Sq;unfold I7;generalize Je=vk at*;generalize L9=vr at*
 cases hb
 simp only[lM]
 repeat' first|refine ZN ?_|refine Z2 ?_ ?_|intro h h';try simp[*,-h] at h'
 all_goals exact⟨rfl,Bba Zi Zi Zi (by simp[I7]) Zi Zi⟩
theorem do_no(hb:Tryz.f10.body=some (.seq c0 (.seq c1 (.seq c2 (.seq c3 (.seq c4 (.seq d8 (.seq d9 (.seq d10 .ret)))))))))(hk:dY (.string verb) Je 0=some (some i))(hr:L9[i]?=some [tv ks,.fn f []])(hc:LC.dat 18 [.agg (I7 ns vs),tv ks,.sl false 1 (aE ws)]=some [iv 4]):
  lM P0 EC 0 LC (fun e s=>e= .ret/\TD [.agg (I7 ns vs),tv ⟨⟨[]⟩⟩,iv 4] s) (fun _=>False) [c0,c1,c2,c3] ⟨Uh [.agg (I7 ns vs),.agg [tv verb,.sl false 1 (aE ws)]],U9⟩:=by
 have hv:=Sq;unfold I7 at hc⊢;generalize Je=vk at*;generalize L9=vr at*
 cases hb
 simp only[lM]
 repeat' first|refine ZN ?_|refine Z2 ?_ ?_|intro h h';try simp[*,-h] at h'
 all_goals exact⟨rfl,Bba Zi Zi Zi (by simp[I7]) Zi Zi⟩
theorem Do_nf(hk:dY (.string verb) Je 0=some none):eN P0 10 [.agg (I7 ns vs),.agg [tv verb,.sl false 1 (aE ws)]] [.agg (I7 ns vs),tv ⟨⟨[]⟩⟩,iv 4]:=by
 obtain⟨c0,c1,c2,c3,c4,d8,d9,d10,hb⟩: ∃c0 c1 c2 c3 c4 d8 d9 d10,Tryz.f10.body=some (.seq c0 (.seq c1 (.seq c2 (.seq c3 (.seq c4 (.seq d8 (.seq d9 (.seq d10 .ret)))))))):=⟨_,_,_,_,_,_,_,_,rfl⟩;obtain⟨e1,s1,vR,h1⟩:=lM.pick _ (do_nf hb (ns:=ns) (vs:=vs) (ws:=ws) hk);rcases h1 with⟨_,h1⟩|⟨_,rfl,ht⟩
 ·exact h1.elim
 ·exact Xw hb vR ht
theorem Do_no(hk:dY (.string verb) Je 0=some (some i))(hr:L9[i]?=some [tv ks,.fn f []])(hc:LC.dat 18 [.agg (I7 ns vs),tv ks,.sl false 1 (aE ws)]=some [iv 4]):eN P0 10 [.agg (I7 ns vs),.agg [tv verb,.sl false 1 (aE ws)]] [.agg (I7 ns vs),tv ⟨⟨[]⟩⟩,iv 4]:=by
 obtain⟨c0,c1,c2,c3,c4,d8,d9,d10,hb⟩: ∃c0 c1 c2 c3 c4 d8 d9 d10,Tryz.f10.body=some (.seq c0 (.seq c1 (.seq c2 (.seq c3 (.seq c4 (.seq d8 (.seq d9 (.seq d10 .ret)))))))):=⟨_,_,_,_,_,_,_,_,rfl⟩;obtain⟨e1,s1,vR,h1⟩:=lM.pick _ (do_no hb hk hr hc);rcases h1 with⟨_,h1⟩|⟨_,rfl,ht⟩
 ·exact h1.elim
 ·exact Xw hb vR ht
end
section
open Go Go.Ab Go.Ab.Sy
variable {X:aS}
theorem new_z(hX:X.dat 9 []=none):(Lm X).dat 9 []=some [.agg [.vec 1 [],.vec 1 [],.vec 1 [],.vec 6 [],.vec 4 [],iv 0,.vec 7 []]]:=by
 refine fW Tryz.func9 hX ?_;exact ZS
theorem Gi(hX: ∀a,X.dat 6 a=none)(v:ByteArray)(R:List (List AV)):(Lm X).dat 6 [tv v,.sl false 1 R]=some [.agg [tv v,.sl false 1 R]]:=by
 refine fW Tryz.func6 (hX _) ?_;exact ZS
def dA (N V:List (List AV)):AV:= .agg [.sl false 1 N,.sl false 1 V,.sl false 1 [],.sl false 6 [],.sl false 4 [],iv 0,.sl false 7 []]
def dV (N V:List (List AV)):AV:= .agg [.vec 1 N,.vec 1 V,.sl false 1 [],.sl false 6 [],.sl false 4 [],iv 0,.sl false 7 []]
inductive DeskF (N V:List (List AV))(j:Nat)(hp:Hp):Prop where
 |new (g1 g2 g3 g4 g5 g7:Nat) (h:j=0) (hN:N=[]) (hV:V=[]) (b:hp ⟨0,5,0⟩= .box 1 [.own ⟨0,5,1⟩ g1 0,.own ⟨0,5,2⟩ g2 0,.own ⟨0,5,3⟩ g3 0,.own ⟨0,5,4⟩ g4 0,.own ⟨0,5,5⟩ g5 0,iv 0,.own ⟨0,5,7⟩ g7 0] false) (b1:hp ⟨0,5,1⟩= .arr g1 1 9 [] false) (b2:hp ⟨0,5,2⟩= .arr g2 1 9 [] false) (b3:hp ⟨0,5,3⟩= .arr g3 1 9 [] false) (b4:hp ⟨0,5,4⟩= .arr g4 6 155 [] false) (b5:hp ⟨0,5,5⟩= .arr g5 4 122 [] false) (b7:hp ⟨0,5,7⟩= .arr g7 7 275 [] false)
 |own (g1 g2 n1 n2:Nat) (h:j≠0) (h1:N.length=n1) (h2:V.length=n2) (b:hp ⟨0,5,0⟩= .box 1 [.own ⟨0,5,1⟩ g1 n1,.own ⟨0,5,2⟩ g2 n2,.sl false 1 [],.sl false 6 [],.sl false 4 [],iv 0,.sl false 7 []] false) (b1:hp ⟨0,5,1⟩= .arr g1 1 9 N false) (b2:hp ⟨0,5,2⟩= .arr g2 1 9 V false)
 |sl (h:j≠0) (b:hp ⟨0,5,0⟩= .box 1 [.sl false 1 N,.sl false 1 V,.sl false 1 [],.sl false 6 [],.sl false 4 [],iv 0,.sl false 7 []] false)
structure PlayI (ls:List (List AV))(N V:Nat->List (List AV))(T:Nat->ByteArray)(E:Nat->Int)(j:Nat)(z:AS):Prop where
 f0:z.fr 0= .sl false 2 ls
 f2:z.fr 2= .ptr ⟨0,2,0⟩ 1 0
 b2:z.hp ⟨0,2,0⟩= .box 1 [.own ⟨0,2,1⟩ 1 0,.own ⟨0,2,2⟩ 1 0,.own ⟨0,2,3⟩ 1 0,.own ⟨0,2,4⟩ 1 0,.own ⟨0,2,5⟩ 1 0,iv 0,.own ⟨0,2,7⟩ 1 0] false
 f5:z.fr 5= .ptr ⟨0,5,0⟩ 1 0
 f67: ∃(t:ByteArray) (e:Int),z.fr 6=tv t/\z.fr 7=iv e/\(j≠0->t=T j/\e=E j)
 f8:z.fr 8=iv j
 d:DeskF (N j) (V j) j z.hp
theorem Tf(hX: ∀a,X.dat 5 a=none)(hN:(Lm X).dat 9 []=some [.agg [.vec 1 [],.vec 1 [],.vec 1 [],.vec 6 [],.vec 4 [],iv 0,.vec 7 []]])(ls:List (List AV))(hl:1<=ls.length/\ls.length<=100)(iP: ∀l∈ls,∃v R,l=[tv v,.sl false 1 R])(N V:Nat->List (List AV))(hz:N 0=[]/\V 0=[])(T:Nat->ByteArray)(E:Nat->Int)
  (hD: ∀j,j<ls.length-> ∀l,ls[j]?=some l->(Lm X).dat 10 [dA (N j) (V j),.agg l]=some [dV (N (j+1)) (V (j+1)),tv (T (j+1)),iv (E (j+1))]\/(Lm X).dat 10 [dA (N j) (V j),.agg l]=some [dA (N (j+1)) (V (j+1)),tv (T (j+1)),iv (E (j+1))]):
  ∃D,(D=dV (N ls.length) (V ls.length)\/D=dA (N ls.length) (V ls.length))/\(Lm X).dat 5 [.sl false 2 ls]=some [D,tv (T ls.length),iv (E ls.length)]:=by
 obtain⟨rs,h1,D,h2,rfl⟩: ∃rs,(Lm X).dat 5 [.sl false 2 ls]=some rs/\ ∃D,(D=dV (N ls.length) (V ls.length)\/D=dA (N ls.length) (V ls.length))/\rs=[D,tv (T ls.length),iv (E ls.length)]:=by
  refine fR (R:=fun rs=> ∃D,(D=dV (N ls.length) (V ls.length)\/D=dA (N ls.length) (V ls.length))/\rs=[D,tv (T ls.length),iv (E ls.length)]) Tryz.func5 (hX _) ?_;have HD:=Lib.hid hD;have HR:=Lib.hid iP;clear hD iP
  repeat' first|refine ZN ?_|refine Z2 ?_ ?_|intro h h';try simp[*,-h] at h'
  refine Ac (n:=ls.length) (fun s0 m z=> ∃j:Nat,ls.length - j<=m/\j<=ls.length/\PlayI ls N V T E j z) ⟨0,Zo,Zo,Zi,Zi,Zi,Zi,⟨_,_,by simp;exact⟨rfl,rfl⟩⟩,Zi,.new _ _ _ _ _ _ rfl hz.1 hz.2 (by simp;exact⟨rfl,rfl,rfl,rfl,rfl,rfl⟩) Zi Zi Zi Zi Zi Zi⟩ ?_;rintro m ⟨fr,hp⟩ ⟨j,hm,hj,f0,f2,b2,f5,⟨t,e,f6,f7,hte⟩,f8,d⟩;simp at f0 f2 b2 f5 f6 f7 f8 d;by_cases Ii:j<ls.length
  ·have e1:(j:Int)<ls.length:=Zo
   have FO:IntKind.i64.wrap ((j:Int)+1)=(j:Int)+1:=Iw Zo;obtain⟨l,hg⟩: ∃r,ls[j]?=some r:=⟨_,Bs Ii⟩;obtain⟨v,R,rfl⟩:=HR.out l (sM hg);have xH: ∀h:j<ls.length,ls[j]'h=[tv v,.sl false 1 R]:=fun h=>nN ((Bs h).symm.trans hg)
   have hd:=HD.out j Ii _ hg;unfold dV dA at hd;rcases hd with hd|hd
   ·rcases d with⟨g1,g2,g3,g4,g5,g7,h0,hN0,hV0,b,k1,k2,k3,k4,k5,k7⟩|⟨g1,g2,n1,n2,h0,wG,aO,b,k1,k2⟩|⟨h0,b⟩
    ·rw[hN0,hV0] at hd
     clear h0 hN0 hV0
     repeat' first|refine ZN ?_|refine Z2 ?_ ?_|intro h h';try simp[*,-h] at h'
     all_goals exact⟨ls.length - (j+1),Zo,j+1,Zo,Zo,Zm,Zm,Zm,Zm,⟨_,_,Zi,Zi,fun _=>⟨rfl,rfl⟩⟩,Zm,.own _ _ _ _ Zo rfl rfl (by simp;exact⟨rfl,rfl⟩) Zi Zi⟩
    ·subst wG aO
     repeat' first|refine ZN ?_|refine Z2 ?_ ?_|intro h h';try simp[*,-h] at h'
     all_goals exact⟨ls.length - (j+1),Zo,j+1,Zo,Zo,Zm,Zm,Zm,Zm,⟨_,_,Zi,Zi,fun _=>⟨rfl,rfl⟩⟩,Zm,.own _ _ _ _ Zo rfl rfl (by simp;exact⟨rfl,rfl⟩) Zi Zi⟩
    ·skip
     repeat' first|refine ZN ?_|refine Z2 ?_ ?_|intro h h';try simp[*,-h] at h'
     all_goals exact⟨ls.length - (j+1),Zo,j+1,Zo,Zo,Zm,Zm,Zm,Zm,⟨_,_,Zi,Zi,fun _=>⟨rfl,rfl⟩⟩,Zm,.own _ _ _ _ Zo rfl rfl (by simp;exact⟨rfl,rfl⟩) Zi Zi⟩
   ·rcases d with⟨g1,g2,g3,g4,g5,g7,h0,hN0,hV0,b,k1,k2,k3,k4,k5,k7⟩|⟨g1,g2,n1,n2,h0,wG,aO,b,k1,k2⟩|⟨h0,b⟩
    ·rw[hN0,hV0] at hd
     clear h0 hN0 hV0
     repeat' first|refine ZN ?_|refine Z2 ?_ ?_|intro h h';try simp[*,-h] at h'
     all_goals exact⟨ls.length - (j+1),Zo,j+1,Zo,Zo,Zm,Zm,Zm,Zm,⟨_,_,Zi,Zi,fun _=>⟨rfl,rfl⟩⟩,Zm,.sl Zo Zi⟩
    ·subst wG aO
     repeat' first|refine ZN ?_|refine Z2 ?_ ?_|intro h h';try simp[*,-h] at h'
     all_goals exact⟨ls.length - (j+1),Zo,j+1,Zo,Zo,Zm,Zm,Zm,Zm,⟨_,_,Zi,Zi,fun _=>⟨rfl,rfl⟩⟩,Zm,.sl Zo Zi⟩
    ·skip
     repeat' first|refine ZN ?_|refine Z2 ?_ ?_|intro h h';try simp[*,-h] at h'
     all_goals exact⟨ls.length - (j+1),Zo,j+1,Zo,Zo,Zm,Zm,Zm,Zm,⟨_,_,Zi,Zi,fun _=>⟨rfl,rfl⟩⟩,Zm,.sl Zo Zi⟩
  have e1: ¬(j:Int)<ls.length:=Zo;obtain rfl:j=ls.length:=Zo;obtain⟨rfl,rfl⟩:=hte Zo;rcases d with⟨g1,g2,g3,g4,g5,g7,h0,hN0,hV0,b,k1,k2,k3,k4,k5,k7⟩|⟨g1,g2,n1,n2,h0,wG,aO,b,k1,k2⟩|⟨h0,b⟩
  ·omega
  ·subst wG aO
   repeat' first|refine ZN ?_|refine Z2 ?_ ?_|intro h h';try simp[*,-h] at h'
   all_goals exact⟨_,.inl rfl,rfl⟩
  ·skip
   repeat' first|refine ZN ?_|refine Z2 ?_ ?_|intro h h';try simp[*,-h] at h'
   all_goals exact⟨_,.inr rfl,rfl⟩
 exact⟨D,h2,h1⟩
end
section
open Go Go.Ab Go.Ab.Sy
variable {D:AV}{t:ByteArray}{a:Int}{N:List (List AV)}{X:aS}
theorem law_l(hX: ∀a,X.dat 3 a=none)(src:ByteArray)(hs:200<src.size)(haw:(Lm X).dat 4 []=some [bv true]):(Lm X).dat 3 [tv src]=some [bv true]:=by
 refine fW Tryz.func3 (hX _) ?_;have e1:(200:Int)<src.size:=Zo;exact ZS
theorem law_a(hX: ∀a,X.dat 3 a=none)(hL: ∀a,X.dat 6 a=none)(src:ByteArray)(hs:src.size<=200)(haw:(Lm X).dat 4 []=some [bv true]){W:List (List AV)}{e:Int}(hD:D=dV N W\/D=dA N W)(hpl:(Lm X).dat 5 [.sl false 2 [[tv ⟨#[115,101,116]⟩,.sl false 1 [[tv ⟨#[115]⟩],[tv src]]],[tv ⟨#[109,101,97,110]⟩,.sl false 1 [[tv ⟨#[111]⟩],[tv ⟨#[115]⟩],[tv ⟨#[115]⟩],[tv ⟨#[53,48]⟩]]]]]=some [D,tv t,iv e])(he:e≠0)(hp:(Lm X).dat 7 [tv src]=some [.agg [.vec 1 [],.vec 2 [],.vec 5 []],iv a,iv e]):(Lm X).dat 3 [tv src]=some [bv true]:=by
 refine fW Tryz.func3 (hX _) ?_;have e1: ¬(200:Int)<src.size:=Zo;have l1:=Gi hL ⟨#[115,101,116]⟩ [[tv ⟨#[115]⟩],[tv src]];have l2:=Gi hL ⟨#[109,101,97,110]⟩ [[tv ⟨#[111]⟩],[tv ⟨#[115]⟩],[tv ⟨#[115]⟩],[tv ⟨#[53,48]⟩]];unfold dA dV at hD;rcases hD with rfl|rfl
 all_goals exact ZS
theorem law_b(hX: ∀a,X.dat 3 a=none)(hL: ∀a,X.dat 6 a=none)(src:ByteArray)(hs:src.size<=200)(haw:(Lm X).dat 4 []=some [bv true]){W:List (List AV)}{e:Int}(hD:D=dV N W\/D=dA N W)(hpl:(Lm X).dat 5 [.sl false 2 [[tv ⟨#[115,101,116]⟩,.sl false 1 [[tv ⟨#[115]⟩],[tv src]]],[tv ⟨#[109,101,97,110]⟩,.sl false 1 [[tv ⟨#[111]⟩],[tv ⟨#[115]⟩],[tv ⟨#[115]⟩],[tv ⟨#[53,48]⟩]]]]]=some [D,tv t,iv e]){V A F:List (List AV)}(hp:(Lm X).dat 7 [tv src]=some [.agg [.sl false 1 V,.sl false 2 A,.sl false 5 F],iv a,iv 0])(hq:(Lm X).dat 8 [.agg [.sl false 1 V,.sl false 2 A,.sl false 5 F]]=some [iv e]):(Lm X).dat 3 [tv src]=some [bv true]:=by
 refine fW Tryz.func3 (hX _) ?_;have e1: ¬(200:Int)<src.size:=Zo;have l1:=Gi hL ⟨#[115,101,116]⟩ [[tv ⟨#[115]⟩],[tv src]];have l2:=Gi hL ⟨#[109,101,97,110]⟩ [[tv ⟨#[111]⟩],[tv ⟨#[115]⟩],[tv ⟨#[115]⟩],[tv ⟨#[53,48]⟩]];unfold dA dV at hD;rcases hD with rfl|rfl
 all_goals exact ZS
end
section
open Go Go.Ab Go.Ab.Sy
theorem NM {X:aS}(hX: ∀a,X.dat 4 a=none)(hL: ∀a,X.dat 6 a=none){N1 W1 N2 W2 N3 W3:List (List AV)}{t2 t3:ByteArray}{D1 D2 D3:AV}(h1:D1=dV N1 W1\/D1=dA N1 W1)(h2:D2=dV N2 W2\/D2=dA N2 W2)(h3:D3=dV N3 W3\/D3=dA N3 W3)
  (p1:(Lm X).dat 5 [.sl false 2 [[tv ⟨#[115,101,116]⟩,.sl false 1 [[tv ⟨#[115]⟩],[tv ⟨#[102,117,110,99,32,109,97,105,110,40,41,32,123,32,112,117,116,40,54,53,41,59,32,125]⟩]]],[tv ⟨#[115,116,97,99,107]⟩,.sl false 1 [[tv ⟨#[99]⟩],[tv ⟨#[115]⟩]]],[tv ⟨#[114,117,110]⟩,.sl false 1 [[tv ⟨#[111]⟩],[tv ⟨#[99]⟩],[tv ⟨#[115]⟩],[tv ⟨#[49,48,48,48,48,48,48]⟩]]],[tv ⟨#[112,114,105,110,116]⟩,.sl false 1 [[tv ⟨#[111]⟩]]]]]=some [D1,tv ⟨#[65]⟩,iv 0])
  (p2:(Lm X).dat 5 [.sl false 2 [[tv ⟨#[112,114,105,110,116]⟩,.sl false 1 [[tv ⟨#[111]⟩]]]]]=some [D2,tv t2,iv 4])
  (p3:(Lm X).dat 5 [.sl false 2 [[tv ⟨#[110,111,116,104,105,110,103]⟩,.sl false 1 []]]]=some [D3,tv t3,iv 4]):(Lm X).dat 4 []=some [bv true]:=by
 refine fW Tryz.func4 (hX _) ?_;have l0:=Gi hL ⟨#[115,101,116]⟩ [[tv ⟨#[115]⟩],[tv ⟨#[102,117,110,99,32,109,97,105,110,40,41,32,123,32,112,117,116,40,54,53,41,59,32,125]⟩]];have l1:=Gi hL ⟨#[115,116,97,99,107]⟩ [[tv ⟨#[99]⟩],[tv ⟨#[115]⟩]];have l2:=Gi hL ⟨#[114,117,110]⟩ [[tv ⟨#[111]⟩],[tv ⟨#[99]⟩],[tv ⟨#[115]⟩],[tv ⟨#[49,48,48,48,48,48,48]⟩]];have l3:=Gi hL ⟨#[112,114,105,110,116]⟩ [[tv ⟨#[111]⟩]];have l4:=Gi hL ⟨#[110,111,116,104,105,110,103]⟩ [];unfold dA dV at h1 h2 h3;rcases h1 with rfl|rfl<;>rcases h2 with rfl|rfl<;>rcases h3 with rfl|rfl
 all_goals exact ZS
def TA :List Tok:=[⟨3,⟨⟨#[102,117,110,99]⟩,Zd⟩,0,0⟩,⟨1,⟨⟨#[109,97,105,110]⟩,Zd⟩,0,5⟩,⟨4,⟨⟨#[40]⟩,Zd⟩,0,9⟩,⟨4,⟨⟨#[41]⟩,Zd⟩,0,10⟩,⟨4,⟨⟨#[123]⟩,Zd⟩,0,12⟩,⟨3,⟨⟨#[112,117,116]⟩,Zd⟩,0,14⟩,⟨4,⟨⟨#[40]⟩,Zd⟩,0,17⟩,⟨2,⟨⟨#[54,53]⟩,Zd⟩,65,18⟩,⟨4,⟨⟨#[41]⟩,Zd⟩,0,20⟩,⟨4,⟨⟨#[59]⟩,Zd⟩,0,21⟩,⟨4,⟨⟨#[125]⟩,Zd⟩,0,23⟩]
def xA :Sy.Pr:=⟨[],[],[⟨⟨⟨#[109,97,105,110]⟩,Zd⟩,[],[],false,[.mk 3 gD [.mk 1 0 65 gD []] [] []]⟩]⟩
theorem lexA :gW dK= .ok (TA.map mQ):=Zf
theorem BJ :Hu dK xA:=⟨TA,lexA,Zf⟩
theorem rightA :rP iZ xA=true:=Zf
theorem prog_A : ∃a,eN P0 97 [tv dK] [.agg xA.row,iv a,iv 0]:=by
 obtain⟨rs,h1,a,h2⟩:=ES dK Zd;have h3:=qW.1 _ _ _ h1;rcases h2 with⟨e,mX,rfl⟩|⟨p,hr,_,⟨hf,rfl⟩|⟨hf,rfl⟩⟩
 ·exact(Td BJ mX).elim
 ·obtain rfl:=N9 BJ hr
  rw[rightA] at hf;cases hf
 ·obtain rfl:=N9 BJ hr
  exact⟨a,h3⟩
end
end Go.Proofs.YtggghdmdjpianaaGreatDoor
namespace Go.Ab
section
open Go
variable {xs rs:List AV}{f:Nat}{P:Program}
def wS (f:Nat)(xs rs:List AV):aS:=⟨fun g a=>if g==f&&sE a xs then some rs else none,fun _ _ _ _ _=>none⟩
def FN (X Y:aS):aS:=⟨fun f a=>match X.dat f a with|some r=>some r|none=>Y.dat f a,fun k d f a hp=>match X.hpc k d f a hp with|some r=>some r|none=>Y.hpc k d f a hp⟩
theorem G1a {g:Nat}{a r:List AV}(h:(wS f xs rs).dat g a=some r):g=f/\a=xs/\r=rs:=by
 simp only[wS] at h
 split at h
 ·rename_i hc
  simp only[Ed,beq_iff_eq] at hc
  cases h
  exact⟨hc.1,Fc _ _ hc.2,rfl⟩
 ·cases h
theorem Ti{X Y:aS}(hx:Av P X)(hy:Av P Y):Av P (FN X Y):=by
 refine⟨fun f a r h=>?_,fun k d f a hp v hp' h=>?_⟩
 ·simp only[FN] at h
  split at h
  ·rename_i e;cases h;exact hx.1 _ _ _ e
  ·exact hy.1 _ _ _ h
 ·simp only[FN] at h
  split at h
  ·rename_i e;cases h;exact hx.2 _ _ _ _ _ _ _ e
  ·exact hy.2 _ _ _ _ _ _ _ h
theorem M0(hs:eN P f xs rs):Av P (wS f xs rs):=by
 refine⟨fun g a r h=>?_,fun _ _ _ _ _ _ _ h=>nomatch h⟩;obtain⟨rfl,rfl,rfl⟩:=G1a h;exact hs
end
end Go.Ab
