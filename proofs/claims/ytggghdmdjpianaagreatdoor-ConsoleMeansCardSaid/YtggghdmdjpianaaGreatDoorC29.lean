/- A part of the proof: Jj. -/
import Derived.Test.YtggghdmdjpianaaGreatDoorC19
set_option linter.unusedSimpArgs false
set_option linter.unusedVariables false
set_option maxRecDepth 200000
set_option maxHeartbeats 8000000
namespace Go.Proofs.YtggghdmdjpianaaGreatDoor
section
open Go Go.Ab Go.Ab.Sy
variable {w:Bool}{m:List (Tx×Fu)}{l:List Sy.St}{i:Nat}
theorem Fta (m:List (Tx×Fu))(w:Bool)(k:Int)(s:Tx)(e:List Sy.Ex)(t f:List Sy.St):tyS m w (.mk k s e t f)=((decide (k≠6)|| !Di m s)&&((decide (k≠7)||(e.length==0||w))&&(Ud m e (if k=4\/k=5 then 2 else 1)&&(Ui m w t&&Ui m w f)))):=by rw[tyS,yZ,yZ,yZ]
theorem IE(h:i<l.length):Ui m w (l.drop i)=(tyS m w l[i]&&Ui m w (l.drop (i+1))):=by rw[Ng h,C9a]
theorem Fsa(h: ¬i<l.length):Ui m w (l.drop i)=true:=by rw[wO Zo];simp
theorem B6a {m:List (Tx×Fu)}: ∀{l:List Sy.St},aU m l=true-> ∀e∈l,LD m e=true
 |e::l,h,x,hx=>by
  rw[Rj,Ed] at h;rcases sV.1 hx with rfl|hx
  ·exact h.1
  ·exact B6a h.2 x hx
theorem EV {X:aS}(hX: ∀f a,X.dat f a=none)(vs:List Tx)(ar:List (Tx×Int))(fs:List Sy.Fu)(hv:vs.length<=1048576)(ha:ar.length<=1048576)(hf:fs.length<=1048576)(w:Bool)(l:List Sy.St)(hl:Ix l<=1048576)(hkn:aU (Ip fs) l=true)(ih: ∀l2:List Sy.St,Ix l2<Ix l->aU (Ip fs) l2=true->(Lm X).dat 33 [.agg [.sl false 1 (Ib vs),.sl false 2 (Ih ar),.sl false 5 (fs.map Sy.Fu.row)],bv w,.sl false 5 (Ik l2)]=some [bv (Ui (Ip fs) w l2)]):(Lm X).dat 33 [.agg [.sl false 1 (Ib vs),.sl false 2 (Ih ar),.sl false 5 (fs.map Sy.Fu.row)],bv w,.sl false 5 (Ik l)]=some [bv (Ui (Ip fs) w l)]:=by
 refine fW Tryz.func33 (hX _ _) ?_;have FY:(Ik l).length=l.length:=by simp[B5]
 have zN:=A9 l;have HKN:=Lib.hid hkn;clear hkn
 repeat' first|refine ZN ?_|refine Z2 ?_ ?_|intro h h';try simp[*,-h] at h'
 all_goals (refine Ac (n:=l.length) (fun s0 m z=> ∃(i g1:Nat),l.length - i<=m/\i<=l.length/\Ui (Ip fs) w l=Ui (Ip fs) w (l.drop i)/\z.fr 1=bv w/\z.fr 2= .sl false 5 (Ik l)/\z.fr 3= .ptr ⟨0,3,0⟩ g1 0/\z.fr 7=iv i/\z.hp ⟨0,3,0⟩= .box g1 [.sl false 1 (Ib vs),.sl false 2 (Ih ar),.sl false 5 (fs.map Sy.Fu.row)] false) ⟨0,1,Zo,Zo,rfl,Zi,Zi,Zi,Zi,Zi⟩ ?_)
 rintro m ⟨fr,hp⟩ ⟨i,g1,hm,hi,hI,f1,f2,f3,f7,h2⟩;simp at f1 f2 f3 f7 h2;have HI:=Lib.hid hI;clear hI;by_cases Ii:i<l.length
 ·have e1:(i:Int)<l.length:=Zo
  have hg:=Sx Ii;have w1:=Iw (k:=i) Zo;have aZ:=Bp (oY Ii);have hD:=IE (m:=Ip fs) (w:=w) Ii;have hke:=B6a HKN.out _ (oY Ii);generalize hq:l[i]=t at*;obtain⟨tk,ts,te,tt,tf⟩:=t;rw[Bi] at aZ;have HK:=Lib.hid hke;rw[O2,Ed,Ed,Ed] at hke;obtain⟨_,_,rU,hk3⟩:=hke;have nw:=NS hX vs ar fs hv ha hf te Zo;have nb:=OB hX vs ar fs hv ha hf te Zo;have n2:=ih tt Zo rU;have n3:=ih tf Zo hk3;clear ih rU hk3;simp only[Bo] at hg;clear hq Ii aZ zN;have fq:=Gp hX vs ar fs hv ha hf ts;rw[Fta] at hD;by_cases k4:tk=4
  ·subst k4
   have qO:Ui (Ip fs) w (l.drop i)=(Ud (Ip fs) te 2&&(Ui (Ip fs) w tt&&Ui (Ip fs) w tf)&&Ui (Ip fs) w (l.drop (i+1))):=by rw[hD];simp
   have HD:=Lib.hid qO;have n0:=nb;clear hD qO nb nw fq HK
   cases b1:Ud (Ip fs) te 2 with
   |false=>
    rw[b1] at n0;have hr:Ui (Ip fs) w l=false:=by rw[HI.out,HD.out,b1];try simp
    rw[hr];clear hr b1;exact ZS
   |true=>
    rw[b1] at n0
    cases b2:Ui (Ip fs) w tt with
    |false=>
     rw[b2] at n2;have hr:Ui (Ip fs) w l=false:=by rw[HI.out,HD.out,b1,b2];try simp
     rw[hr];clear hr b1 b2;exact ZS
    |true=>
     rw[b2] at n2
     cases b3:Ui (Ip fs) w tf with
     |false=>
      rw[b3] at n3;have hr:Ui (Ip fs) w l=false:=by rw[HI.out,HD.out,b1,b2,b3];try simp
      rw[hr];clear hr b1 b2 b3;exact ZS
     |true=>
      rw[b3] at n3;have HE:=Lib.hid (HI.out.trans (by rw[HD.out,b1,b2,b3];try simp));clear b1 b2 b3
      repeat' first|refine ZN ?_|refine Z2 ?_ ?_|intro h h';try simp[*,-h] at h'
      all_goals exact⟨l.length - (i+1),Zo,i+1,g1,Zo,Zo,HE.out,Zm,Zm,Zm,Zm,Zm⟩
  by_cases k5:tk=5
  ·subst k5
   have qO:Ui (Ip fs) w (l.drop i)=(Ud (Ip fs) te 2&&(Ui (Ip fs) w tt&&Ui (Ip fs) w tf)&&Ui (Ip fs) w (l.drop (i+1))):=by rw[hD];simp
   have HD:=Lib.hid qO;have n0:=nb;clear hD qO nb nw fq HK
   cases b1:Ud (Ip fs) te 2 with
   |false=>
    rw[b1] at n0;have hr:Ui (Ip fs) w l=false:=by rw[HI.out,HD.out,b1];try simp
    rw[hr];clear hr b1;exact ZS
   |true=>
    rw[b1] at n0
    cases b2:Ui (Ip fs) w tt with
    |false=>
     rw[b2] at n2;have hr:Ui (Ip fs) w l=false:=by rw[HI.out,HD.out,b1,b2];try simp
     rw[hr];clear hr b1 b2;exact ZS
    |true=>
     rw[b2] at n2
     cases b3:Ui (Ip fs) w tf with
     |false=>
      rw[b3] at n3;have hr:Ui (Ip fs) w l=false:=by rw[HI.out,HD.out,b1,b2,b3];try simp
      rw[hr];clear hr b1 b2 b3;exact ZS
     |true=>
      rw[b3] at n3;have HE:=Lib.hid (HI.out.trans (by rw[HD.out,b1,b2,b3];try simp));clear b1 b2 b3
      repeat' first|refine ZN ?_|refine Z2 ?_ ?_|intro h h';try simp[*,-h] at h'
      all_goals exact⟨l.length - (i+1),Zo,i+1,g1,Zo,Zo,HE.out,Zm,Zm,Zm,Zm,Zm⟩
  clear nb;have n0:=nw;clear nw;by_cases k6:tk=6
  ·subst k6
   have hkn:=HK.out;rw[O2] at hkn;have pI: ¬jH fs ts<0:=fun h=>by rw[Kc h] at hkn;cases hkn
   obtain⟨j,f,h1,zV,h3⟩:=Vf pI;obtain⟨gn,gp,gl,gw,gb⟩:=f;simp only at h3;have mM:=(Oh.1 zV).1;have ej:(j:Int)<fs.length:=Zo;rw[h1] at fq;have qB:=Bw gn gp gl gw gb;have qO:Ui (Ip fs) w (l.drop i)=((!gw)&&(Ud (Ip fs) te 1&&(Ui (Ip fs) w tt&&Ui (Ip fs) w tf))&&Ui (Ip fs) w (l.drop (i+1))):=by rw[hD,h3];simp
   clear hkn pI hD h3 h1 mM HK
   cases gw with
   |false=>
    have HD:=Lib.hid (qO.trans (by rw[Bool.not_false,Zt]));clear qO
    cases b1:Ud (Ip fs) te 1 with
    |false=>
     rw[b1] at n0;have hr:Ui (Ip fs) w l=false:=by rw[HI.out,HD.out,b1];try simp
     rw[hr];clear hr b1;exact ZS
    |true=>
     rw[b1] at n0
     cases b2:Ui (Ip fs) w tt with
     |false=>
      rw[b2] at n2;have hr:Ui (Ip fs) w l=false:=by rw[HI.out,HD.out,b1,b2];try simp
      rw[hr];clear hr b1 b2;exact ZS
     |true=>
      rw[b2] at n2
      cases b3:Ui (Ip fs) w tf with
      |false=>
       rw[b3] at n3;have hr:Ui (Ip fs) w l=false:=by rw[HI.out,HD.out,b1,b2,b3];try simp
       rw[hr];clear hr b1 b2 b3;exact ZS
      |true=>
       rw[b3] at n3;have HE:=Lib.hid (HI.out.trans (by rw[HD.out,b1,b2,b3];try simp));clear b1 b2 b3
       repeat' first|refine ZN ?_|refine Z2 ?_ ?_|intro h h';try simp[*,-h] at h'
       all_goals exact⟨l.length - (i+1),Zo,i+1,g1,Zo,Zo,HE.out,Zm,Zm,Zm,Zm,Zm⟩
   |true=>
    cases b1:Ud (Ip fs) te 1 with
    |false=>
     rw[b1] at n0;clear b1;have hr:Ui (Ip fs) w l=false:=by rw[HI.out,qO];simp
     rw[hr];clear hr;exact ZS
    |true=>
     rw[b1] at n0;clear b1;have hr:Ui (Ip fs) w l=false:=by rw[HI.out,qO];simp
     rw[hr];clear hr;exact ZS
  clear HK fq;by_cases k7:tk=7
  ·subst k7
   by_cases aI:te.length=0
   ·have ele: ¬0<te.length:=Zo
    have qO:Ui (Ip fs) w (l.drop i)=(Ud (Ip fs) te 1&&(Ui (Ip fs) w tt&&Ui (Ip fs) w tf)&&Ui (Ip fs) w (l.drop (i+1))):=by rw[hD];simp[aI]
    have HD:=Lib.hid qO;clear hD qO aI
    cases b1:Ud (Ip fs) te 1 with
    |false=>
     rw[b1] at n0;have hr:Ui (Ip fs) w l=false:=by rw[HI.out,HD.out,b1];try simp
     rw[hr];clear hr b1;exact ZS
    |true=>
     rw[b1] at n0
     cases b2:Ui (Ip fs) w tt with
     |false=>
      rw[b2] at n2;have hr:Ui (Ip fs) w l=false:=by rw[HI.out,HD.out,b1,b2];try simp
      rw[hr];clear hr b1 b2;exact ZS
     |true=>
      rw[b2] at n2
      cases b3:Ui (Ip fs) w tf with
      |false=>
       rw[b3] at n3;have hr:Ui (Ip fs) w l=false:=by rw[HI.out,HD.out,b1,b2,b3];try simp
       rw[hr];clear hr b1 b2 b3;exact ZS
      |true=>
       rw[b3] at n3;have HE:=Lib.hid (HI.out.trans (by rw[HD.out,b1,b2,b3];try simp));clear b1 b2 b3
       repeat' first|refine ZN ?_|refine Z2 ?_ ?_|intro h h';try simp[*,-h] at h'
       all_goals exact⟨l.length - (i+1),Zo,i+1,g1,Zo,Zo,HE.out,Zm,Zm,Zm,Zm,Zm⟩
   ·have ele:0<te.length:=Zo
    cases w with
    |false=>
     have qO:Ui (Ip fs) false (l.drop i)=false:=by rw[hD];simp[aI]
     have hr:Ui (Ip fs) false l=false:=HI.out.trans qO;rw[hr];clear hr hD qO HI aI
     cases b1:Ud (Ip fs) te 1 with
     |false=>
      rw[b1] at n0;clear b1;exact ZS
     |true=>
      rw[b1] at n0;clear b1;exact ZS
    |true=>
     have qO:Ui (Ip fs) true (l.drop i)=(Ud (Ip fs) te 1&&(Ui (Ip fs) true tt&&Ui (Ip fs) true tf)&&Ui (Ip fs) true (l.drop (i+1))):=by rw[hD];simp
     have HD:=Lib.hid qO;clear hD qO aI
     cases b1:Ud (Ip fs) te 1 with
     |false=>
      rw[b1] at n0;have hr:Ui (Ip fs) true l=false:=by rw[HI.out,HD.out,b1];try simp
      rw[hr];clear hr b1;exact ZS
     |true=>
      rw[b1] at n0
      cases b2:Ui (Ip fs) true tt with
      |false=>
       rw[b2] at n2;have hr:Ui (Ip fs) true l=false:=by rw[HI.out,HD.out,b1,b2];try simp
       rw[hr];clear hr b1 b2;exact ZS
      |true=>
       rw[b2] at n2
       cases b3:Ui (Ip fs) true tf with
       |false=>
        rw[b3] at n3;have hr:Ui (Ip fs) true l=false:=by rw[HI.out,HD.out,b1,b2,b3];try simp
        rw[hr];clear hr b1 b2 b3;exact ZS
       |true=>
        rw[b3] at n3;have HE:=Lib.hid (HI.out.trans (by rw[HD.out,b1,b2,b3];try simp));clear b1 b2 b3
        repeat' first|refine ZN ?_|refine Z2 ?_ ?_|intro h h';try simp[*,-h] at h'
        all_goals exact⟨l.length - (i+1),Zo,i+1,g1,Zo,Zo,HE.out,Zm,Zm,Zm,Zm,Zm⟩
  have qO:Ui (Ip fs) w (l.drop i)=(Ud (Ip fs) te 1&&(Ui (Ip fs) w tt&&Ui (Ip fs) w tf)&&Ui (Ip fs) w (l.drop (i+1))):=by rw[hD];simp[k4,k5,k6,k7]
  have HD:=Lib.hid qO;clear hD qO
  cases b1:Ud (Ip fs) te 1 with
  |false=>
   rw[b1] at n0;have hr:Ui (Ip fs) w l=false:=by rw[HI.out,HD.out,b1];try simp
   rw[hr];clear hr b1;exact ZS
  |true=>
   rw[b1] at n0
   cases b2:Ui (Ip fs) w tt with
   |false=>
    rw[b2] at n2;have hr:Ui (Ip fs) w l=false:=by rw[HI.out,HD.out,b1,b2];try simp
    rw[hr];clear hr b1 b2;exact ZS
   |true=>
    rw[b2] at n2
    cases b3:Ui (Ip fs) w tf with
    |false=>
     rw[b3] at n3;have hr:Ui (Ip fs) w l=false:=by rw[HI.out,HD.out,b1,b2,b3];try simp
     rw[hr];clear hr b1 b2 b3;exact ZS
    |true=>
     rw[b3] at n3;have HE:=Lib.hid (HI.out.trans (by rw[HD.out,b1,b2,b3];try simp));clear b1 b2 b3
     repeat' first|refine ZN ?_|refine Z2 ?_ ?_|intro h h';try simp[*,-h] at h'
     all_goals exact⟨l.length - (i+1),Zo,i+1,g1,Zo,Zo,HE.out,Zm,Zm,Zm,Zm,Zm⟩
 ·have e1: ¬(i:Int)<l.length:=Zo
  have hr:Ui (Ip fs) w l=true:=HI.out.trans (Fsa Ii);rw[hr];clear hr HI ih;exact ZS
theorem EU {X:aS}(hX: ∀f a,X.dat f a=none)(vs:List Tx)(ar:List (Tx×Int))(fs:List Sy.Fu)(hv:vs.length<=1048576)(ha:ar.length<=1048576)(hf:fs.length<=1048576)(w:Bool): ∀(N:Nat) (l:List Sy.St),Ix l<=N->Ix l<=1048576->aU (Ip fs) l=true->(Lm X).dat 33 [.agg [.sl false 1 (Ib vs),.sl false 2 (Ih ar),.sl false 5 (fs.map Sy.Fu.row)],bv w,.sl false 5 (Ik l)]=some [bv (Ui (Ip fs) w l)]
 |0,l,h,h2,hk=>EV hX vs ar fs hv ha hf w l h2 hk fun l2 hh _=>Zo
 |N+1,l,h,h2,hk=>EV hX vs ar fs hv ha hf w l h2 hk fun l2 hh rU=>EU hX vs ar fs hv ha hf w N l2 Zo Zo rU
end
end Go.Proofs.YtggghdmdjpianaaGreatDoor