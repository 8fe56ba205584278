/- A part of the proof: G9, G10, Jk, Np, Ua, Ub, Uc, Ud. -/
import Derived.Test.YtggghdmdjpianaaGreatDoorC29
import Derived.Test.YtggghdmdjpianaaGreatDoorC07
import Derived.Lib.Hide
import Derived.Test.YtggghdmdjpianaaGreatDoorC10
set_option linter.unusedSimpArgs false
set_option linter.unusedVariables false
set_option maxRecDepth 200000
set_option maxHeartbeats 8000000
namespace Go.Proofs.YtggghdmdjpianaaGreatDoor
section
open Go Go.Ab Go.Ab.Sy
theorem st_at {l:List Sy.St}{i:Nat}(h:i<l.length):(Ik l)[i]?=some l[i].row:=by simp[B5,h]
theorem Su {X:aS}(hX: ∀f a,X.dat f a=none)(l:List Sy.St)(v:Nat)(hl:l.length<=2199023255552)(ih: ∀e∈l,(Lm X).dat 70 [.agg e.row,iv v]=some [bv (qS U5 v e)]):(Lm X).dat 29 [.sl false 5 (Ik l),iv v]=some [bv (sN U5 v l)]:=by
 refine fW Tryz.func29 (hX _ _) ?_
 repeat' first|refine ZN ?_|refine Z2 ?_ ?_|intro h h';try simp[*,-h] at h'
 all_goals (refine Ac (n:=l.length) (fun s0 m z=> ∃i:Nat,l.length - i<=m/\i<=l.length/\sN U5 v l=sN U5 v (l.drop i)/\z.fr 0= .sl false 5 (Ik l)/\z.fr 1=iv v/\z.fr 5=iv i) ⟨0,Zo,Zo,rfl,Zi,Zi,Zi⟩ ?_)
 rintro m ⟨fr,hp⟩ ⟨i,hm,hi,hI,f0,f1,f5⟩;simp at f0 f1 f5;rw[hI];have HI:=Lib.hid hI;clear hI;by_cases Ii:i<l.length
 ·have e1:(i:Int)<l.length:=Zo
  have hg:=st_at Ii;have iL: ∀h:i<(Ik l).length,(Ik l)[i]'h=l[i].row:=fun h=>by simp[B5]
  have hd:sN U5 v (l.drop i)=(qS U5 v l[i]&&sN U5 v (l.drop (i+1))):=by rw[Ng Ii,sN]
  have nt:=ih l[i] (oY Ii);rw[hd];have HD:=Lib.hid hd;clear hd ih;have w1:=Iw (k:=i) Zo;generalize hq:l[i]=t at*;obtain⟨tk,ts,te,tt,tf⟩:=t;simp only[Bo] at hg iL nt
  cases hb:qS U5 v (.mk tk ts te tt tf) with
  |true=>
   rw[hb] at nt;have HE:=Lib.hid (HI.out.trans (HD.out.trans (by rw[hb,Zt])));rw[Zt];generalize hr:sN U5 v (l.drop (i+1))=r at*;clear hb
   repeat' first|refine ZN ?_|refine Z2 ?_ ?_|intro h h';try simp[*,-h] at h'
   all_goals exact⟨l.length - (i+1),Zo,i+1,Zo,Zo,by rw[hr],Zm,Zm,Zm⟩
  |false=>
   rw[hb] at nt;rw[xX];clear hb;exact ZS
 ·have e1: ¬(i:Int)<l.length:=Zo
  have hb:sN U5 v (l.drop i)=true:=by rw[wO Zo];rfl
  rw[hb];clear hb ih;exact ZS
theorem F6a {X:aS}(hX: ∀f a,X.dat f a=none)(k:Int)(s:Tx)(e:List Sy.Ex)(t f:List Sy.St)(v:Nat)(hv:v<=1099511627776)(ihE:(Lm X).dat 124 [.sl false 5 (In e),iv ((v:Int)+1)]=some [bv (tK U5 (v+1) e)])(ihT:(Lm X).dat 29 [.sl false 5 (Ik t),iv ((v:Int)+1)]=some [bv (sN U5 (v+1) t)])(ihF:(Lm X).dat 29 [.sl false 5 (Ik f),iv ((v:Int)+1)]=some [bv (sN U5 (v+1) f)]):(Lm X).dat 70 [.agg [iz k,tz s.1,.sl false 5 (In e),.sl false 5 (Ik t),.sl false 5 (Ik f)],iv v]=some [bv (qS U5 v (.mk k s e t f))]:=by
 refine fW Tryz.func70 (hX _ _) ?_;have nq:=Nf hX s.val (Ac7 s.2 Zd);have w1:=Iw (k:=v) Zo;have oG:s=gD↔s.val=⟨#[]⟩:=⟨fun h=>congrArg Tx.val h,fun h=>Tx.ext h⟩;rw[qS];have HS:=Lib.hid oG;clear oG;by_cases hv24:24<v
 ·have e1:(24:Int)<v:=Zo
  rw[Ka (.inl hv24)];clear nq ihE ihT ihF;exact ZS
 have e1: ¬(24:Int)<v:=Zo;by_cases k1:k=1
 ·subst k1
  by_cases hF:f.length=0<;>by_cases hT:t.length=0<;>by_cases hE:e.length=1
  all_goals (first|(have eF: ¬(0:Int)<f.length:=Zo;have eF1: ¬0<f.length:=Zo)|(have eF:(0:Int)<f.length:=Zo;have eF1:0<f.length:=Zo))
  all_goals (first|(have eT: ¬(0:Int)<t.length:=Zo;have eT1: ¬0<t.length:=Zo)|(have eT:(0:Int)<t.length:=Zo;have eT1:0<t.length:=Zo))
  all_goals (first|(have eE:(e.length:Int)=1:=Zo)|(have eE: ¬(e.length:Int)=1:=Zo))
  all_goals
  repeat' first|refine ZN ?_|refine Z2 ?_ ?_|intro h h';try simp[*,-h] at h'
  all_goals have oG:=HS.out
  all_goals clear HS
  all_goals (first|(simp[cI,dX,U5,-List.length_eq_zero_iff, *];done)|(simp_all[cI,dX,U5,-List.length_eq_zero_iff];done))
 by_cases k2:k=2
 ·subst k2
  by_cases hF:f.length=0<;>by_cases hT:t.length=0<;>by_cases hE:e.length=2
  all_goals (first|(have eF: ¬(0:Int)<f.length:=Zo;have eF1: ¬0<f.length:=Zo)|(have eF:(0:Int)<f.length:=Zo;have eF1:0<f.length:=Zo))
  all_goals (first|(have eT: ¬(0:Int)<t.length:=Zo;have eT1: ¬0<t.length:=Zo)|(have eT:(0:Int)<t.length:=Zo;have eT1:0<t.length:=Zo))
  all_goals (first|(have eE:(e.length:Int)=2:=Zo)|(have eE: ¬(e.length:Int)=2:=Zo))
  all_goals
  repeat' first|refine ZN ?_|refine Z2 ?_ ?_|intro h h';try simp[*,-h] at h'
  all_goals have oG:=HS.out
  all_goals clear HS
  all_goals (first|(simp[cI,dX,U5,-List.length_eq_zero_iff, *];done)|(simp_all[cI,dX,U5,-List.length_eq_zero_iff];done))
 by_cases k3:k=3
 ·subst k3
  by_cases hF:f.length=0<;>by_cases hT:t.length=0<;>by_cases hE:e.length=1
  all_goals (first|(have eF: ¬(0:Int)<f.length:=Zo;have eF1: ¬0<f.length:=Zo)|(have eF:(0:Int)<f.length:=Zo;have eF1:0<f.length:=Zo))
  all_goals (first|(have eT: ¬(0:Int)<t.length:=Zo;have eT1: ¬0<t.length:=Zo)|(have eT:(0:Int)<t.length:=Zo;have eT1:0<t.length:=Zo))
  all_goals (first|(have eE:(e.length:Int)=1:=Zo)|(have eE: ¬(e.length:Int)=1:=Zo))
  all_goals
  repeat' first|refine ZN ?_|refine Z2 ?_ ?_|intro h h';try simp[*,-h] at h'
  all_goals have oG:=HS.out
  all_goals clear HS
  all_goals (first|(simp[cI,dX,U5,-List.length_eq_zero_iff, *];done)|(simp_all[cI,dX,U5,-List.length_eq_zero_iff];done))
 by_cases k4:k=4
 ·subst k4
  by_cases hF:f.length=0<;>by_cases hT:t.length=0<;>by_cases hE:e.length=1
  all_goals (first|(have eF: ¬(0:Int)<f.length:=Zo;have eF1: ¬0<f.length:=Zo)|(have eF:(0:Int)<f.length:=Zo;have eF1:0<f.length:=Zo))
  all_goals (first|(have eT: ¬(0:Int)<t.length:=Zo;have eT1: ¬0<t.length:=Zo)|(have eT:(0:Int)<t.length:=Zo;have eT1:0<t.length:=Zo))
  all_goals (first|(have eE:(e.length:Int)=1:=Zo)|(have eE: ¬(e.length:Int)=1:=Zo))
  all_goals
  repeat' first|refine ZN ?_|refine Z2 ?_ ?_|intro h h';try simp[*,-h] at h'
  all_goals have oG:=HS.out
  all_goals clear HS
  all_goals (first|(simp[cI,dX,U5,-List.length_eq_zero_iff, *];done)|(simp_all[cI,dX,U5,-List.length_eq_zero_iff];done))
 by_cases k5:k=5
 ·subst k5
  by_cases hF:f.length=0<;>by_cases hT:t.length=0<;>by_cases hE:e.length=1
  all_goals (first|(have eF: ¬(0:Int)<f.length:=Zo;have eF1: ¬0<f.length:=Zo)|(have eF:(0:Int)<f.length:=Zo;have eF1:0<f.length:=Zo))
  all_goals (first|(have eT: ¬(0:Int)<t.length:=Zo;have eT1: ¬0<t.length:=Zo)|(have eT:(0:Int)<t.length:=Zo;have eT1:0<t.length:=Zo))
  all_goals (first|(have eE:(e.length:Int)=1:=Zo)|(have eE: ¬(e.length:Int)=1:=Zo))
  all_goals
  repeat' first|refine ZN ?_|refine Z2 ?_ ?_|intro h h';try simp[*,-h] at h'
  all_goals have oG:=HS.out
  all_goals clear HS
  all_goals (first|(simp[cI,dX,U5,-List.length_eq_zero_iff, *];done)|(simp_all[cI,dX,U5,-List.length_eq_zero_iff];done))
 by_cases k6:k=6
 ·subst k6
  by_cases hF:f.length=0<;>by_cases hT:t.length=0<;>by_cases hE:e.length<=6
  all_goals (first|(have eF: ¬(0:Int)<f.length:=Zo;have eF1: ¬0<f.length:=Zo)|(have eF:(0:Int)<f.length:=Zo;have eF1:0<f.length:=Zo))
  all_goals (first|(have eT: ¬(0:Int)<t.length:=Zo;have eT1: ¬0<t.length:=Zo)|(have eT:(0:Int)<t.length:=Zo;have eT1:0<t.length:=Zo))
  all_goals (first|(have eE:(e.length:Int)<=6:=Zo)|(have eE: ¬(e.length:Int)<=6:=Zo))
  all_goals
  repeat' first|refine ZN ?_|refine Z2 ?_ ?_|intro h h';try simp[*,-h] at h'
  all_goals have oG:=HS.out
  all_goals clear HS
  all_goals (first|(simp[cI,dX,U5,-List.length_eq_zero_iff, *];done)|(simp_all[cI,dX,U5,-List.length_eq_zero_iff];done))
 by_cases k7:k=7
 ·subst k7
  by_cases hF:f.length=0<;>by_cases hT:t.length=0<;>by_cases hE:e.length<=1
  all_goals (first|(have eF: ¬(0:Int)<f.length:=Zo;have eF1: ¬0<f.length:=Zo)|(have eF:(0:Int)<f.length:=Zo;have eF1:0<f.length:=Zo))
  all_goals (first|(have eT: ¬(0:Int)<t.length:=Zo;have eT1: ¬0<t.length:=Zo)|(have eT:(0:Int)<t.length:=Zo;have eT1:0<t.length:=Zo))
  all_goals (first|(have eE:(e.length:Int)<=1:=Zo)|(have eE: ¬(e.length:Int)<=1:=Zo))
  all_goals
  repeat' first|refine ZN ?_|refine Z2 ?_ ?_|intro h h';try simp[*,-h] at h'
  all_goals have oG:=HS.out
  all_goals clear HS
  all_goals (first|(simp[cI,dX,U5,-List.length_eq_zero_iff, *];done)|(simp_all[cI,dX,U5,-List.length_eq_zero_iff];done))
 have iC:cI k=false:=by simp[cI,k1,k2,k6]
 have zQ:dX k e.length=false:=by simp[dX,k1,k2,k3,k4,k5,k6,k7]
 repeat' first|refine ZN ?_|refine Z2 ?_ ?_|intro h h';try simp[*,-h] at h'
 all_goals (first|(simp[iC,zQ, *];done)|(simp_all;done))
theorem Nv {X:aS}(hX: ∀f a,X.dat f a=none): ∀(N:Nat) (e:Sy.St),e.size<=N-> ∀v:Nat,v+e.size<=1099511627776->(Lm X).dat 70 [.agg e.row,iv v]=some [bv (qS U5 v e)]
 |0,e,h,v,_=>by have:=e.size_pos;omega
 |N+1,.mk k s e t f,h,v,hv=>by
  simp only[Bi] at h hv;rw[Bo];have ht:=A9 t;have hf:=A9 f;exact F6a hX k s e t f v Zo (Eva hX e (v+1) Zo) (Su hX t (v+1) Zo fun x hx=>Nv hX N x (by have:=Bp hx;omega) (v+1) (by have:=Bp hx;omega)) (Su hX f (v+1) Zo fun x hx=>Nv hX N x (by have:=Bp hx;omega) (v+1) (by have:=Bp hx;omega))
theorem Dfa {X:aS}(hX: ∀f a,X.dat f a=none)(l:List Sy.St)(v:Nat)(h:v+Ix l<=1099511627776):(Lm X).dat 29 [.sl false 5 (Ik l),iv v]=some [bv (sN U5 v l)]:=
 Su hX l v (by have:=A9 l;omega) fun e he=>Nv hX _ e (D5 _) v (by have:=Bp he;omega)
def uX (a:Tx×Int):Bool:=U5 a.1&&(decide (1<=a.2)&&decide (a.2<=4096))
def oN (f:Sy.Fu):Bool:=U5 f.name&&(decide (f.params.length<=6)&&(f.params.all U5&&(f.locals.all U5&&sN U5 1 f.body)))
theorem qP_U (p:Sy.Pr):qP U5 p=if p.vars.all U5=false\/p.funcs.length<1\/64<p.funcs.length then false else if p.arrays.all uX=false then false else p.funcs.all oN:=rfl
theorem Qr {X:aS}(hX: ∀f a,X.dat f a=none)(vs:List Tx)(ar:List (Tx×Int))(fs:List Sy.Fu)(hv:vs.length<=1048576)(ha:ar.length<=1048576)(hf: ∀f∈fs,f.size<=1048576):(Lm X).dat 14 [.agg [.sl false 1 (Ib vs),.sl false 2 (Ih ar),.sl false 5 (fs.map Sy.Fu.row)]]=some [bv (qP U5 ⟨vs,ar,fs⟩)]:=by
 refine fW Tryz.func14 (hX _ _) ?_;have nv:=Lo hX vs Zo;have nq:=fun t:Tx=>Nf hX t.val (Ac7 t.2 Zd)
 rw[qP_U];show W _ _ _ _ _ _ (xW _ _ _ fun rs=>rs=[bv (if vs.all U5=false\/fs.length<1\/64<fs.length then false else if ar.all uX=false then false else fs.all oN)])
 cases hb:vs.all U5 with
 |false=>
  rw[hb] at nv;rw[Ka (.inl rfl)];clear hb nq hf;exact ZS
 |true=>
  rw[hb] at nv;clear hb;by_cases hl:fs.length<1\/64<fs.length
  ·rw[Ka (.inr hl)]
   by_cases h1:fs.length<1
   ·have e1:(fs.length:Int)<1:=Zo
    clear hl h1 nq hf;exact ZS
   ·have e1: ¬(fs.length:Int)<1:=Zo
    have e2:(64:Int)<fs.length:=Zo;clear hl h1 nq hf;exact ZS
  rw[Jx (by rintro(h|h);cases h;exact hl h)];have e1: ¬(fs.length:Int)<1:=Zo;have e2: ¬(64:Int)<fs.length:=Zo;have el:fs.length<=64:=Zo;clear hl;have NQ:=Lib.hid nq;have HFS:=Lib.hid hf;clear nq hf;generalize hRR:(if ar.all uX=false then false else fs.all oN)=RR
  repeat' first|refine ZN ?_|refine Z2 ?_ ?_|intro h h';try simp[*,-h] at h'
  all_goals (refine Ac (n:=ar.length) (fun s0 m z=> ∃i:Nat,ar.length - i<=m/\i<=ar.length/\ar.all uX=(ar.drop i).all uX/\z.fr 1=s0.fr 1/\z.hp=s0.hp/\z.fr 3=iv i) ⟨0,Zo,Zo,rfl,Zi,Zi,Zi⟩ ?_)
  rintro m ⟨fr,hp⟩ ⟨i,hm,hi,hI,f1,fh,f3⟩;simp at f1 fh f3;have HI:=Lib.hid hI;have HRR:=Lib.hid hRR;have t4:=Pt ar;clear hI hRR;by_cases Ii:i<ar.length
  ·have e3:(i:Int)<ar.length:=Zo
   have hg:(Ih ar)[i]?=some [tz ar[i].1.1,iz ar[i].2]:=by simp[Ih,Ii]
   have iL: ∀h:i<(Ih ar).length,(Ih ar)[i]'h=[tz ar[i].1.1,iz ar[i].2]:=fun h=>by simp[Ih]
   have hd:(ar.drop i).all uX=(uX ar[i]&&(ar.drop (i+1)).all uX):=by rw[Ng Ii,uZ]
   have nt:=NQ.out ar[i].1;have HD:=Lib.hid (HI.out.trans hd);clear hd;have w1:=Iw (k:=i) Zo;generalize hq:ar[i]=t at*;obtain⟨ts,tz'⟩:=t
   cases hb:U5 ts with
   |false=>
    rw[show dT ts.val=false from hb] at nt;have hr:RR=false:=by rw[<-HRR.out,HD.out,show uX (ts,tz')=false by unfold uX;rw[hb];rfl];rfl
    rw[hr];clear hr hb;exact ZS
   |true=>
    rw[show dT ts.val=true from hb] at nt;by_cases z1:tz'<1
    ·have hr:RR=false:=by rw[<-HRR.out,HD.out,show uX (ts,tz')=false by unfold uX;simp[hb];omega];rfl
     rw[hr];clear hr hb;exact ZS
    by_cases z2:4096<tz'
    ·have hr:RR=false:=by rw[<-HRR.out,HD.out,show uX (ts,tz')=false by unfold uX;simp[hb];omega];rfl
     rw[hr];clear hr hb;exact ZS
    have HE:=Lib.hid (show ar.all uX=(ar.drop (i+1)).all uX by rw[HD.out,show uX (ts,tz')=true by unfold uX;simp[hb];omega,Zt]);clear hb
    repeat' first|refine ZN ?_|refine Z2 ?_ ?_|intro h h';try simp[*,-h] at h'
    all_goals exact⟨ar.length - (i+1),Zo,i+1,Zo,Zo,HE.out,Zm,Zm,Zm⟩
  ·have e3: ¬(i:Int)<ar.length:=Zo
   have hr:RR=fs.all oN:=by rw[<-HRR.out,HI.out,wO Zo];rfl
   rw[hr];clear hr
   repeat' first|refine ZN ?_|refine Z2 ?_ ?_|intro h h';try simp[*,-h] at h'
   all_goals (refine Ac (n:=fs.length) (fun s0 m z=> ∃i:Nat,fs.length - i<=m/\i<=fs.length/\fs.all oN=(fs.drop i).all oN/\z.fr 1= .ptr ⟨0,1,0⟩ 1 0/\z.hp ⟨0,1,0⟩= .box 1 [.sl false 1 (Ib vs),.sl false 2 (Ih ar),.sl false 5 (fs.map Sy.Fu.row)] false/\z.fr 4=iv i) ⟨0,Zo,Zo,rfl,Zm,Zm,Zi⟩ ?_)
   clear f1 fh f3 HI HRR;rintro m2 ⟨fr2,If⟩ ⟨j,sS,hj,hJ,f1,fh,f4⟩;simp at f1 fh f4;have HJ:=Lib.hid hJ;clear hJ;by_cases hlj:j<fs.length
   ·have e4:(j:Int)<fs.length:=Zo
    have hd:(fs.drop j).all oN=(oN fs[j]&&(fs.drop (j+1)).all oN):=by rw[Ng hlj,uZ]
    have hz:=HFS.out fs[j] (oY hlj);have HD2:=Lib.hid (HJ.out.trans hd);have w1:=Iw (k:=j) Zo;clear hd;generalize hq:fs[j]=t at*;obtain⟨fnm,fps,fls,fw,fb⟩:=t;simp only[B1] at hz;have nt:=NQ.out fnm;have np:=Lo hX fps Zo;have nl:=Lo hX fls Zo;have ns:(Lm X).dat 29 [.sl false 5 (Ik fb),iv 1]=some [bv (sN U5 1 fb)]:=Dfa hX fb 1 Zo
    cases b1:U5 fnm with
    |false=>
     rw[show dT fnm.val=false from b1] at nt;have hr:fs.all oN=false:=by rw[HD2.out,show oN ⟨fnm,fps,fls,fw,fb⟩=false by unfold oN;simp[b1]];rfl
     rw[hr];clear hr;exact ZS
    |true=>
     rw[show dT fnm.val=true from b1] at nt;by_cases z6:6<fps.length
     ·have e6:(6:Int)<fps.length:=Zo
      have hr:fs.all oN=false:=by rw[HD2.out,show oN ⟨fnm,fps,fls,fw,fb⟩=false by unfold oN;simp[show¬fps.length<=6 from Zo]];rfl
      rw[hr];clear hr;exact ZS
     have e6: ¬(6:Int)<fps.length:=Zo
     cases b2:fps.all U5 with
     |false=>
      rw[b2] at np;have hr:fs.all oN=false:=by rw[HD2.out,show oN ⟨fnm,fps,fls,fw,fb⟩=false by unfold oN;simp[b2]];rfl
      rw[hr];clear hr;exact ZS
     |true=>
      rw[b2] at np
      cases b3:fls.all U5 with
      |false=>
       rw[b3] at nl;have hr:fs.all oN=false:=by rw[HD2.out,show oN ⟨fnm,fps,fls,fw,fb⟩=false by unfold oN;simp[b3]];rfl
       rw[hr];clear hr;exact ZS
      |true=>
       rw[b3] at nl
       cases b4:sN U5 1 fb with
       |false=>
        rw[b4] at ns;have hr:fs.all oN=false:=by rw[HD2.out,show oN ⟨fnm,fps,fls,fw,fb⟩=false by unfold oN;simp[b4]];rfl
        rw[hr];clear hr;exact ZS
       |true=>
        rw[b4] at ns;have HE:=Lib.hid (show fs.all oN=(fs.drop (j+1)).all oN by rw[HD2.out,show oN ⟨fnm,fps,fls,fw,fb⟩=true by unfold oN;simp[b1,b2,b3,b4];omega,Zt]);clear b1 b2 b3 b4
        repeat' first|refine ZN ?_|refine Z2 ?_ ?_|intro h h';try simp[*,-h] at h'
        all_goals exact⟨fs.length - (j+1),Zo,j+1,Zo,Zo,HE.out,Zm,Zm,Zm⟩
   ·have e4: ¬(j:Int)<fs.length:=Zo
    have hr:fs.all oN=true:=by rw[HJ.out,wO Zo];rfl
    rw[hr];clear hr;exact ZS
theorem Fea {X:aS}(hX: ∀f a,X.dat f a=none)(vs:List Tx)(ar:List (Tx×Int))(fs:List Sy.Fu)(hv:vs.length<=1048576)(ha:ar.length<=1048576)(hf:fs.length<=1048576)(hz: ∀f∈fs,f.params.length<=1048576/\f.locals.length<=1048576/\Ix f.body<=1048576):(Lm X).dat 16 [.agg [.sl false 1 (Ib vs),.sl false 2 (Ih ar),.sl false 5 (fs.map Sy.Fu.row)]]=some [iv (kN ⟨vs,ar,fs⟩)]:=by
 refine fW Tryz.func16 (hX _ _) ?_;have HZ:=Lib.hid hz;clear hz;show W _ _ _ _ _ _ (xW _ _ _ fun rs=>rs=[iv (if fs.all (fun f=>aU (Ip fs) f.body)=false then 4 else if fs.all (fun f=>Ui (Ip fs) f.word f.body)=false then 5 else 0)])
 repeat' first|refine ZN ?_|refine Z2 ?_ ?_|intro h h';try simp[*,-h] at h'
 all_goals (refine Ac (n:=fs.length) (fun s0 m z=> ∃(i g1:Nat),fs.length - i<=m/\i<=fs.length/\fs.all (fun f=>aU (Ip fs) f.body)=(fs.drop i).all (fun f=>aU (Ip fs) f.body)/\z.fr 1= .ptr ⟨0,1,0⟩ g1 0/\z.fr 3=iv i/\z.hp ⟨0,1,0⟩= .box g1 [.sl false 1 (Ib vs),.sl false 2 (Ih ar),.sl false 5 (fs.map Sy.Fu.row)] false) ⟨0,1,Zo,Zo,rfl,Zi,Zi,Zi⟩ ?_)
 rintro m ⟨fr,hp⟩ ⟨i,g1,hm,hi,hI,f1,f3,h1⟩;simp at f1 f3 h1;have HI:=Lib.hid hI;clear hI;by_cases Ii:i<fs.length
 ·have e1:(i:Int)<fs.length:=Zo
  have w1:=Iw (k:=i) Zo;have AM:fs[i]?=some fs[i]:=Bs Ii;have jB:=HZ.out _ (oY Ii);have HD:=Lib.hid (Hq (P:=fun f=>aU (Ip fs) f.body) Ii);generalize fs[i]=f at*;obtain⟨nm,ps,ls,w,b⟩:=f;simp only at jB HD;have hg:=Bw nm ps ls w b;have n1:=K9 hX vs ar fs hv ha hf _ b (D5 _) jB.2.2;clear jB Ii
  cases b1:aU (Ip fs) b with
  |false=>
   rw[b1] at n1;have hr:fs.all (fun f=>aU (Ip fs) f.body)=false:=by rw[HI.out,HD.out,b1];rfl
   rw[Ka hr];clear hr b1;exact ZS
  |true=>
   rw[b1] at n1;have HE:=Lib.hid (HI.out.trans (HD.out.trans (by rw[b1,Zt])));clear b1
   repeat' first|refine ZN ?_|refine Z2 ?_ ?_|intro h h';try simp[*,-h] at h'
   all_goals exact⟨fs.length - (i+1),Zo,i+1,g1,Zo,Zo,HE.out,Zm,Zm,Zm⟩
 ·have e1: ¬(i:Int)<fs.length:=Zo
  have hK:fs.all (fun f=>aU (Ip fs) f.body)=true:=HI.out.trans (K7 Ii);rw[Jx (by rw[hK];decide)];have HK:=Lib.hid hK;clear hK HI Ii
  repeat' first|refine ZN ?_|refine Z2 ?_ ?_|intro h h';try simp[*,-h] at h'
  all_goals (refine Ac (n:=fs.length) (fun s0 m z=> ∃(i g1:Nat),fs.length - i<=m/\i<=fs.length/\fs.all (fun f=>Ui (Ip fs) f.word f.body)=(fs.drop i).all (fun f=>Ui (Ip fs) f.word f.body)/\z.fr 1= .ptr ⟨0,1,0⟩ g1 0/\z.fr 4=iv i/\z.hp ⟨0,1,0⟩= .box g1 [.sl false 1 (Ib vs),.sl false 2 (Ih ar),.sl false 5 (fs.map Sy.Fu.row)] false) ⟨0,g1,Zo,Zo,rfl,Zm,Zi,Zm⟩ ?_)
  clear f1 f3 h1;rintro m' ⟨fr',hp'⟩ ⟨j,g1',AJ,hj,hJ,f1,f4,h1⟩;simp at f1 f4 h1;have HJ:=Lib.hid hJ;clear hJ;by_cases Ii:j<fs.length
  ·have e2:(j:Int)<fs.length:=Zo
   have w1:=Iw (k:=j) Zo;have AM:fs[j]?=some fs[j]:=Bs Ii;have jB:=HZ.out _ (oY Ii);have hkb:=nU.1 HK.out _ (oY Ii);have HD:=Lib.hid (Hq (P:=fun f=>Ui (Ip fs) f.word f.body) Ii);generalize fs[j]=f at*;obtain⟨nm,ps,ls,w,b⟩:=f;simp only at jB HD hkb;have hg:=Bw nm ps ls w b;have n1:=EU hX vs ar fs hv ha hf w _ b (D5 _) jB.2.2 hkb;clear jB hkb Ii
   cases b1:Ui (Ip fs) w b with
   |false=>
    rw[b1] at n1;have hr:fs.all (fun f=>Ui (Ip fs) f.word f.body)=false:=by rw[HJ.out,HD.out,b1];rfl
    rw[Ka hr];clear hr b1;exact ZS
   |true=>
    rw[b1] at n1;have HE:=Lib.hid (HJ.out.trans (HD.out.trans (by rw[b1,Zt])));clear b1
    repeat' first|refine ZN ?_|refine Z2 ?_ ?_|intro h h';try simp[*,-h] at h'
    all_goals exact⟨fs.length - (j+1),Zo,j+1,g1',Zo,Zo,HE.out,Zm,Zm,Zm⟩
  ·have e2: ¬(j:Int)<fs.length:=Zo
   have hr:fs.all (fun f=>Ui (Ip fs) f.word f.body)=true:=HJ.out.trans (K7 Ii);rw[Jx (by rw[hr];decide)];clear hr HJ Ii;exact ZS
theorem Fba {X:aS}(hX: ∀f a,X.dat f a=none)(vs:List Tx)(ar:List (Tx×Int))(fs:List Sy.Fu)(hv:vs.length<=1048576)(ha:ar.length<=1048576)(hf:fs.length<=1048576)(hz: ∀f∈fs,f.params.length<=1048576/\f.locals.length<=1048576/\Ix f.body<=1048576)(aZ: ∀f∈fs,f.size<=1048576):(Lm X).dat 8 [.agg [.sl false 1 (Ib vs),.sl false 2 (Ih ar),.sl false 5 (fs.map Sy.Fu.row)]]=some [iv (uB U5 ⟨vs,ar,fs⟩)]:=by
 refine fW Tryz.func8 (hX _ _) ?_;have rq:=Qr hX vs ar fs hv ha aZ;unfold uB
 cases hb:qP U5 ⟨vs,ar,fs⟩ with
 |false=>
  rw[hb] at rq;rw[Ka rfl];clear hb hz aZ;exact ZS
 |true=>
  rw[hb] at rq;rw[Jx Zd];have gX:1<=fs.length:=by
   rw[qP_U] at hb
   split at hb
   ·cases hb
   ·rename_i h;simp only[not_or,Nat.not_lt] at h;exact h.2.1
  have cq:=Ffa hX vs ar fs hv ha hf hz gX;have tq:=Fea hX vs ar fs hv ha hf hz;generalize kN ⟨vs,ar,fs⟩=ty at*;generalize kQ ⟨vs,ar,fs⟩=sc at*;clear hb hz aZ;by_cases h0:sc=0
  ·subst h0
   rw[Jx Zd];exact ZS
  ·rw[Ka h0]
   exact ZS
end
end Go.Proofs.YtggghdmdjpianaaGreatDoor
namespace Go.Ab.Sy
section
variable {w3 w4 w5:Bool}{x:Ex}{T:List Tok}{l:List Tx}{n n3 n4 n5:Nat}{c:Prop}{t:Tok}
def Is {α:Type}(w:Bool)(S:Option α)(y:α)(w2:Bool):Prop:=(w=true->w2=true)/\(w=false->(w2=false/\S=some y)\/(w2=true/\S=none))
section
variable {α β:Type}{w w1 w2:Bool}{S A B:Option α}{y:α}{z:β}
theorem Is.ok (h:S=some y):Is w S y w:=⟨fun e=>e,fun e=> .inl ⟨e,h⟩⟩
theorem Is.no (h:S=none):Is w S y true:=⟨fun _=>rfl,fun _=> .inr ⟨rfl,h⟩⟩
theorem Is.bad :Is true S y true:=⟨fun _=>rfl,fun e=>by cases e⟩
theorem Is.bind {f:α->Option β}(h1:Is w S y w1)(h2:Is w1 (f y) z w2):Is w (S.bind f) z w2:=by
 refine⟨fun e=>h2.1 (h1.1 e),fun e=>?_⟩;rcases h1.2 e with⟨a,b⟩|⟨a,b⟩
 ·rw[b]
  exact h2.2 a
 ·rw[b]
  exact .inr ⟨h2.1 a,rfl⟩
theorem Is.map {f:α->β}(h1:Is w S y w1):Is w (S.map f) (f y) w1:=by
 refine⟨h1.1,fun e=>?_⟩;rcases h1.2 e with⟨a,b⟩|⟨a,b⟩
 ·exact .inl ⟨a,by rw[b];rfl⟩
 ·exact .inr ⟨a,by rw[b];rfl⟩
theorem Is.mapE {f:α->β}(h1:Is w S y w1)(e:f y=z):Is w (S.map f) z w1:=e▸Is.map h1
theorem Is.pos[Decidable c](hc:c)(h:Is w A y w2):Is w (if c then A else B) y w2:=by rw[Ka hc];exact h
theorem Is.neg[Decidable c](hc:w=true\/ ¬c)(h:Is w B y w2):Is w (if c then A else B) y w2:=by
 refine⟨h.1,fun e=>?_⟩;rcases hc with a|a
 ·rw[a] at e;cases e
 ·rw[Jx a];exact h.2 e
theorem Is.get (h:Is w S y w2)(e:w2=false):w=false/\S=some y:=by
 cases hw:w with
 |true=>rw[h.1 hw] at e;cases e
 |false=>
  rcases h.2 hw with⟨a,b⟩|⟨a,b⟩
  ·exact⟨rfl,b⟩
  ·rw[e] at a;cases a
theorem Is.cast {T:Option α}(e:S=T)(h:Is w S y w2):Is w T y w2:=e▸h
theorem Is.wrong (h:w=true)(h2:w2=true):Is w S y w2:=⟨fun _=>h2,fun e=>by rw[h] at e;cases e⟩
abbrev sH (w2:Bool)(S2:Option β)(w:Bool)(S:Option β):Prop:= ∀z w3,Is w2 S2 z w3->Is w S z w3
end
theorem Hga(hc:Ig T n=Ug)(h:Is false (bW T 1 (n+1)) (t,n3) w3):sH w3 (kU T (l++[t.text]) n3) false (kU T l n):=fun z w4 h2=>by
 rw[Du T l n];exact Is.pos hc (Is.bind h h2)
theorem Dya{w:Bool}(hc:w=true\/ ¬Ig T n=Ug):Is w (kU T l n) (l,n) w:=by
 rw[Du T l n];exact Is.neg hc (Is.ok rfl)
theorem NO{l:List Ex}(hc:Ig T n=Ug)(h:Is false (Uu T 1 (n+1)) (x,n3) w3):sH w3 (oS T (l++[x]) n3) false (oS T l n):=fun z w4 h2=>by
 rw[C6 T l n];exact Is.pos hc (Is.bind h h2)
theorem Kxa{l:List Ex}{w:Bool}(hc:w=true\/ ¬Ig T n=Ug)(h:Is w (I6 T Uo n) n3 w3):Is w (oS T l n) (l,n3) w3:=by
 rw[C6 T l n];exact Is.neg hc (Is.map h)
theorem Vg{l:Nat}(hl:1<=l){y:Ex}(hc:cZ (Ig T n)=l)(h:Is false (Uu T (l+1) (n+1)) (y,n3) w3):sH w3 (nO T l (vJ (Ig T n) x y) n3) false (nO T l x n):=fun z w4 h2=>by
 rw[L8 T hl x n];exact Is.pos hc (Is.bind h h2)
theorem Qe{l:Nat}(hl:1<=l){w:Bool}(hc:w=true\/ ¬cZ (Ig T n)=l):Is w (nO T l x n) (x,n) w:=by
 rw[L8 T hl x n];exact Is.neg hc (Is.ok rfl)
theorem F3a{l:List St}{x:St}(hc: ¬Ig T n=eH)(h:Is false (fG T n) (x,n3) w3):sH w3 (cP T (l++[x]) n3) false (cP T l n):=fun z w4 h2=>by
 rw[C8 T l n];exact Is.neg (.inr hc) (Is.bind h h2)
theorem Ql{l:List St}(hc:Ig T n=eH):Is false (cP T l n) (l,n+1) false:=by
 rw[C8 T l n];exact Is.pos hc (Is.ok rfl)
theorem Aca{w:Bool}(hc:w=true\/ ¬Ig T n=dP):Is w (kV T l n) (l,n) w:=by
 rw[Ca T l n];exact Is.neg hc (Is.ok rfl)
theorem Bk{s t:ByteArray}(h:Ig T n=s)(hn:s≠t): ¬Ig T n=t:=fun e=>hn (h.symm.trans e)
def nR (T:List Tok)(t:Tok)(n:Nat):Option (St×Nat):=(if Ig T n=lK then(Uu T 1 (n+1)).map fun q=>(St.mk 1 t.text [q.1] [] [],q.2)
 else if Ig T n=fO then(Uu T 1 (n+1)).bind fun q=>(I6 T bU q.2).bind fun m=>(I6 T lK m).bind fun m=>(Uu T 1 m).map fun r=>(St.mk 2 t.text [q.1,r.1] [] [],r.2)
 else if Ig T n=Up then(eG T (n+1)).map fun q=>(St.mk 6 t.text q.1 [] [],q.2)
 else none).bind fun q=>(I6 T aJ q.2).map fun m=>(q.1,m)
theorem Ot (T:List Tok)(n:Nat):jX T n=(bW T 1 n).bind fun p=>nR T p.1 p.2:=rfl
theorem Pl{xl:List Ex}(hk:Ig T n=Up)(h:Is false (eG T (n+1)) (xl,n3) w3)(hm:Is w3 (I6 T aJ n3) n4 w4):Is false (nR T t n) (.mk 6 t.text xl [] [],n4) w4:=by
 unfold nR;rw[Jx (Bk hk Zd),Jx (Bk hk Zd),Ka hk];exact Is.bind (y:=(St.mk 6 t.text xl [] [],n3)) (Is.map (f:=fun q:List Ex×Nat=>(St.mk 6 t.text q.1 [] [],q.2)) h) (Is.map (f:=fun m=>(St.mk 6 t.text xl [] [],m)) hm)
theorem Lc{n6 n7:Nat}{y:Ex}{w6 w7:Bool}(hk:Ig T n=fO)(h1:Is false (Uu T 1 (n+1)) (x,n3) w3)(hm:Is w3 (I6 T bU n3) n4 w4)(sS:Is w4 (I6 T lK n4) n5 w5)(h2:Is w5 (Uu T 1 n5) (y,n6) w6)(h3:Is w6 (I6 T aJ n6) n7 w7):
  Is false (nR T t n) (.mk 2 t.text [x,y] [] [],n7) w7:=by
 unfold nR;rw[Jx (Bk hk Zd),Ka hk];exact Is.bind (y:=(St.mk 2 t.text [x,y] [] [],n6)) (Is.bind h1 (Is.bind hm (Is.bind sS (Is.map (f:=fun r:Ex×Nat=>(St.mk 2 t.text [x,r.1] [] [],r.2)) h2)))) (Is.map (f:=fun m=>(St.mk 2 t.text [x,y] [] [],m)) h3)
theorem S5{w:Bool}(h1:w=true\/ ¬Ig T n=Up)(h2:w=true\/ ¬Ig T n=fO)(h3:Is w (I6 T lK n) n3 w3)(h4:Is w3 (Uu T 1 n3) (x,n4) w4)(h5:Is w4 (I6 T aJ n4) n5 w5):
  Is w (nR T t n) (.mk 1 t.text [x] [] [],n5) w5:=by
 unfold nR
 cases hw:w with
 |true=>exact Is.wrong rfl (h5.1 (h4.1 (h3.1 hw)))
 |false=>
  subst hw;have a1: ¬Ig T n=Up:=h1.resolve_left Zi;have a2: ¬Ig T n=fO:=h2.resolve_left Zi;by_cases he:Ig T n=lK
  ·rw[Ka he]
   have e:I6 T lK n=some (n+1):=Ka he;rw[e] at h3;rcases h3.2 rfl with⟨b,c⟩|⟨b,c⟩
   ·cases c
    subst b;exact Is.bind (y:=(St.mk 1 t.text [x] [] [],n4)) (Is.map (f:=fun q:Ex×Nat=>(St.mk 1 t.text [q.1] [] [],q.2)) h4) (Is.map (f:=fun m=>(St.mk 1 t.text [x] [] [],m)) h5)
   ·cases c
  ·rw[Jx he,Jx a2,Jx a1]
   have e:I6 T lK n=none:=Jx he;rw[e] at h3;rcases h3.2 rfl with⟨b,c⟩|⟨b,c⟩
   ·cases c
   ·exact⟨fun h=>(by cases h),fun _=> .inr ⟨h5.1 (h4.1 b),rfl⟩⟩
end
end Go.Ab.Sy
namespace Go.Proofs.YtggghdmdjpianaaGreatDoor
section
open Go Go.Ab Go.Ab.Sy
variable {w:Bool}{a b:Hp}{T:List Tok}{q g n:Nat}
structure Rq (T:List Tok)(q g n:Nat)(w:Bool)(hp:Hp):Prop where
 box:hp ⟨0,q,0⟩= .box g [.sl false 4 (T.map Tok.row),iv n,bv w] false
 len:T.length<=1048576
 le:n<=T.length
def Fr (k q:Nat)(hp1 If:Hp):Prop:= ∀d i c,d<=k->(⟨d,i,c⟩:Nm)≠⟨0,q,0⟩->If ⟨d,i,c⟩=hp1 ⟨d,i,c⟩
theorem Fr.own {D:Nat}(h:Fr D q a b)(hD:D≠0): ∀i c,b ⟨D,i,c⟩=a ⟨D,i,c⟩:=fun i c=>h _ i c (D5 _) (by simp[hD])
theorem Fr.all {k k1:Nat}(h:Fr k1 q a b)(hk:k<=k1): ∀d i c,d<=k->(⟨d,i,c⟩:Nm)≠⟨0,q,0⟩->b ⟨d,i,c⟩=a ⟨d,i,c⟩:=fun d i c hd Ir=>h d i c Zo Ir
theorem D4(D d:Nat)(hp1:Hp)(hr:Rq T q g n w hp1):HB P0 Un (Lm bX) D d 65 [.ptr ⟨0,q,0⟩ g 0] hp1 (fun v If=>v=tv (Ig T n)/\Rq T q g n w If/\Fr D q hp1 If) (fun _ _=>False):=by
 refine hB (k1:=D+1) (PR:=fun _ _=>False) Tryz.func65 rfl ?_;obtain⟨h1,Ij,aI⟩:=hr;by_cases hn:n<T.length
 ·have e1:(n:Int)<T.length:=Zo
  have e3:T[n]?=some T[n]:=Bs hn;generalize hq:T[n]=t at*;obtain⟨tk,tt,tn,ta⟩:=t;by_cases k3:tk=3
  ·subst k3
   repeat' first|refine ZN ?_|refine Z2 ?_ ?_|intro h h';try simp[*,-h] at h'
   all_goals refine⟨by simp[Ig,cG,e3, *];done,⟨Zm,Ij,aI⟩,fun d i c hd Ir=>by have Uc:d≠D+1:=Zo;simp[*]⟩
  ·by_cases k4:tk=4
   ·subst k4
    repeat' first|refine ZN ?_|refine Z2 ?_ ?_|intro h h';try simp[*,-h] at h'
    all_goals refine⟨by simp[Ig,cG,e3, *];done,⟨Zm,Ij,aI⟩,fun d i c hd Ir=>by have Uc:d≠D+1:=Zo;simp[*]⟩
   ·have q3:(tk==3)=false:=by simpa using k3
    have q4:(tk==4)=false:=by simpa using k4
    repeat' first|refine ZN ?_|refine Z2 ?_ ?_|intro h h';try simp[*,-h] at h'
    all_goals refine⟨by simp[Ig,cG,e3, *];done,⟨Zm,Ij,aI⟩,fun d i c hd Ir=>by have Uc:d≠D+1:=Zo;simp[*]⟩
 ·have e1: ¬(n:Int)<T.length:=Zo
  have e3:T[n]?=none:=L7 hn
  repeat' first|refine ZN ?_|refine Z2 ?_ ?_|intro h h';try simp[*,-h] at h'
  all_goals refine⟨by simp[Ig,cG,e3, *];done,⟨Zm,Ij,aI⟩,fun d i c hd Ir=>by have Uc:d≠D+1:=Zo;simp[*]⟩
theorem Afa{kd:Int}(D d:Nat)(hp1:Hp)(AK:kd≠0)(hr:Rq T q g n w hp1):HB P0 Un (Lm bX) D d 66 [.ptr ⟨0,q,0⟩ g 0,iv kd] hp1 (fun v If=>(v=bv true/\w=false/\cG T n=kd/\n<T.length/\Rq T q g n w If/\Fr D q hp1 If)\/(v=bv false/\(w=true\/ ¬cG T n=kd)/\Rq T q g n w If/\Fr D q hp1 If)) (fun _ _=>False):=by
 refine hB (k1:=D+1) (PR:=fun _ _=>False) Tryz.func66 rfl ?_;obtain⟨h1,Ij,aI⟩:=hr
 cases w with
 |true=>
  repeat' first|refine ZN ?_|refine Z2 ?_ ?_|intro h h';try simp[*,-h] at h'
  all_goals exact .inr ⟨rfl,.inl rfl,⟨Zm,Ij,aI⟩,fun d i c hd Ir=>by have Uc:d≠D+1:=Zo;simp[*]⟩
 |false=>
  by_cases hn:n<T.length
  ·have e1:(n:Int)<T.length:=Zo
   have e3:T[n]?=some T[n]:=Bs hn;generalize hq:T[n]=t at*;obtain⟨tk,tt,tn,ta⟩:=t;by_cases k3:tk=kd
   ·have hk:cG T n=kd:=by unfold cG;rw[e3];exact k3
    have HK:=Lib.hid hk;clear hk;subst k3
    repeat' first|refine ZN ?_|refine Z2 ?_ ?_|intro h h';try simp[*,-h] at h'
    all_goals exact .inl ⟨rfl,rfl,HK.out,hn,⟨Zm,Ij,aI⟩,fun d i c hd Ir=>by have Uc:d≠D+1:=Zo;simp[*]⟩
   ·have hk: ¬cG T n=kd:=by unfold cG;rw[e3];exact k3
    have HK:=Lib.hid hk;clear hk;have q3:(tk==kd)=false:=by simpa using k3
    repeat' first|refine ZN ?_|refine Z2 ?_ ?_|intro h h';try simp[*,-h] at h'
    all_goals exact .inr ⟨rfl,.inr HK.out,⟨Zm,Ij,aI⟩,fun d i c hd Ir=>by have Uc:d≠D+1:=Zo;simp[*]⟩
  ·have e1: ¬(n:Int)<T.length:=Zo
   have e3:T[n]?=none:=L7 hn;have HK:=Lib.hid (show¬cG T n=kd by unfold cG;rw[e3];exact fun h=>AK h.symm)
   repeat' first|refine ZN ?_|refine Z2 ?_ ?_|intro h h';try simp[*,-h] at h'
   all_goals exact .inr ⟨rfl,.inr HK.out,⟨Zm,Ij,aI⟩,fun d i c hd Ir=>by have Uc:d≠D+1:=Zo;simp[*]⟩
end
section
open Go Go.Ab Go.Ab.Sy
variable {w:Bool}{s:ByteArray}{T:List Tok}{q g n:Nat}
theorem oC(D d:Nat)(hp1:Hp)(hs:s≠⟨#[]⟩)(hr:Rq T q g n w hp1):HB P0 Un (Lm bX) D d 22 [.ptr ⟨0,q,0⟩ g 0,tv s] hp1 (fun v If=>(v=bv true/\w=false/\Ig T n=s/\n<T.length/\Rq T q g (n+1) false If/\Fr D q hp1 If)\/(v=bv false/\(w=true\/ ¬Ig T n=s)/\Rq T q g n w If/\Fr D q hp1 If)) (fun _ _=>False):=by
 refine hB (k1:=D+1) (PR:=fun _ _=>False) Tryz.func22 rfl ?_;obtain⟨h1,Ij,aI⟩:=hr;have w1:IntKind.i64.wrap ((n:Int)+1)=(n:Int)+1:=Iw Zo
 cases w with
 |true=>
  repeat' (first|refine ZN ?_|refine Z2 ?_ ?_|(intro h h';try simp[*,-h] at h')|((with_reducible apply Ap (f:=65));exact Zv;apply D4 (D+1);exact ZE;(rintro _ If ⟨rfl,⟨Ul,_,_⟩,Ic⟩;have U1:=Ic.own Zo;have aB:=Ic.all (k:=D) Zo;clear Ic))|((with_reducible apply Fh (f:=65));(iterate 5 exact Z5);apply D4 (D+1);exact ZE;(rintro _ If ⟨rfl,⟨Ul,_,_⟩,Ic⟩;have U1:=Ic.own Zo;have aB:=Ic.all (k:=D) Zo;clear Ic))|fail)
  all_goals exact .inr ⟨rfl,.inl rfl,⟨Zm,Ij,aI⟩,fun d i c hd Ir=>by have Uc:d≠D+1:=Zo;simp[*]⟩
 |false=>
  by_cases hk:Ig T n=s
  ·have hn:n<T.length:=Oc hk hs
   have HK:=Lib.hid hk
   repeat' (first|refine ZN ?_|refine Z2 ?_ ?_|(intro h h';try simp[*,-h] at h')|((with_reducible apply Ap (f:=65));exact Zv;apply D4 (D+1);exact ZE;(rintro _ If ⟨rfl,⟨Ul,_,_⟩,Ic⟩;have U1:=Ic.own Zo;have aB:=Ic.all (k:=D) Zo;clear Ic))|((with_reducible apply Fh (f:=65));(iterate 5 exact Z5);apply D4 (D+1);exact ZE;(rintro _ If ⟨rfl,⟨Ul,_,_⟩,Ic⟩;have U1:=Ic.own Zo;have aB:=Ic.all (k:=D) Zo;clear Ic))|fail)
   all_goals exact .inl ⟨rfl,rfl,HK.out,hn,⟨Zm,Ij,hn⟩,fun d i c hd Ir=>by have Uc:d≠D+1:=Zo;simp[*]⟩
  ·have HK:=Lib.hid hk
   repeat' (first|refine ZN ?_|refine Z2 ?_ ?_|(intro h h';try simp[*,-h] at h')|((with_reducible apply Ap (f:=65));exact Zv;apply D4 (D+1);exact ZE;(rintro _ If ⟨rfl,⟨Ul,_,_⟩,Ic⟩;have U1:=Ic.own Zo;have aB:=Ic.all (k:=D) Zo;clear Ic))|((with_reducible apply Fh (f:=65));(iterate 5 exact Z5);apply D4 (D+1);exact ZE;(rintro _ If ⟨rfl,⟨Ul,_,_⟩,Ic⟩;have U1:=Ic.own Zo;have aB:=Ic.all (k:=D) Zo;clear Ic))|fail)
   all_goals exact .inr ⟨rfl,.inr HK.out,⟨Zm,Ij,aI⟩,fun d i c hd Ir=>by have Uc:d≠D+1:=Zo;simp[*]⟩
theorem Gf(D d:Nat)(hp1:Hp)(hs:s≠⟨#[]⟩)(hr:Rq T q g n w hp1):HB P0 Un (Lm bX) D d 24 [.ptr ⟨0,q,0⟩ g 0,tv s] hp1 (fun v If=> ∃(n2:Nat) (w2:Bool),v= .tup []/\Is w (I6 T s n) n2 w2/\n<=n2/\Rq T q g n2 w2 If/\Fr D q hp1 If) (fun _ _=>False):=by
 refine hB (k1:=D+1) (PR:=fun _ _=>False) Tryz.func24 rfl ?_;obtain⟨h1,Ij,aI⟩:=hr
 repeat' (first|refine ZN ?_|refine Z2 ?_ ?_|(intro h h';try simp[*,-h] at h')|((with_reducible apply Ap (f:=22));exact Zv;apply oC (D+1);assumption;exact ZE;(rintro _ If (⟨rfl,hw,hk,aO,⟨Ul,_,Ub⟩,Ic⟩|⟨rfl,hk,⟨Ul,_,_⟩,Ic⟩)<;>(have U1:=Ic.own Zo;have aB:=Ic.all (k:=D) Zo;clear Ic)))|fail)
 ·exact⟨n+1,false,rfl,by subst hw;exact Is.ok (B2a hk),Zo,⟨Zm,Ij,Zo⟩,fun d i c hd Ir=>by have Uc:d≠D+1:=Zo;simp[*]⟩
 ·exact⟨n,true,rfl,by cases w with|true=>exact Is.bad|false=>exact Is.no (B1a (hk.resolve_left Zi)),Zo,⟨Zm,Ij,aI⟩,fun d i c hd Ir=>by have Uc:d≠D+1:=Zo;simp[*]⟩
theorem F8{kd:Int}(D d:Nat)(hp1:Hp)(AK:kd≠0)(hr:Rq T q g n w hp1):HB P0 Un (Lm bX) D d 25 [.ptr ⟨0,q,0⟩ g 0,iv kd] hp1 (fun v If=> ∃(t:Tok) (n2:Nat) (w2:Bool),v= .agg t.row/\Is w (bW T kd n) (t,n2) w2/\n<=n2/\Rq T q g n2 w2 If/\Fr D q hp1 If) (fun _ _=>False):=by
 refine hZ (k1:=D+1) (PR:=fun _ _=>False) Tryz.func25 rfl ?_;obtain⟨h1,Ij,aI⟩:=hr;have w1:IntKind.i64.wrap ((n:Int)+1)=(n:Int)+1:=Iw Zo;have w3:IntKind.i64.wrap (n:Int)=(n:Int):=Bu Zo Zo;by_cases hn:n<T.length
 ·have e1:(n:Int)<T.length:=Zo
  have dN:=Lib.hid (fun h=>Bda (T:=T) (n:=n) (k:=kd) h hn);have e3:T[n]?=some T[n]:=Bs hn;generalize hq:T[n]=t at*;obtain⟨tk,tt,tn,ta⟩:=t
  repeat' (first|refine ZN ?_|refine Z2 ?_ ?_|(intro h h';try simp[*,-h] at h')|((with_reducible apply Ap (f:=66));exact Zv;apply Afa (D+1);assumption;exact ZE;(rintro _ If (⟨rfl,hw,hk,aO,⟨Ul,_,_⟩,Ic⟩|⟨rfl,hk,⟨Ul,_,_⟩,Ic⟩)<;>(have U1:=Ic.own Zo;have aB:=Ic.all (k:=D) Zo;clear Ic)))|fail)
  ·exact⟨⟨tk,tt,tn,ta⟩,n+1,false,Zm,by subst hw;exact Is.ok (dN.out hk),Zo,⟨Zm,Ij,hn⟩,fun d i c hd Ir=>by have Uc:d≠D+1:=Zo;simp[*]⟩
  ·exact⟨⟨0,gD,0,0⟩,n,true,Zm,by cases w with|true=>exact Is.bad|false=>exact Is.no (Ss (hk.resolve_left Zi)),Zo,⟨Zm,Ij,aI⟩,fun d i c hd Ir=>by have Uc:d≠D+1:=Zo;simp[*]⟩
 ·
  repeat' (first|refine ZN ?_|refine Z2 ?_ ?_|(intro h h';try simp[*,-h] at h')|((with_reducible apply Ap (f:=66));exact Zv;apply Afa (D+1);assumption;exact ZE;(rintro _ If (⟨rfl,hw,hk,aO,⟨Ul,_,_⟩,Ic⟩|⟨rfl,hk,⟨Ul,_,_⟩,Ic⟩)<;>(have U1:=Ic.own Zo;have aB:=Ic.all (k:=D) Zo;clear Ic)))|fail)
  ·exact absurd aO hn
  ·exact⟨⟨0,gD,0,0⟩,n,true,Zm,by cases w with|true=>exact Is.bad|false=>exact Is.no (Ss (hk.resolve_left Zi)),Zo,⟨Zm,Ij,aI⟩,fun d i c hd Ir=>by have Uc:d≠D+1:=Zo;simp[*]⟩
end
section
open Go Go.Ab Go.Ab.Sy
theorem Tk {T:List Tok}{q g n:Nat}{w:Bool}(D d:Nat)(hp1:Hp)(hr:Rq T q g n w hp1):HB P0 Un (Lm bX) D d 23 [.ptr ⟨0,q,0⟩ g 0] hp1 (fun v If=> ∃(l:List Tx) (n2:Nat) (w2:Bool),v= .sl false 1 (Ib l)/\Is w (eA T n) (l,n2) w2/\n<=n2/\l.length<=n2+1/\Rq T q g n2 w2 If/\Fr D q hp1 If) (fun _ _=>False):=by
 refine hZ (k1:=D+1) (PR:=fun _ _=>False) Tryz.func23 rfl ?_;obtain⟨h1,Ij,aI⟩:=hr
 repeat' (first|refine ZN ?_|refine Z2 ?_ ?_|(intro h h';try simp[*,-h] at h')|((with_reducible apply Ap (f:=25));exact Zv;apply F8 (D+1);decide;exact ZE;(rintro _ If ⟨⟨tk2,tt2,tn2,ta2⟩,n2,w2,rfl,ht,aO,⟨Ul,_,Ub⟩,Ic⟩;have U1:=Ic.own Zo;have aB:=Ic.all (k:=D) Zo;clear Ic;simp only[Tok.row_mk]))|fail)
 refine Ac (n:=T.length) (fun s0 m s=> ∃(n3 g3:Nat) (w3:Bool) (l:List Tx),T.length - n3<=m/\n<=n3/\l.length<=n3+1/\sH w3 (kU T l n3) w (eA T n)/\s.fr 0=s0.fr 0/\s.fr 3= .own ⟨D+1,7,0⟩ g3 l.length/\s.hp ⟨D+1,7,0⟩= .arr g3 1 9 (Ib l) false/\Rq T q g n3 w3 s.hp/\Fr D q hp1 s.hp) ⟨n2,_,w2,[tt2],Zo,aO,Zi,fun z w4 h2=>Is.cast (Hc T n).symm (Is.bind ht h2),Zi,by simp;rfl,Zm,⟨Zm,Ij,Ub⟩,fun d i c hd Ir=>by have Uc:d≠D+1:=Zo;simp[*]⟩ ?_;clear h1 Ul U1 aB ht;rintro m ⟨fr,hp⟩ ⟨n3,g3,w3,l,tQ,pI,wH,oI,f0,f3,hl,⟨hb,_,jY⟩,Uf⟩;simp at f3;simp at f0 hl Uf;simp only at hb;have HF:=Lib.hid Uf;have HK:=Lib.hid oI;clear Uf oI;have a1:(l.length+1)*16<=140737488355328:=Zo;have a2:l.length<=9223372036854775806:=Zo;have a3:=D8 l
 repeat' (first|refine ZN ?_|refine Z2 ?_ ?_|(intro h h';try simp[*,-h] at h')|((with_reducible apply Ap (f:=22));exact Zv;apply oC (D+1);decide;exact ZE;(rintro _ If (⟨rfl,hw,hk,aO,⟨Ul,_,Ub⟩,Ic⟩|⟨rfl,hk,⟨Ul,_,_⟩,Ic⟩)<;>(have U1:=Ic.own Zo;have aB:=Ic.all (k:=D) Zo;clear Ic)))|((with_reducible apply Ap (f:=25));exact Zv;apply F8 (D+1);decide;exact ZE;(rintro _ If ⟨⟨tk2,tt2,tn2,ta2⟩,n2,w2,rfl,ht,aO,⟨Ul,_,Ub⟩,Ic⟩;have U1:=Ic.own Zo;have aB:=Ic.all (k:=D) Zo;clear Ic;simp only[Tok.row_mk]))|fail)
 ·have Uf:=HF.out
  subst hw;exact⟨T.length - n2,Zo,n2,g3+1,w2,l++[tt2],Zo,Zo,by simp;omega,fun z w4 h2=>HK.out z w4 (Hga hk ht z w4 h2),Zm,Zm,Zm,⟨Zm,Ij,Ub⟩,fun d i c hd Ir=>by have Uc:d≠D+1:=Zo;simp[*];exact Uf d i c hd Ir⟩
 ·have Uf:=HF.out
  exact⟨l,n3,w3,Zm,HK.out _ _ (Dya hk),pI,wH,⟨Zm,Ij,jY⟩,fun d i c hd Ir=>by have Uc:d≠D+1:=Zo;simp[*];exact Uf d i c hd Ir⟩
theorem Yv (s:ByteArray):(Lm bX).dat 188 [tv s]=some [iz (cZ s)]:=by
 refine fW Tryz.func188 rfl ?_
 repeat' first|refine ZN ?_|refine Z2 ?_ ?_|intro h h';try simp[*,-h] at h'
 all_goals (first|(simp[cZ,eL, *];done)|(simp_all[cZ,eL];done))
theorem join_q (s:ByteArray)(h0:cZ s≠0)(a b:Sy.Ex):(Lm bX).dat 189 [tv s,.agg a.row,.agg b.row]=some [.agg [iz (eL s).1.1,iz (eL s).1.2,uz 0,tz ⟨#[]⟩,.vec 5 [a.row,b.row]]]:=by
 refine fW Tryz.func189 rfl ?_;obtain⟨ak,ao,an,as_,al⟩:=a;obtain⟨bk,bo,bn,bs,bl⟩:=b;simp only[Ag];have HS:=Lib.hid h0;clear h0
 repeat' first|refine ZN ?_|refine Z2 ?_ ?_|intro h h';try simp[*,-h] at h'
 all_goals first
  |(simp[eL, *];done)
  |(by_cases hm:s=⟨#[37]⟩
    ·simp[eL, *]
    ·exact absurd (by simp[cZ,eL, *]) HS.out)
end
section
open Go Go.Ab Go.Ab.Sy
variable {w:Bool}{T:List Tok}{q g n:Nat}
def QE (T:List Tok)(q g n:Nat)(w:Bool)(S:Option (Sy.Ex×Nat))(D:Nat)(hp1:Hp)(v:AV)(If:Hp):Prop:= ∃(x:Sy.Ex) (n2:Nat) (w2:Bool),v= .agg x.row/\Is w S (x,n2) w2/\n<=n2/\Rq T q g n2 w2 If/\Fr D q hp1 If
def QL (T:List Tok)(q g n:Nat)(w:Bool)(S:Option (List Sy.Ex×Nat))(D:Nat)(hp1:Hp)(v:AV)(If:Hp):Prop:= ∃(x:List Sy.Ex) (n2:Nat) (w2:Bool),v= .sl false 5 (In x)/\Is w S (x,n2) w2/\n<=n2/\Rq T q g n2 w2 If/\Fr D q hp1 If
theorem args_q(D d:Nat)(hp1:Hp)(ihE: ∀(D d:Nat) (hp1:Hp) {n2:Nat} {w:Bool} {ls:Int} (h1:1<=ls) (h2:ls<=10) (hr:Rq T q g n2 w hp1) (hn:n<=n2),HB P0 Un (Lm bX) D d 121 [.ptr ⟨0,q,0⟩ g 0,iv ls] hp1 (QE T q g n2 w (Uu T ls.toNat n2) D hp1) (fun _ _=>False))(hr:Rq T q g n w hp1):HB P0 Un (Lm bX) D d 123 [.ptr ⟨0,q,0⟩ g 0] hp1 (QL T q g n w (eG T n) D hp1) (fun _ _=>False):=by
 refine hZ (k1:=D+1) (PR:=fun _ _=>False) Tryz.func123 rfl ?_;obtain⟨h1,Ij,aI⟩:=hr
 repeat' (first|refine ZN ?_|refine Z2 ?_ ?_|(intro h h';try simp[*,-h] at h')|((with_reducible apply Ap (f:=22));exact Zv;apply oC (D+1);decide;exact ZE;(rintro _ If (⟨rfl,hw,hk,aO,⟨Ul,_,Ub⟩,Ic⟩|⟨rfl,hk,⟨Ul,_,_⟩,Ic⟩)<;>(have U1:=Ic.own Zo;have aB:=Ic.all (k:=D) Zo;clear Ic)))|((with_reducible apply Ap (f:=121));exact Zv;apply ihE (D+1);omega;omega;exact ZE;omega;(rintro _ If ⟨⟨xk,xo,xn,xs,xl⟩,n2,w2,rfl,hx,aO,⟨Ul,_,Ub⟩,Ic⟩;have U1:=Ic.own Zo;have aB:=Ic.all (k:=D) Zo;clear Ic;simp only[Ag] at*;(try simp only[qX] at hx)))|fail)
 ·exact⟨[],n+1,false,Zm,by subst hw;exact Is.cast (Cp T n).symm (Is.pos hk (Is.ok rfl)),Zo,⟨Zm,Ij,Zo⟩,fun d i c hd Ir=>by have Uc:d≠D+1:=Zo;simp[*]⟩
 refine Ac (n:=T.length) (fun s0 m s=> ∃(n3 g3:Nat) (w3:Bool) (l:List Sy.Ex),T.length - n3<=m/\n<=n3/\l.length<=n3+1/\sH w3 (oS T l n3) w (eG T n)/\s.fr 0=s0.fr 0/\s.fr 3= .own ⟨D+1,3,0⟩ g3 l.length/\s.hp ⟨D+1,3,0⟩= .arr g3 5 186 (In l) false/\Rq T q g n3 w3 s.hp/\Fr D q hp1 s.hp) ⟨n2,_,w2,[.mk xk xo xn xs xl],Zo,aO,Zi,fun z w4 h2=>Is.cast (Cp T n).symm (Is.neg hk (Is.bind hx h2)),Zi,by simp;rfl,Zm,⟨Zm,Ij,Ub⟩,fun d i c hd Ir=>by have Uc:d≠D+1:=Zo;simp[*]⟩ ?_;clear h1 Ul U1 aB hx hk;rintro m ⟨fr,hp⟩ ⟨n3,g3,w3,l,tQ,pI,wH,oI,f0,f3,hl,⟨hb,_,jY⟩,Uf⟩;simp at f3;simp at f0 hl Uf;simp only at hb;have HF:=Lib.hid Uf;have HK:=Lib.hid oI;clear Uf oI;have a1:(l.length+1)*64<=140737488355328:=Zo;have a2:l.length<=9223372036854775806:=Zo;have a3:=M8 l
 repeat' (first|refine ZN ?_|refine Z2 ?_ ?_|(intro h h';try simp[*,-h] at h')|((with_reducible apply Ap (f:=22));exact Zv;apply oC (D+1);decide;exact ZE;(rintro _ If (⟨rfl,hw,hk,aO,⟨Ul,_,Ub⟩,Ic⟩|⟨rfl,hk,⟨Ul,_,_⟩,Ic⟩)<;>(have U1:=Ic.own Zo;have aB:=Ic.all (k:=D) Zo;clear Ic)))|((with_reducible apply Ap (f:=24));exact Zv;apply Gf (D+1);decide;exact ZE;(rintro _ If ⟨n2,w2,rfl,hm,aO,⟨Ul,_,Ub⟩,Ic⟩;have U1:=Ic.own Zo;have aB:=Ic.all (k:=D) Zo;clear Ic))|((with_reducible apply Ap (f:=121));exact Zv;apply ihE (D+1);omega;omega;exact ZE;omega;(rintro _ If ⟨⟨xk,xo,xn,xs,xl⟩,n2,w2,rfl,hx,aO,⟨Ul,_,Ub⟩,Ic⟩;have U1:=Ic.own Zo;have aB:=Ic.all (k:=D) Zo;clear Ic;simp only[Ag] at*;(try simp only[qX] at hx)))|fail)
 ·have Uf:=HF.out
  subst hw;exact⟨T.length - n2,Zo,n2,g3+1,w2,l++[.mk xk xo xn xs xl],Zo,Zo,by simp;omega,fun z w4 h2=>HK.out z w4 (NO hk hx z w4 h2),Zm,Zm,Zm,⟨Zm,Ij,Ub⟩,fun d i c hd Ir=>by have Uc:d≠D+1:=Zo;simp[*];exact Uf d i c hd Ir⟩
 ·have Uf:=HF.out
  exact⟨l,n2,w2,Zm,HK.out _ _ (Kxa hk hm),Zo,⟨Zm,Ij,Ub⟩,fun d i c hd Ir=>by have Uc:d≠D+1:=Zo;simp[*];exact Uf d i c hd Ir⟩
theorem atom_q(D d:Nat)(hp1:Hp)(ihE: ∀(D d:Nat) (hp1:Hp) {n2:Nat} {w:Bool} {ls:Int} (h1:1<=ls) (h2:ls<=10) (hr:Rq T q g n2 w hp1) (hn:n<n2),HB P0 Un (Lm bX) D d 121 [.ptr ⟨0,q,0⟩ g 0,iv ls] hp1 (QE T q g n2 w (Uu T ls.toNat n2) D hp1) (fun _ _=>False))(ihA: ∀(D d:Nat) (hp1:Hp) {n2:Nat} {w:Bool} (hr:Rq T q g n2 w hp1) (hn:n<n2),HB P0 Un (Lm bX) D d 187 [.ptr ⟨0,q,0⟩ g 0] hp1 (QE T q g n2 w (fB T n2) D hp1) (fun _ _=>False))(ihG: ∀(D d:Nat) (hp1:Hp) {n2:Nat} {w:Bool} (hr:Rq T q g n2 w hp1) (hn:n<n2),HB P0 Un (Lm bX) D d 123 [.ptr ⟨0,q,0⟩ g 0] hp1 (QL T q g n2 w (eG T n2) D hp1) (fun _ _=>False))(hr:Rq T q g n w hp1):HB P0 Un (Lm bX) D d 187 [.ptr ⟨0,q,0⟩ g 0] hp1 (QE T q g n w (fB T n) D hp1) (fun _ _=>False):=by
 refine hZ (k1:=D+1) (PR:=fun _ _=>False) Tryz.func187 rfl ?_;obtain⟨h1,Ij,aI⟩:=hr
 repeat' (first|refine ZN ?_|refine Z2 ?_ ?_|(intro h h';try simp[*,-h] at h')|((with_reducible apply Ap (f:=22));exact Zv;apply oC (D+1);decide;exact ZE;(rintro _ If (⟨rfl,hw,hk,aO,⟨Ul,_,Ub⟩,Ic⟩|⟨rfl,hk,⟨Ul,_,_⟩,Ic⟩)<;>(have U1:=Ic.own Zo;have aB:=Ic.all (k:=D) Zo;clear Ic)))|((with_reducible apply Ap (f:=66));exact Zv;apply Afa (D+1);decide;exact ZE;(rintro _ If (⟨rfl,hw,hk,aO,⟨Ul,_,_⟩,Ic⟩|⟨rfl,hk,⟨Ul,_,_⟩,Ic⟩)<;>(have U1:=Ic.own Zo;have aB:=Ic.all (k:=D) Zo;clear Ic)))|((with_reducible apply Ap (f:=25));exact Zv;apply F8 (D+1);decide;exact ZE;(rintro _ If ⟨⟨tk2,tt2,tn2,ta2⟩,n2,w2,rfl,ht,aO,⟨Ul,_,Ub⟩,Ic⟩;have U1:=Ic.own Zo;have aB:=Ic.all (k:=D) Zo;clear Ic;simp only[Tok.row_mk]))|((with_reducible apply Ap (f:=24));exact Zv;apply Gf (D+1);decide;exact ZE;(rintro _ If ⟨n2,w2,rfl,hm,aO,⟨Ul,_,Ub⟩,Ic⟩;have U1:=Ic.own Zo;have aB:=Ic.all (k:=D) Zo;clear Ic))|((with_reducible apply Ap (f:=121));exact Zv;apply ihE (D+1);omega;omega;exact ZE;omega;(rintro _ If ⟨⟨xk,xo,xn,xs,xl⟩,n2,w2,rfl,hx,aO,⟨Ul,_,Ub⟩,Ic⟩;have U1:=Ic.own Zo;have aB:=Ic.all (k:=D) Zo;clear Ic;simp only[Ag] at*;(try simp only[qX] at hx)))|((with_reducible apply Ap (f:=187));exact Zv;apply ihA (D+1);exact ZE;omega;(rintro _ If ⟨⟨xk,xo,xn,xs,xl⟩,n2,w2,rfl,hx,aO,⟨Ul,_,Ub⟩,Ic⟩;have U1:=Ic.own Zo;have aB:=Ic.all (k:=D) Zo;clear Ic;simp only[Ag] at*))|((with_reducible apply Ap (f:=123));exact Zv;apply ihG (D+1);exact ZE;omega;(rintro _ If ⟨xl,n2,w2,rfl,hx,aO,⟨Ul,_,Ub⟩,Ic⟩;have U1:=Ic.own Zo;have aB:=Ic.all (k:=D) Zo;clear Ic))|fail)
 all_goals (try subst_vars)
 ·exact⟨.mk 1 0 tn2 gD [],n2,w2,Zm,by(refine Is.cast (A6 T n).symm ?_);(repeat' (first|assumption|(refine Is.pos (by assumption) ?_)|(refine Is.neg (by first|assumption|exact .inr (by assumption)|exact .inr (Bk (by assumption) Zd)) ?_)|(refine Is.mapE (by assumption) ?_)|(refine Is.mapE (Is.bind (by assumption) (by assumption)) ?_)|(refine Is.bind (by assumption) ?_)|(with_reducible exact Is.ok rfl)|(refine Is.ok (S:=some _) ?_;rfl)|rfl)),Zo,⟨Zm,Ij,Zo⟩,fun d i c hd Ir=>by have Uc:d≠D+1:=Zo;simp[*]⟩
 ·exact⟨.mk 5 0 0 gD [],n2,w2,Zm,by(refine Is.cast (A6 T n).symm ?_);(repeat' (first|assumption|(refine Is.pos (by assumption) ?_)|(refine Is.neg (by first|assumption|exact .inr (by assumption)|exact .inr (Bk (by assumption) Zd)) ?_)|(refine Is.mapE (by assumption) ?_)|(refine Is.mapE (Is.bind (by assumption) (by assumption)) ?_)|(refine Is.bind (by assumption) ?_)|(with_reducible exact Is.ok rfl)|(refine Is.ok (S:=some _) ?_;rfl)|rfl)),Zo,⟨Zm,Ij,Zo⟩,fun d i c hd Ir=>by have Uc:d≠D+1:=Zo;simp[*]⟩
 ·exact⟨.mk 7 0 0 gD [.mk xk xo xn xs xl],n2,w2,Zm,by(refine Is.cast (A6 T n).symm ?_);(repeat' (first|assumption|(refine Is.pos (by assumption) ?_)|(refine Is.neg (by first|assumption|exact .inr (by assumption)|exact .inr (Bk (by assumption) Zd)) ?_)|(refine Is.mapE (by assumption) ?_)|(refine Is.mapE (Is.bind (by assumption) (by assumption)) ?_)|(refine Is.bind (by assumption) ?_)|(with_reducible exact Is.ok rfl)|(refine Is.ok (S:=some _) ?_;rfl)|rfl)),Zo,⟨Zm,Ij,Zo⟩,fun d i c hd Ir=>by have Uc:d≠D+1:=Zo;simp[*]⟩
 ·exact⟨.mk xk xo xn xs xl,n2,w2,Zm,by(refine Is.cast (A6 T n).symm ?_);(repeat' (first|assumption|(refine Is.pos (by assumption) ?_)|(refine Is.neg (by first|assumption|exact .inr (by assumption)|exact .inr (Bk (by assumption) Zd)) ?_)|(refine Is.mapE (by assumption) ?_)|(refine Is.mapE (Is.bind (by assumption) (by assumption)) ?_)|(refine Is.bind (by assumption) ?_)|(with_reducible exact Is.ok rfl)|(refine Is.ok (S:=some _) ?_;rfl)|rfl)),Zo,⟨Zm,Ij,Zo⟩,fun d i c hd Ir=>by have Uc:d≠D+1:=Zo;simp[*]⟩
 ·exact⟨.mk 3 0 0 tt2 [.mk xk xo xn xs xl],n2,w2,Zm,by(refine Is.cast (A6 T n).symm ?_);(repeat' (first|assumption|(refine Is.pos (by assumption) ?_)|(refine Is.neg (by first|assumption|exact .inr (by assumption)|exact .inr (Bk (by assumption) Zd)) ?_)|(refine Is.mapE (by assumption) ?_)|(refine Is.mapE (Is.bind (by assumption) (by assumption)) ?_)|(refine Is.bind (by assumption) ?_)|(with_reducible exact Is.ok rfl)|(refine Is.ok (S:=some _) ?_;rfl)|rfl)),Zo,⟨Zm,Ij,Zo⟩,fun d i c hd Ir=>by have Uc:d≠D+1:=Zo;simp[*]⟩
 ·exact⟨.mk 4 0 0 tt2 xl,n2,w2,Zm,by(refine Is.cast (A6 T n).symm ?_);(repeat' (first|assumption|(refine Is.pos (by assumption) ?_)|(refine Is.neg (by first|assumption|exact .inr (by assumption)|exact .inr (Bk (by assumption) Zd)) ?_)|(refine Is.mapE (by assumption) ?_)|(refine Is.mapE (Is.bind (by assumption) (by assumption)) ?_)|(refine Is.bind (by assumption) ?_)|(with_reducible exact Is.ok rfl)|(refine Is.ok (S:=some _) ?_;rfl)|rfl)),Zo,⟨Zm,Ij,Zo⟩,fun d i c hd Ir=>by have Uc:d≠D+1:=Zo;simp[*]⟩
 ·exact⟨.mk 2 0 0 tt2 [],n2,w2,Zm,by(refine Is.cast (A6 T n).symm ?_);(repeat' (first|assumption|(refine Is.pos (by assumption) ?_)|(refine Is.neg (by first|assumption|exact .inr (by assumption)|exact .inr (Bk (by assumption) Zd)) ?_)|(refine Is.mapE (by assumption) ?_)|(refine Is.mapE (Is.bind (by assumption) (by assumption)) ?_)|(refine Is.bind (by assumption) ?_)|(with_reducible exact Is.ok rfl)|(refine Is.ok (S:=some _) ?_;rfl)|rfl)),Zo,⟨Zm,Ij,Zo⟩,fun d i c hd Ir=>by have Uc:d≠D+1:=Zo;simp[*]⟩
theorem DZ{ls:Int}(D d:Nat)(hp1:Hp)(ihL:ls<=9-> ∀(D d:Nat) (hp1:Hp) (hr:Rq T q g n w hp1),HB P0 Un (Lm bX) D d 121 [.ptr ⟨0,q,0⟩ g 0,iv (ls+1)] hp1 (QE T q g n w (Uu T (ls.toNat+1) n) D hp1) (fun _ _=>False))(ihE: ∀(D d:Nat) (hp1:Hp) {n2:Nat} {w:Bool} {ls:Int} (h1:1<=ls) (h2:ls<=10) (hr:Rq T q g n2 w hp1) (hn:n<n2),HB P0 Un (Lm bX) D d 121 [.ptr ⟨0,q,0⟩ g 0,iv ls] hp1 (QE T q g n2 w (Uu T ls.toNat n2) D hp1) (fun _ _=>False))(ihA: ∀(D d:Nat) (hp1:Hp) {n2:Nat} {w:Bool} (hr:Rq T q g n2 w hp1) (hn:n<=n2),HB P0 Un (Lm bX) D d 187 [.ptr ⟨0,q,0⟩ g 0] hp1 (QE T q g n2 w (fB T n2) D hp1) (fun _ _=>False))(h1l:1<=ls)(h2l:ls<=10)(hr:Rq T q g n w hp1):HB P0 Un (Lm bX) D d 121 [.ptr ⟨0,q,0⟩ g 0,iv ls] hp1 (QE T q g n w (Uu T ls.toNat n) D hp1) (fun _ _=>False):=by
 refine hZ (k1:=D+1) (PR:=fun _ _=>False) Tryz.func121 rfl ?_;obtain⟨h1,Ij,aI⟩:=hr;have w1:IntKind.i64.wrap (ls+1)=ls+1:=Bu Zo Zo;by_cases h9:ls=10
 ·subst h9
  repeat' (first|refine ZN ?_|refine Z2 ?_ ?_|(intro h h';try simp[*,-h] at h')|((with_reducible apply Ap (f:=187));exact Zv;apply ihA (D+1);exact ZE;omega;(rintro _ If ⟨⟨xk,xo,xn,xs,xl⟩,n2,w2,rfl,hx,aO,⟨Ul,_,Ub⟩,Ic⟩;have U1:=Ic.own Zo;have aB:=Ic.all (k:=D) Zo;clear Ic;simp only[Ag] at*))|fail)
  exact⟨.mk xk xo xn xs xl,n2,w2,Zm,Is.cast (Ewa T n).symm hx,Zo,⟨Zm,Ij,Zo⟩,fun d i c hd Ir=>by have Uc:d≠D+1:=Zo;simp[*]⟩
 ·have e9: ¬(9:Int)<ls:=Zo
  have ihM:=ihL Zo;clear ihL
  repeat' (first|refine ZN ?_|refine Z2 ?_ ?_|(intro h h';try simp[*,-h] at h')|((with_reducible apply Ap (f:=121));exact Zv;apply ihM (D+1);exact ZE;(rintro _ If ⟨⟨xk,xo,xn,xs,xl⟩,n2,w2,rfl,hx,aO,⟨Ul,_,Ub⟩,Ic⟩;have U1:=Ic.own Zo;have aB:=Ic.all (k:=D) Zo;clear Ic;simp only[Ag] at*))|((with_reducible apply Ap (f:=187));exact Zv;apply ihA (D+1);exact ZE;omega;(rintro _ If ⟨⟨xk,xo,xn,xs,xl⟩,n2,w2,rfl,hx,aO,⟨Ul,_,Ub⟩,Ic⟩;have U1:=Ic.own Zo;have aB:=Ic.all (k:=D) Zo;clear Ic;simp only[Ag] at*))|fail)
  refine Ac (n:=T.length) (fun s0 m s=> ∃(n3:Nat) (w3:Bool) (x:Sy.Ex) (kc:AV),T.length - n3<=m/\n<=n3/\sH w3 (nO T ls.toNat x n3) w (Uu T ls.toNat n)/\s.fr 0=s0.fr 0/\s.fr 1=s0.fr 1/\s.fr 4=s0.fr 4/\s.fr 5=s0.fr 5/\s.hp ⟨D+1,5,0⟩= .box ((hp1 ⟨D+1,5,0⟩).gen+1) [iz x.kind,iz x.op,uz x.num,tz x.name,kc] false/\(kc= .sl false 5 (In x.kids)\/ ∃g',kc= .own ⟨D+1,5,5⟩ g' x.kids.length/\s.hp ⟨D+1,5,5⟩= .arr g' 5 186 (In x.kids) false)/\s.hp ⟨D+1,4,0⟩= .box ((hp1 ⟨D+1,4,0⟩).gen+1) [iv 0,iv 0,uv 0,tv ⟨⟨[]⟩⟩,.own ⟨D+1,4,5⟩ ((hp1 ⟨D+1,4,5⟩).gen+1) 0] false/\Rq T q g n3 w3 s.hp/\Fr D q hp1 s.hp)
   ⟨n2,w2,.mk xk xo xn xs xl,_,Zo,aO,fun z w4 h2=>Is.cast (Xq T Zo n).symm (Is.bind hx h2),Zi,Zi,Zi,Zi,by simp[Sy.Ex.kind,Sy.Ex.op,Sy.Ex.num,Sy.Ex.name];rfl,.inl (by simp[Sy.Ex.kids]),Zm,⟨Zm,Ij,Ub⟩,fun d i c hd Ir=>by have Uc:d≠D+1:=Zo;simp[*]⟩ ?_
  clear h1 Ul U1 aB hx ihM;rintro m ⟨fr,hp⟩ ⟨n3,w3,⟨lk,lo,ln,ls_,ll⟩,kc,tQ,pI,oI,f0,f1,f4,f5,h5,hkc,h4,⟨hb,_,jY⟩,Uf⟩;simp[Sy.Ex.kind,Sy.Ex.op,Sy.Ex.num,Sy.Ex.name,Sy.Ex.kids] at f0 f1 f4 f5 h5 hkc Uf;simp at h4;simp only at hb;have HF:=Lib.hid Uf;have HK:=Lib.hid oI;clear Uf oI;have hsg:=Yv (Ig T n3);have w2':IntKind.i64.wrap ((n3:Int)+1)=(n3:Int)+1:=Iw Zo;have a3:=M8 ll
  cases w3 with
  |true=>
   rcases hkc with rfl|⟨g',rfl,h55⟩
   all_goals
    repeat' (first|refine ZN ?_|refine Z2 ?_ ?_|(intro h h';try simp[*,-h] at h')|((with_reducible apply Ap (f:=65));exact Zv;apply D4 (D+1);exact ZE;(rintro _ If ⟨rfl,⟨Ul,_,_⟩,Ic⟩;have U1:=Ic.own Zo;have aB:=Ic.all (k:=D) Zo;clear Ic))|((with_reducible apply Fh (f:=65));(iterate 5 exact Z5);apply D4 (D+1);exact ZE;(rintro _ If ⟨rfl,⟨Ul,_,_⟩,Ic⟩;have U1:=Ic.own Zo;have aB:=Ic.all (k:=D) Zo;clear Ic))|fail)
   all_goals have Uf:=HF.out
   all_goals exact⟨.mk lk lo ln ls_ ll,n3,true,Zm,HK.out _ _ (Qe Zo (.inl rfl)),pI,⟨Zm,Ij,jY⟩,fun d i c hd Ir=>by have Uc:d≠D+1:=Zo;simp[*];exact Uf d i c hd Ir⟩
  |false=>
   by_cases hc:cZ (Ig T n3)=ls.toNat
   ·have xL:((cZ (Ig T n3):Nat):Int)=ls:=Zo
    have yL:n3<T.length:=F9 (l:=1) Zo Zo;have FV:=fun(ak ao an:Int) (as_:Tx) (al:List Sy.Ex) (bk bo bn:Int) (bs:Tx) (bl:List Sy.Ex)=>join_q (Ig T n3) Zo (.mk ak ao an as_ al) (.mk bk bo bn bs bl)
    simp only[Ag] at FV;have HC:=Lib.hid hc;have HX:=Lib.hid (show(ls+1).toNat=ls.toNat+1 from Zo);clear hc;rcases hkc with rfl|⟨g',rfl,h55⟩
    all_goals
     repeat' (first|((apply Mt (c:=5) (idx:=[0,1,2,3,4]) (d:=41));kernel_rfl;kernel_rfl;simp only[T9,nT,Nh,X4,Rt,T7,X1];(repeat' (first|exact dL.nil|((with_reducible apply Ay);exact Zc)));exact rfl;exact Zc;exact Kl;decide;exact Zc;apply ihE (D+1);omega;omega;constructor;(conv=>lhs;simp -implicitDefEqProofs [*,-Int.natCast_add]);(rw[show((n3:Int)+1)=((n3+1:Nat):Int) from Zo]);assumption;omega;omega;rotate_left;exact ZF;(rintro _ If uK ⟨⟨yk,yo,yn,ys,yl⟩,n2,w2,rfl,hx,aO,⟨Ul,_,Ub⟩,Ic⟩;have U1:=Ic.own Zo;have aB:=Ic.all (k:=D) Zo;clear Ic;simp only[Ag] at*);refine Fi Zf ?_;(repeat (first|((with_reducible apply gP);exact Zc)|((with_reducible apply gQ);exact Zc)));(with_reducible apply A7);apply Be (ps:=[(0,1),(0,2),(1,2),(0,3),(1,3),(2,3),(0,4),(1,4),(2,4),(0,5),(1,5)]);kernel_rfl;(iterate 9 refine Zk ?_);refine ZA ?_;refine ZA ?_;exact Zz)|(refine Z1 ?_)|(refine Z2 ?_ ?_)|(intro h h';try simp[*,-h] at h')|((with_reducible apply Ap (f:=65));exact Zv;apply D4 (D+1);exact ZE;(rintro _ If ⟨rfl,⟨Ul,_,_⟩,Ic⟩;have U1:=Ic.own Zo;have aB:=Ic.all (k:=D) Zo;clear Ic))|((with_reducible apply Fh (f:=65));(iterate 5 exact Z5);apply D4 (D+1);exact ZE;(rintro _ If ⟨rfl,⟨Ul,_,_⟩,Ic⟩;have U1:=Ic.own Zo;have aB:=Ic.all (k:=D) Zo;clear Ic))|fail)
    all_goals have Uf:=HF.out
    all_goals have rO:Is false (Uu T (ls.toNat+1) (n3+1)) (Sy.Ex.mk yk yo yn ys yl,n2) w2:=HX.out▸hx
    all_goals first
     |exact⟨T.length - n2,Zo,n2,w2,.mk (eL (Ig T n3)).1.1 (eL (Ig T n3)).1.2 0 gD [.mk lk lo ln ls_ ll,.mk yk yo yn ys yl],.own ⟨D+1,5,5⟩ ((hp ⟨D+1,5,5⟩).gen+1) 2,Zo,Zo,fun z w4 h2=>HK.out z w4 (Vg Zo HC.out rO z w4 h2),Zm,Zm,Zm,Zm,by simp[Sy.Ex.kind,Sy.Ex.op,Sy.Ex.num,Sy.Ex.name, *];done,.inr ⟨_,rfl,by simp[Sy.Ex.kids, *];done⟩,Zm,⟨Zm,Ij,Ub⟩,fun d i c hd Ir=>by have Uc:d≠D+1:=Zo;simp[*];exact Uf d i c hd Ir⟩
     |exact⟨T.length - n2,Zo,n2,w2,.mk (eL (Ig T n3)).1.1 (eL (Ig T n3)).1.2 0 gD [.mk lk lo ln ls_ ll,.mk yk yo yn ys yl],.own ⟨D+1,5,5⟩ (g'+1) 2,Zo,Zo,fun z w4 h2=>HK.out z w4 (Vg Zo HC.out rO z w4 h2),Zm,Zm,Zm,Zm,by simp[Sy.Ex.kind,Sy.Ex.op,Sy.Ex.num,Sy.Ex.name, *];done,.inr ⟨_,rfl,by simp[Sy.Ex.kids, *];done⟩,Zm,⟨Zm,Ij,Ub⟩,fun d i c hd Ir=>by have Uc:d≠D+1:=Zo;simp[*];exact Uf d i c hd Ir⟩
   ·have xL: ¬((cZ (Ig T n3):Nat):Int)=ls:=Zo
    have HC:=Lib.hid hc;clear hc;rcases hkc with rfl|⟨g',rfl,h55⟩
    all_goals
     repeat' (first|refine ZN ?_|refine Z2 ?_ ?_|(intro h h';try simp[*,-h] at h')|((with_reducible apply Ap (f:=65));exact Zv;apply D4 (D+1);exact ZE;(rintro _ If ⟨rfl,⟨Ul,_,_⟩,Ic⟩;have U1:=Ic.own Zo;have aB:=Ic.all (k:=D) Zo;clear Ic))|((with_reducible apply Fh (f:=65));(iterate 5 exact Z5);apply D4 (D+1);exact ZE;(rintro _ If ⟨rfl,⟨Ul,_,_⟩,Ic⟩;have U1:=Ic.own Zo;have aB:=Ic.all (k:=D) Zo;clear Ic))|fail)
    all_goals have Uf:=HF.out
    all_goals exact⟨.mk lk lo ln ls_ ll,n3,false,Zm,HK.out _ _ (Qe Zo (.inr HC.out)),pI,⟨Zm,Ij,jY⟩,fun d i c hd Ir=>by have Uc:d≠D+1:=Zo;simp[*];exact Uf d i c hd Ir⟩
end
end Go.Proofs.YtggghdmdjpianaaGreatDoor
