/- A part of the proof: Jf, Jg, Jh, Ji, G8. -/
import Derived.Test.YtggghdmdjpianaaGreatDoorC18
import Derived.Test.YtggghdmdjpianaaGreatDoorC07
import Derived.Test.YtggghdmdjpianaaGreatDoorC16
set_option linter.unusedSimpArgs false
set_option linter.unusedVariables false
set_option maxRecDepth 200000
set_option maxHeartbeats 8000000
namespace Go.Proofs.YtggghdmdjpianaaGreatDoor
section
open Go Go.Ab Go.Ab.Sy
theorem Dxa {X:aS}(hX: ∀f a,X.dat f a=none)(vs:List Tx)(ar:List (Tx×Int))(fs:List Sy.Fu)(hv:vs.length<=1048576)(ha:ar.length<=1048576)(hf:fs.length<=1048576)(hz: ∀f∈fs,f.params.length<=1048576/\f.locals.length<=1048576/\Ix f.body<=1048576):(Lm X).dat 30 [.agg [.sl false 1 (Ib vs),.sl false 2 (Ih ar),.sl false 5 (fs.map Sy.Fu.row)]]=some [bv (bH (Us ⟨vs,ar,fs⟩)&&cY ⟨vs,ar,fs⟩ 0 fs)]:=by
 refine fW Tryz.func30 (hX _ _) ?_;have gq:=So hX vs ar fs hv ha hf;have uq:=Vh hX (Us ⟨vs,ar,fs⟩) (by rw[Hh];omega);have t7: ∀l:List Tx,(Ib l).take l.length=Ib l:=fun l=>Kb Zi
 cases hb:bH (Us ⟨vs,ar,fs⟩) with
 |false=>
  rw[hb] at uq;rw[xX];clear hb hz;exact ZS
 |true=>
  rw[hb] at uq;rw[Zt];clear hb;have HZ:=Lib.hid hz;clear hz
  repeat' first|refine ZN ?_|refine Z2 ?_ ?_|intro h h';try simp[*,-h] at h'
  all_goals (refine Ac (n:=fs.length) (fun s0 m z=> ∃(i g1:Nat),fs.length - i<=m/\i<=fs.length/\cY ⟨vs,ar,fs⟩ 0 fs=cY ⟨vs,ar,fs⟩ i (fs.drop i)/\z.fr 1= .ptr ⟨0,1,0⟩ g1 0/\z.fr 3=iv i/\z.hp ⟨0,1,0⟩= .box g1 [.sl false 1 (Ib vs),.sl false 2 (Ih ar),.sl false 5 (fs.map Sy.Fu.row)] false) ⟨0,1,Zo,Zo,rfl,Zi,Zi,Zi⟩ ?_)
  rintro m ⟨fr,hp⟩ ⟨i,g1,hm,hi,hI,f1,f3,h1⟩;simp at f1 f3 h1;clear gq uq;by_cases Ii:i<fs.length
  ·have e1:(i:Int)<fs.length:=Zo
   have w1:=Iw (k:=i) Zo;have AM:fs[i]?=some fs[i]:=Bs Ii;have jB:=HZ.out _ (oY Ii);generalize hq:fs[i]=f at*;obtain⟨nm,ps,ls,w,b⟩:=f;obtain⟨z1,z2,z3⟩:=jB;simp only at z1 z2 z3;have hd:=hI.trans (Jxa (p:=⟨vs,ar,fs⟩) AM);clear hI hq Ii;have hg:=Bw nm ps ls w b;have nq:=Cua hX nm ps ls w b z1 z2;have uq:=Vh hX (ps++ls) (by rw[X3];omega);have FQ:=Lib.hid fun s:Tx=>EW hX vs ar fs hv ha hf i ⟨nm,ps,ls,w,b⟩ s AM ⟨z1,z2⟩
   have sq:=P3 hX _ b (D5 _) z3;have hfo:tE ⟨vs,ar,fs⟩ i ⟨nm,ps,ls,w,b⟩=(bH (ps++ls)&&(I9 b).all (bG i (Ut ⟨vs,ar,fs⟩ ⟨nm,ps,ls,w,b⟩))):=rfl;have DH:=C7 b;generalize ps++ls=nl at*
   cases hb:bH nl with
   |false=>
    rw[hb] at uq;have hr:cY ⟨vs,ar,fs⟩ 0 fs=false:=by rw[hd,hfo,hb];rfl
    rw[hr];clear hr hd hfo hb;exact ZS
   |true=>
    rw[hb] at uq;rw[hfo,hb,Zt] at hd;have HR:=Lib.hid hd;have uS:=En b;have t8: ∀V:List qV,(fP V).take V.length=V.map rG:=fun V=>Kb Zi
    generalize I9 b=UL at*;have HK:=Lib.hid uS;clear hd hfo hb uS
    repeat' first|refine ZN ?_|refine Z2 ?_ ?_|intro h h';try simp[*,-h] at h'
    all_goals (refine Ac (n:=UL.length) (fun s0 m z=> ∃(j:Nat),UL.length - j<=m/\j<=UL.length/\UL.all (bG i (Ut ⟨vs,ar,fs⟩ ⟨nm,ps,ls,w,b⟩))=(UL.drop j).all (bG i (Ut ⟨vs,ar,fs⟩ ⟨nm,ps,ls,w,b⟩))/\z.fr 1= .ptr ⟨0,1,0⟩ g1 0/\z.fr 3=iv i/\z.fr 4= .own ⟨0,33,0⟩ ((hp ⟨0,33,0⟩).gen+1) UL.length/\z.fr 5=iv j/\z.hp ⟨0,1,0⟩= .box g1 [.sl false 1 (Ib vs),.sl false 2 (Ih ar),.sl false 5 (fs.map Sy.Fu.row)] false/\z.hp ⟨0,33,0⟩= .arr ((hp ⟨0,33,0⟩).gen+1) 3 115 (fP UL) false) ⟨0,Zo,Zo,rfl,Zm,Zm,Zm,Zm,Zm,Zm⟩ ?_)
    rintro m' ⟨fr',hp'⟩ ⟨j,AJ,hj,hJ,f1',f3',f4',f5',pS,h33⟩;simp at f1' f3' f4' f5' pS h33;clear f1 f3 h1;generalize (hp ⟨0,33,0⟩).gen+1=gu at*;have HJ:=Lib.hid hJ;clear hJ nq uq sq hg;by_cases eQ:j<UL.length
    ·have e2:(j:Int)<UL.length:=Zo
     have w2:=Iw (k:=j) Zo;have hu:=u_at eQ;have HS:=Lib.hid (Hq (P:=bG i (Ut ⟨vs,ar,fs⟩ ⟨nm,ps,ls,w,b⟩)) eQ);have AK:=HK.out _ (oY eQ);have hqj: ∀h:j<UL.length,UL[j]'h=UL[j]'eQ:=fun _=>rfl
     clear hu;generalize UL[j]'eQ=u at*;obtain⟨uk,us,ua⟩:=u;have hur:rG ⟨uk,us,ua⟩=[tz us.val,iz (if uk=2 then 1 else uk),iz ua]:=rfl;simp only at AK;have fq:=FQ.out us;generalize hF:Ut ⟨vs,ar,fs⟩ ⟨nm,ps,ls,w,b⟩ us=F at*;obtain⟨fk,fn⟩:=F;simp only at fq;clear AM;rcases AK with rfl|rfl|rfl
     ·by_cases a1:fk=1
      ·subst a1
       have Uz:bG i (Ut ⟨vs,ar,fs⟩ ⟨nm,ps,ls,w,b⟩) ⟨2,us,ua⟩=true:=by simp[bG,hF]
       have HE:=Lib.hid (HJ.out.trans (HS.out.trans (by rw[Uz,Zt])));clear Uz
       repeat' first|refine ZN ?_|refine Z2 ?_ ?_|intro h h';try simp[*,-h] at h'
       all_goals exact⟨UL.length - (j+1),Zo,j+1,Zo,Zo,HE.out,Zm,Zm,Zm,Zm,Zm,Zm⟩
      by_cases a2:fk=2
      ·subst a2
       have Uz:bG i (Ut ⟨vs,ar,fs⟩ ⟨nm,ps,ls,w,b⟩) ⟨2,us,ua⟩=true:=by simp[bG,hF]
       have HE:=Lib.hid (HJ.out.trans (HS.out.trans (by rw[Uz,Zt])));clear Uz
       repeat' first|refine ZN ?_|refine Z2 ?_ ?_|intro h h';try simp[*,-h] at h'
       all_goals exact⟨UL.length - (j+1),Zo,j+1,Zo,Zo,HE.out,Zm,Zm,Zm,Zm,Zm,Zm⟩
      have Uz:bG i (Ut ⟨vs,ar,fs⟩ ⟨nm,ps,ls,w,b⟩) ⟨2,us,ua⟩=false:=by simp[bG,hF,a1,a2]
      have hr:cY ⟨vs,ar,fs⟩ 0 fs=false:=by rw[HR.out,HJ.out,HS.out,Uz];rfl
      rw[hr];clear hr Uz;exact ZS
     ·by_cases a1:fk=3
      ·subst a1
       have Uz:bG i (Ut ⟨vs,ar,fs⟩ ⟨nm,ps,ls,w,b⟩) ⟨3,us,ua⟩=true:=by simp[bG,hF]
       have HE:=Lib.hid (HJ.out.trans (HS.out.trans (by rw[Uz,Zt])));clear Uz
       repeat' first|refine ZN ?_|refine Z2 ?_ ?_|intro h h';try simp[*,-h] at h'
       all_goals exact⟨UL.length - (j+1),Zo,j+1,Zo,Zo,HE.out,Zm,Zm,Zm,Zm,Zm,Zm⟩
      have Uz:bG i (Ut ⟨vs,ar,fs⟩ ⟨nm,ps,ls,w,b⟩) ⟨3,us,ua⟩=false:=by simp[bG,hF,a1]
      have hr:cY ⟨vs,ar,fs⟩ 0 fs=false:=by rw[HR.out,HJ.out,HS.out,Uz];rfl
      rw[hr];clear hr Uz;exact ZS
     ·by_cases a1:fk=4
      ·subst a1
       by_cases a2:fn<i
       ·have Uz:bG i (Ut ⟨vs,ar,fs⟩ ⟨nm,ps,ls,w,b⟩) ⟨4,us,ua⟩=true:=by simp[bG,hF,a2]
        have a3: ¬(i:Int)<=fn:=Zo;have HE:=Lib.hid (HJ.out.trans (HS.out.trans (by rw[Uz,Zt])));clear Uz
        repeat' first|refine ZN ?_|refine Z2 ?_ ?_|intro h h';try simp[*,-h] at h'
        all_goals exact⟨UL.length - (j+1),Zo,j+1,Zo,Zo,HE.out,Zm,Zm,Zm,Zm,Zm,Zm⟩
       ·have Uz:bG i (Ut ⟨vs,ar,fs⟩ ⟨nm,ps,ls,w,b⟩) ⟨4,us,ua⟩=false:=by simp[bG,hF,a2]
        have a3:(i:Int)<=fn:=Zo;have hr:cY ⟨vs,ar,fs⟩ 0 fs=false:=by rw[HR.out,HJ.out,HS.out,Uz];rfl
        rw[hr];clear hr Uz;exact ZS
      have Uz:bG i (Ut ⟨vs,ar,fs⟩ ⟨nm,ps,ls,w,b⟩) ⟨4,us,ua⟩=false:=by simp[bG,hF,a1]
      have hr:cY ⟨vs,ar,fs⟩ 0 fs=false:=by rw[HR.out,HJ.out,HS.out,Uz];rfl
      rw[hr];clear hr Uz;exact ZS
    ·have e2: ¬(j:Int)<UL.length:=Zo
     have cU:UL.all (bG i (Ut ⟨vs,ar,fs⟩ ⟨nm,ps,ls,w,b⟩))=true:=HJ.out.trans (K7 eQ);have HE:=Lib.hid (show cY ⟨vs,ar,fs⟩ 0 fs=cY ⟨vs,ar,fs⟩ (i+1) (fs.drop (i+1)) by rw[HR.out,cU,Zt]);clear cU eQ AM
     repeat' first|refine ZN ?_|refine Z2 ?_ ?_|intro h h';try simp[*,-h] at h'
     all_goals exact⟨fs.length - (i+1),Zo,i+1,g1,Zo,Zo,HE.out,Zm,Zm,Zm⟩
  ·have e1: ¬(i:Int)<fs.length:=Zo
   rw[hI,MO (p:=⟨vs,ar,fs⟩) Ii];clear hI;exact ZS
end
section
open Go Go.Ab Go.Ab.Sy
variable {X:aS}{p:Sy.Pr}
theorem MP{f:Sy.Fu}{s:Tx}(h:(Ut p f s).1=4): ∃k:Nat,Ut p f s=(4,(k:Int)):=by
 unfold Ut at h⊢
 cases h1:I4 (bI f) s with
 |some k=>rw[h1] at h;cases h
 |none=>
  rw[h1] at h;simp only at h⊢
  cases h2:I4 (Us p) s with
  |none=>rw[h2] at h;cases h
  |some k=>
   rw[h2] at h;simp only at h⊢;by_cases a1:k<p.vars.length
   ·rw[Ka a1] at h;cases h
   rw[Jx a1] at h⊢;by_cases a2:k - p.vars.length<p.arrays.length
   ·rw[Ka a2] at h;cases h
   rw[Jx a2];exact⟨_,rfl⟩
theorem D3a : "main".toUTF8=(⟨#[109,97,105,110]⟩:ByteArray):=by decide+kernel
theorem D4a (nm:Tx)(ps ls:List Tx)(w:Bool)(b:List Sy.St):Fk ⟨nm,ps,ls,w,b⟩=(decide (nm.val=⟨#[109,97,105,110]⟩)&&(decide (ps.length=0)&& !w)):=by
 unfold Fk;rw[D3a,yZ];congr 2
theorem Wb(hX: ∀f a,X.dat f a=none)(vs:List Tx)(ar:List (Tx×Int))(fs:List Sy.Fu)(hv:vs.length<=1048576)(ha:ar.length<=1048576)(hf:fs.length<=1048576)(hz: ∀f∈fs,f.params.length<=1048576/\f.locals.length<=1048576/\Ix f.body<=1048576)(gX:1<=fs.length)(Uz: ∀i f,fs[i]?=some f-> ∀u∈I9 f.body,bG i (Ut ⟨vs,ar,fs⟩ f) u=true):(Lm X).dat 31 [.agg [.sl false 1 (Ib vs),.sl false 2 (Ih ar),.sl false 5 (fs.map Sy.Fu.row)]]=some [bv (fs.all (gK ⟨vs,ar,fs⟩)&&(match fs.getLast? with|some f=>Fk f|none=>false))]:=by
 refine fW Tryz.func31 (hX _ _) ?_;have HZ:=Lib.hid hz;have HO:=Lib.hid Uz;clear hz Uz
 repeat' first|refine ZN ?_|refine Z2 ?_ ?_|intro h h';try simp[*,-h] at h'
 all_goals (refine Ac (n:=fs.length) (fun s0 m z=> ∃(i g1:Nat),fs.length - i<=m/\i<=fs.length/\fs.all (gK ⟨vs,ar,fs⟩)=(fs.drop i).all (gK ⟨vs,ar,fs⟩)/\z.fr 1= .ptr ⟨0,1,0⟩ g1 0/\z.fr 3=iv i/\z.hp ⟨0,1,0⟩= .box g1 [.sl false 1 (Ib vs),.sl false 2 (Ih ar),.sl false 5 (fs.map Sy.Fu.row)] false) ⟨0,1,Zo,Zo,rfl,Zi,Zi,Zi⟩ ?_)
 rintro m ⟨fr,hp⟩ ⟨i,g1,hm,hi,hI,f1,f3,h1⟩;simp at f1 f3 h1;by_cases Ii:i<fs.length
 ·have e1:(i:Int)<fs.length:=Zo
  have w1:=Iw (k:=i) Zo;have AM:fs[i]?=some fs[i]:=Bs Ii;have jB:=HZ.out _ (oY Ii);have hoo:=HO.out _ _ AM;have hd:=hI.trans (Hq (P:=gK ⟨vs,ar,fs⟩) Ii);generalize hq:fs[i]=f at*;obtain⟨nm,ps,ls,w,b⟩:=f;obtain⟨z1,z2,z3⟩:=jB;simp only at z1 z2 z3 hoo;clear hI hq Ii;have hg:=Bw nm ps ls w b;have FQ:=Lib.hid fun s:Tx=>EW hX vs ar fs hv ha hf i ⟨nm,ps,ls,w,b⟩ s AM ⟨z1,z2⟩
  have sq:=P3 hX _ b (D5 _) z3;have DH:=C7 b;have HR:=Lib.hid hd;have uS:=En b;have HV:=Lib.hid (show gK ⟨vs,ar,fs⟩ ⟨nm,ps,ls,w,b⟩=(I9 b).all (eZ fs (Ut ⟨vs,ar,fs⟩ ⟨nm,ps,ls,w,b⟩)) from rfl);have t8: ∀V:List qV,(fP V).take V.length=V.map rG:=fun V=>Kb Zi
  clear hd;generalize I9 b=UL at*;have HK:=Lib.hid uS;have HU:=Lib.hid hoo;clear uS hoo
  repeat' first|refine ZN ?_|refine Z2 ?_ ?_|intro h h';try simp[*,-h] at h'
  all_goals (refine Ac (n:=UL.length) (fun s0 m z=> ∃(j:Nat),UL.length - j<=m/\j<=UL.length/\UL.all (eZ fs (Ut ⟨vs,ar,fs⟩ ⟨nm,ps,ls,w,b⟩))=(UL.drop j).all (eZ fs (Ut ⟨vs,ar,fs⟩ ⟨nm,ps,ls,w,b⟩))/\z.fr 1= .ptr ⟨0,1,0⟩ g1 0/\z.fr 3=iv i/\z.fr 4= .own ⟨0,22,0⟩ ((hp ⟨0,22,0⟩).gen+1) UL.length/\z.fr 5=iv j/\z.hp ⟨0,1,0⟩= .box g1 [.sl false 1 (Ib vs),.sl false 2 (Ih ar),.sl false 5 (fs.map Sy.Fu.row)] false/\z.hp ⟨0,22,0⟩= .arr ((hp ⟨0,22,0⟩).gen+1) 3 115 (fP UL) false) ⟨0,Zo,Zo,rfl,Zm,Zm,Zm,Zm,Zm,Zm⟩ ?_)
  rintro m' ⟨fr',hp'⟩ ⟨j,AJ,hj,hJ,f1',f3',f4',f5',pS,h33⟩;simp at f1' f3' f4' f5' pS h33;clear f1 f3 h1;generalize (hp ⟨0,22,0⟩).gen+1=gu at*;have HJ:=Lib.hid hJ;clear hJ sq hg;by_cases eQ:j<UL.length
  ·have e2:(j:Int)<UL.length:=Zo
   have w2:=Iw (k:=j) Zo;have hu:=u_at eQ;have HS:=Lib.hid (Hq (P:=eZ fs (Ut ⟨vs,ar,fs⟩ ⟨nm,ps,ls,w,b⟩)) eQ);have AK:=HK.out _ (oY eQ);have huo:=HU.out _ (oY eQ);have hqj: ∀h:j<UL.length,UL[j]'h=UL[j]'eQ:=fun _=>rfl
   clear hu;generalize UL[j]'eQ=u at*;obtain⟨uk,us,ua⟩:=u;have hur:rG ⟨uk,us,ua⟩=[tz us.val,iz (if uk=2 then 1 else uk),iz ua]:=rfl;simp only at AK;rcases AK with rfl|rfl|rfl
   ·have iC:eZ fs (Ut ⟨vs,ar,fs⟩ ⟨nm,ps,ls,w,b⟩) ⟨2,us,ua⟩=true:=rfl
    have HE:=Lib.hid (HJ.out.trans (HS.out.trans (by rw[iC,Zt])));clear iC
    repeat' first|refine ZN ?_|refine Z2 ?_ ?_|intro h h';try simp[*,-h] at h'
    all_goals exact⟨UL.length - (j+1),Zo,j+1,Zo,Zo,HE.out,Zm,Zm,Zm,Zm,Zm,Zm⟩
   ·have iC:eZ fs (Ut ⟨vs,ar,fs⟩ ⟨nm,ps,ls,w,b⟩) ⟨3,us,ua⟩=true:=rfl
    have HE:=Lib.hid (HJ.out.trans (HS.out.trans (by rw[iC,Zt])));clear iC
    repeat' first|refine ZN ?_|refine Z2 ?_ ?_|intro h h';try simp[*,-h] at h'
    all_goals exact⟨UL.length - (j+1),Zo,j+1,Zo,Zo,HE.out,Zm,Zm,Zm,Zm,Zm,Zm⟩
   ·have LV:(Ut ⟨vs,ar,fs⟩ ⟨nm,ps,ls,w,b⟩ us).1=4/\(Ut ⟨vs,ar,fs⟩ ⟨nm,ps,ls,w,b⟩ us).2<i:=by simpa[bG] using huo
    obtain⟨k,hk⟩:=MP LV.1;have fq:=FQ.out us;rw[hk] at fq LV;have hki:k<fs.length:=by have:=LV.2;simp only at this;omega
    have ek:(k:Int)<fs.length:=Zo;have hkf:fs[k]?=some fs[k]:=Bs hki;generalize fs[k]=gg at*;obtain⟨gn,gp,gl,gw,gb⟩:=gg;have xI:=Bw gn gp gl gw gb;have pI:eZ fs (Ut ⟨vs,ar,fs⟩ ⟨nm,ps,ls,w,b⟩) ⟨4,us,ua⟩=decide ((gp.length:Int)=ua):=by simp[eZ,hk,hkf]
    simp only at fq;clear LV hki huo hk AM;by_cases hpa:(gp.length:Int)=ua
    ·have iC:eZ fs (Ut ⟨vs,ar,fs⟩ ⟨nm,ps,ls,w,b⟩) ⟨4,us,ua⟩=true:=by rw[pI,sK hpa]
     clear pI;have HE:=Lib.hid (HJ.out.trans (HS.out.trans (by rw[iC,Zt])));clear iC
     repeat' first|refine ZN ?_|refine Z2 ?_ ?_|intro h h';try simp[*,-h] at h'
     all_goals exact⟨UL.length - (j+1),Zo,j+1,Zo,Zo,HE.out,Zm,Zm,Zm,Zm,Zm,Zm⟩
    ·have iC:eZ fs (Ut ⟨vs,ar,fs⟩ ⟨nm,ps,ls,w,b⟩) ⟨4,us,ua⟩=false:=by rw[pI,oV hpa]
     have hr:fs.all (gK ⟨vs,ar,fs⟩)=false:=by rw[HR.out,show gK ⟨vs,ar,fs⟩ ⟨nm,ps,ls,w,b⟩=UL.all (eZ fs (Ut ⟨vs,ar,fs⟩ ⟨nm,ps,ls,w,b⟩)) from HV.out,HJ.out,HS.out,iC];rfl
     rw[hr,xX];clear pI iC hr;exact ZS
  ·have e2: ¬(j:Int)<UL.length:=Zo
   have cU:UL.all (eZ fs (Ut ⟨vs,ar,fs⟩ ⟨nm,ps,ls,w,b⟩))=true:=HJ.out.trans (K7 eQ);have HE:=Lib.hid (show fs.all (gK ⟨vs,ar,fs⟩)=(fs.drop (i+1)).all (gK ⟨vs,ar,fs⟩) by rw[HR.out,HV.out,cU,Zt]);clear cU eQ AM
   repeat' first|refine ZN ?_|refine Z2 ?_ ?_|intro h h';try simp[*,-h] at h'
   all_goals exact⟨fs.length - (i+1),Zo,i+1,g1,Zo,Zo,HE.out,Zm,Zm,Zm⟩
 ·have e1: ¬(i:Int)<fs.length:=Zo
  cases hl9:fs.getLast? with
  |none=>rw[List.getLast?_eq_none_iff] at hl9;subst hl9;simp at gX
  |some f9=>
  have hi9:fs[fs.length - 1]?=some f9:=by rw[<-List.getLast?_eq_getElem?];exact hl9
  obtain⟨nm,ps,ls,w,b⟩:=f9;have hw9:IntKind.i64.wrap ((fs.length:Int) - 1)=((fs.length - 1:Nat):Int):=by rw[Bu Zo Zo];omega
  have el:((fs.length - 1:Nat):Int)<fs.length:=Zo;have hg:=Bw nm ps ls w b;rw[hI,K7 Ii,Zt];simp only[D4a];clear hI Ii hl9;generalize fs.length - 1=n9 at*;by_cases hm1:nm.val=⟨#[109,97,105,110]⟩<;>by_cases sS:ps.length=0<;>cases w
  all_goals (first|have hm3:(ps.length:Int)=0:=Zo|have hm3: ¬(ps.length:Int)=0:=Zo)
  all_goals
  repeat' first|refine ZN ?_|refine Z2 ?_ ?_|intro h h';try simp[*,-h] at h'
  all_goals (simp[*])
theorem Fma(h:cY p 0 p.funcs=true): ∀i f,p.funcs[i]?=some f-> ∀u∈I9 f.body,bG i (Ut p f) u=true:=by
 have key: ∀(l:List Sy.Fu) (n:Nat),cY p n l=true-> ∀i f,l[i]?=some f->tE p (n+i) f=true:=by
  intro l
  induction l with
  |nil=>intro n _ i f h;simp at h
  |cons g l ih=>
   intro n h i f hi;rw[cY,Ed] at h
   cases i with
   |zero=>simp at hi;subst hi;exact h.1
   |succ i=>
    have:=ih (n+1) h.2 i f (by simpa using hi);rwa [show n+(i+1)=n+1+i from Zo]
 intro i f hi u hu;have h1:=key p.funcs 0 h i f hi;rw[mH,tE,Ed] at h1;exact nU.1 h1.2 u hu
theorem Ffa(hX: ∀f a,X.dat f a=none)(vs:List Tx)(ar:List (Tx×Int))(fs:List Sy.Fu)(hv:vs.length<=1048576)(ha:ar.length<=1048576)(hf:fs.length<=1048576)(hz: ∀f∈fs,f.params.length<=1048576/\f.locals.length<=1048576/\Ix f.body<=1048576)(gX:1<=fs.length):(Lm X).dat 15 [.agg [.sl false 1 (Ib vs),.sl false 2 (Ih ar),.sl false 5 (fs.map Sy.Fu.row)]]=some [iv (kQ ⟨vs,ar,fs⟩)]:=by
 refine fW Tryz.func15 (hX _ _) ?_;have nq:=Dxa hX vs ar fs hv ha hf hz;unfold kQ;simp only
 cases hb:bH (Us ⟨vs,ar,fs⟩)&&cY ⟨vs,ar,fs⟩ 0 fs with
 |false=>
  rw[hb] at nq;rw[Ka rfl];clear hb hz;exact ZS
 |true=>
  rw[hb] at nq;rw[Jx Zd];have mq:=Wb hX vs ar fs hv ha hf hz gX (Fma (p:=⟨vs,ar,fs⟩) ((Ed _ _▸hb).2));generalize (fs.all (gK ⟨vs,ar,fs⟩)&&(match fs.getLast? with|some f=>Fk f|none=>false))=r at*;clear hb hz
  cases r
  all_goals
  exact ZS
end
section
open Go Go.Ab Go.Ab.Sy
variable {m:List (Tx×Fu)}{l:List Sy.Ex}{fs:List Sy.Fu}{i:Nat}{X:aS}{s:Tx}
theorem G8a (fs:List Sy.Fu)(s:Tx):jH fs s=plZ (I4 (fs.map (·.name)) s):=by
 unfold jH
 cases I4 (fs.map (·.name)) s<;>rfl
theorem Jya(h:i<fs.length):(fs.map (·.name))[i]'(by simpa using h)=fs[i].name:=Zi
theorem H3a (m:List (Tx×Fu))(k o n:Int)(s:Tx)(l:List Sy.Ex):wE m (.mk k o n s l)=((decide (k≠4)||(Sy.look m s).isSome)&&dB m l):=by rw[wE]
theorem O2 (m:List (Tx×Fu))(k:Int)(s:Tx)(e:List Sy.Ex)(t f:List Sy.St):LD m (.mk k s e t f)=((decide (k≠6)||(Sy.look m s).isSome)&&(dB m e&&(aU m t&&aU m f))):=by rw[LD,yZ,yZ]
theorem LF(h:i<l.length):dB m (l.drop i)=(wE m l[i]&&dB m (l.drop (i+1))):=by rw[Ng h,Efa]
theorem H2a(h: ¬i<l.length):dB m (l.drop i)=true:=by rw[wO Zo];simp
theorem LB{l:List Sy.St}(h:i<l.length):aU m (l.drop i)=(LD m l[i]&&aU m (l.drop (i+1))):=by rw[Ng h,Rj]
theorem H1a{l:List Sy.St}(h: ¬i<l.length):aU m (l.drop i)=true:=by rw[wO Zo];simp
theorem Kc(h:jH fs s<0):(Sy.look (Ip fs) s).isSome=false:=(Qz fs s).1 h
theorem Vn(h: ¬jH fs s<0):(Sy.look (Ip fs) s).isSome=true:=by
 cases hb:(Sy.look (Ip fs) s).isSome with
 |true=>rfl
 |false=>exact absurd ((Qz fs s).2 hb) h
theorem Gp(hX: ∀f a,X.dat f a=none)(vs:List Tx)(ar:List (Tx×Int))(fs:List Sy.Fu)(hv:vs.length<=1048576)(ha:ar.length<=1048576)(hf:fs.length<=1048576)(s:Tx):(Lm X).dat 76 [.agg [.sl false 1 (Ib vs),.sl false 2 (Ih ar),.sl false 5 (fs.map Sy.Fu.row)],tv s.val]=some [iv (jH fs s)]:=by
 refine fW Tryz.func76 (hX _ _) ?_;rw[G8a];have hml:(fs.map (·.name)).length=fs.length:=Aco ..
 repeat' first|refine ZN ?_|refine Z2 ?_ ?_|intro h h';try simp[*,-h] at h'
 all_goals (refine Ac (n:=fs.length) (fun s0 m z=> ∃(i g1:Nat),fs.length - i<=m/\i<=fs.length/\I4 (fs.map (·.name)) s=(I4 ((fs.map (·.name)).drop i) s).map (· +i)/\z.fr 1=tv s.val/\z.fr 2= .ptr ⟨0,2,0⟩ g1 0/\z.fr 5=iv i/\z.hp ⟨0,2,0⟩= .box g1 [.sl false 1 (Ib vs),.sl false 2 (Ih ar),.sl false 5 (fs.map Sy.Fu.row)] false) ⟨0,1,Zo,Zo,Zi,Zi,Zi,Zi,Zi⟩ ?_)
 rintro m ⟨fr,hp⟩ ⟨i,g1,hm,hi,hI,f1,f2,f5,h2⟩;simp at f1 f2 f5 h2;rw[hI];have HI:=Lib.hid hI;clear hI;by_cases Ii:i<fs.length
 ·have e1:(i:Int)<fs.length:=Zo
  have w1:=Iw (k:=i) Zo;have AM:fs[i]?=some fs[i]:=Bs Ii;have pO:=Jya Ii;generalize fs[i]=f at*;obtain⟨nm,ps,ls,w,b⟩:=f;have hg:=Bw nm ps ls w b;by_cases ht:nm=s
  ·rw[Vy Zo (pO.trans ht)]
   have LQ:nm.val=s.val:=congrArg Tx.val ht;clear ht HI pO Ii hml;exact ZS
  ·have mX:=Lh (l:=fs.map (·.name)) (i:=i) Zo (fun h=>ht (pO.symm.trans h))
   have HD:=Lib.hid (HI.out.trans mX);have LQ: ¬nm.val=s.val:=fun h=>ht (Tx.ext h)
   rw[mX];clear ht HI mX pO Ii hml;generalize hr:(I4 ((fs.map (·.name)).drop (i+1)) s).map (· +(i+1))=r at*
   repeat' first|refine ZN ?_|refine Z2 ?_ ?_|intro h h';try simp[*,-h] at h'
   all_goals exact⟨fs.length - (i+1),Zo,i+1,g1,Zo,Zo,hr.symm,Zm,Zm,Zm,Zm⟩
 ·have e1: ¬(i:Int)<fs.length:=Zo
  rw[Oa Zo];clear HI hml;exact ZS
theorem Cwa(hX: ∀f a,X.dat f a=none)(vs:List Tx)(ar:List (Tx×Int))(fs:List Sy.Fu)(hv:vs.length<=1048576)(ha:ar.length<=1048576)(hf:fs.length<=1048576)(l:List Sy.Ex)(hl:l.length<=1048576)(ih: ∀e∈l,(Lm X).dat 77 [.agg [.sl false 1 (Ib vs),.sl false 2 (Ih ar),.sl false 5 (fs.map Sy.Fu.row)],.sl false 5 (In e.kids)]=some [bv (dB (Ip fs) e.kids)]):(Lm X).dat 77 [.agg [.sl false 1 (Ib vs),.sl false 2 (Ih ar),.sl false 5 (fs.map Sy.Fu.row)],.sl false 5 (In l)]=some [bv (dB (Ip fs) l)]:=by
 refine fW Tryz.func77 (hX _ _) ?_;have FY:(In l).length=l.length:=by simp[Bv]
 repeat' first|refine ZN ?_|refine Z2 ?_ ?_|intro h h';try simp[*,-h] at h'
 all_goals (refine Ac (n:=l.length) (fun s0 m z=> ∃(i g1:Nat),l.length - i<=m/\i<=l.length/\dB (Ip fs) l=dB (Ip fs) (l.drop i)/\z.fr 1= .sl false 5 (In l)/\z.fr 2= .ptr ⟨0,2,0⟩ g1 0/\z.fr 5=iv i/\z.hp ⟨0,2,0⟩= .box g1 [.sl false 1 (Ib vs),.sl false 2 (Ih ar),.sl false 5 (fs.map Sy.Fu.row)] false) ⟨0,1,Zo,Zo,rfl,Zi,Zi,Zi,Zi⟩ ?_)
 rintro m ⟨fr,hp⟩ ⟨i,g1,hm,hi,hI,f1,f2,f5,h2⟩;simp at f1 f2 f5 h2;have HI:=Lib.hid hI;clear hI;by_cases Ii:i<l.length
 ·have e1:(i:Int)<l.length:=Zo
  have hg:=M9 Ii;have w1:=Iw (k:=i) Zo;have n1:=ih l[i] (oY Ii);have hD:=LF (m:=Ip fs) Ii;clear ih;generalize hq:l[i]=t at*;obtain⟨tk,to',tn,ts,tl⟩:=t;simp only[Ag] at hg;simp only[Sy.Ex.kids] at n1;clear hq Ii;have fq:=Gp hX vs ar fs hv ha hf ts;rw[H3a] at hD;by_cases k4:tk=4
  ·subst k4
   by_cases hn:jH fs ts<0
   ·rw[Kc hn] at hD
    have hr:dB (Ip fs) l=false:=by rw[HI.out,hD];simp
    rw[hr];generalize jH fs ts=q at*;clear hr hD HI;exact ZS
   ·rw[Vn hn] at hD
    have HD:=Lib.hid hD;clear hD;generalize jH fs ts=q at*
    cases b1:dB (Ip fs) tl with
    |false=>
     rw[b1] at n1;have hr:dB (Ip fs) l=false:=by rw[HI.out,HD.out,b1];try simp
     rw[hr];clear hr b1;exact ZS
    |true=>
     rw[b1] at n1;have HE:=Lib.hid (HI.out.trans (by rw[HD.out,b1];try simp));clear b1
     repeat' first|refine ZN ?_|refine Z2 ?_ ?_|intro h h';try simp[*,-h] at h'
     all_goals exact⟨l.length - (i+1),Zo,i+1,g1,Zo,Zo,HE.out,Zm,Zm,Zm,Zm⟩
  ·rw[show(decide (tk≠4)||(Sy.look (Ip fs) ts).isSome)=true by simp[k4]] at hD
   have HD:=Lib.hid hD;clear hD fq
   cases b1:dB (Ip fs) tl with
   |false=>
    rw[b1] at n1;have hr:dB (Ip fs) l=false:=by rw[HI.out,HD.out,b1];try simp
    rw[hr];clear hr b1;exact ZS
   |true=>
    rw[b1] at n1;have HE:=Lib.hid (HI.out.trans (by rw[HD.out,b1];try simp));clear b1
    repeat' first|refine ZN ?_|refine Z2 ?_ ?_|intro h h';try simp[*,-h] at h'
    all_goals exact⟨l.length - (i+1),Zo,i+1,g1,Zo,Zo,HE.out,Zm,Zm,Zm,Zm⟩
 ·have e1: ¬(i:Int)<l.length:=Zo
  have hr:dB (Ip fs) l=true:=HI.out.trans (H2a Ii);rw[hr];clear hr HI ih;exact ZS
theorem Cva {X:aS}(hX: ∀f a,X.dat f a=none)(vs:List Tx)(ar:List (Tx×Int))(fs:List Sy.Fu)(hv:vs.length<=1048576)(ha:ar.length<=1048576)(hf:fs.length<=1048576): ∀(N:Nat) (l:List Sy.Ex),Uv l<=N->Uv l<=1048576->(Lm X).dat 77 [.agg [.sl false 1 (Ib vs),.sl false 2 (Ih ar),.sl false 5 (fs.map Sy.Fu.row)],.sl false 5 (In l)]=some [bv (dB (Ip fs) l)]
 |0,l,h,h2=>Cwa hX vs ar fs hv ha hf l (by have:=A4 l;omega) fun e he=>by have:=Ba he;have:=e.size_pos;omega
 |N+1,l,h,h2=>Cwa hX vs ar fs hv ha hf l (by have:=A4 l;omega) fun e he=>Cva hX vs ar fs hv ha hf N e.kids (by have h3:=Ba he;rw[Sy.Ex.size_eq] at h3;omega) (by have h3:=Ba he;rw[Sy.Ex.size_eq] at h3;omega)
theorem La(hX: ∀f a,X.dat f a=none)(vs:List Tx)(ar:List (Tx×Int))(fs:List Sy.Fu)(hv:vs.length<=1048576)(ha:ar.length<=1048576)(hf:fs.length<=1048576)(l:List Sy.St)(hl:Ix l<=1048576)(ih: ∀l2:List Sy.St,Ix l2<Ix l->(Lm X).dat 32 [.agg [.sl false 1 (Ib vs),.sl false 2 (Ih ar),.sl false 5 (fs.map Sy.Fu.row)],.sl false 5 (Ik l2)]=some [bv (aU (Ip fs) l2)]):(Lm X).dat 32 [.agg [.sl false 1 (Ib vs),.sl false 2 (Ih ar),.sl false 5 (fs.map Sy.Fu.row)],.sl false 5 (Ik l)]=some [bv (aU (Ip fs) l)]:=by
 refine fW Tryz.func32 (hX _ _) ?_;have FY:(Ik l).length=l.length:=by simp[B5]
 have zN:=A9 l
 repeat' first|refine ZN ?_|refine Z2 ?_ ?_|intro h h';try simp[*,-h] at h'
 all_goals (refine Ac (n:=l.length) (fun s0 m z=> ∃(i g1:Nat),l.length - i<=m/\i<=l.length/\aU (Ip fs) l=aU (Ip fs) (l.drop i)/\z.fr 1= .sl false 5 (Ik l)/\z.fr 2= .ptr ⟨0,2,0⟩ g1 0/\z.fr 5=iv i/\z.hp ⟨0,2,0⟩= .box g1 [.sl false 1 (Ib vs),.sl false 2 (Ih ar),.sl false 5 (fs.map Sy.Fu.row)] false) ⟨0,1,Zo,Zo,rfl,Zi,Zi,Zi,Zi⟩ ?_)
 rintro m ⟨fr,hp⟩ ⟨i,g1,hm,hi,hI,f1,f2,f5,h2⟩;simp at f1 f2 f5 h2;have HI:=Lib.hid hI;clear hI;by_cases Ii:i<l.length
 ·have e1:(i:Int)<l.length:=Zo
  have hg:=Sx Ii;have w1:=Iw (k:=i) Zo;have aZ:=Bp (oY Ii);have hD:=LB (m:=Ip fs) Ii;generalize hq:l[i]=t at*;obtain⟨tk,ts,te,tt,tf⟩:=t;rw[Bi] at aZ;have n1:=Cva hX vs ar fs hv ha hf _ te (D5 _) Zo;have n2:=ih tt Zo;have n3:=ih tf Zo;clear ih;simp only[Bo] at hg;clear hq Ii aZ zN;have fq:=Gp hX vs ar fs hv ha hf ts;rw[O2] at hD;by_cases k4:tk=6
  ·subst k4
   by_cases hn:jH fs ts<0
   ·rw[Kc hn] at hD
    have hr:aU (Ip fs) l=false:=by rw[HI.out,hD];simp
    rw[hr];generalize jH fs ts=q at*;clear hr hD HI;exact ZS
   ·rw[Vn hn] at hD
    have HD:=Lib.hid hD;clear hD;generalize jH fs ts=q at*
    cases b1:dB (Ip fs) te with
    |false=>
     rw[b1] at n1;have hr:aU (Ip fs) l=false:=by rw[HI.out,HD.out,b1];try simp
     rw[hr];clear hr b1;exact ZS
    |true=>
     rw[b1] at n1
     cases b2:aU (Ip fs) tt with
     |false=>
      rw[b2] at n2;have hr:aU (Ip fs) l=false:=by rw[HI.out,HD.out,b1,b2];try simp
      rw[hr];clear hr b1 b2;exact ZS
     |true=>
      rw[b2] at n2
      cases b3:aU (Ip fs) tf with
      |false=>
       rw[b3] at n3;have hr:aU (Ip fs) l=false:=by rw[HI.out,HD.out,b1,b2,b3];try simp
       rw[hr];clear hr b1 b2 b3;exact ZS
      |true=>
       rw[b3] at n3;have HE:=Lib.hid (HI.out.trans (by rw[HD.out,b1,b2,b3];try simp));clear b1 b2 b3
       repeat' first|refine ZN ?_|refine Z2 ?_ ?_|intro h h';try simp[*,-h] at h'
       all_goals exact⟨l.length - (i+1),Zo,i+1,g1,Zo,Zo,HE.out,Zm,Zm,Zm,Zm⟩
  ·rw[show(decide (tk≠6)||(Sy.look (Ip fs) ts).isSome)=true by simp[k4]] at hD
   have HD:=Lib.hid hD;clear hD fq
   cases b1:dB (Ip fs) te with
   |false=>
    rw[b1] at n1;have hr:aU (Ip fs) l=false:=by rw[HI.out,HD.out,b1];try simp
    rw[hr];clear hr b1;exact ZS
   |true=>
    rw[b1] at n1
    cases b2:aU (Ip fs) tt with
    |false=>
     rw[b2] at n2;have hr:aU (Ip fs) l=false:=by rw[HI.out,HD.out,b1,b2];try simp
     rw[hr];clear hr b1 b2;exact ZS
    |true=>
     rw[b2] at n2
     cases b3:aU (Ip fs) tf with
     |false=>
      rw[b3] at n3;have hr:aU (Ip fs) l=false:=by rw[HI.out,HD.out,b1,b2,b3];try simp
      rw[hr];clear hr b1 b2 b3;exact ZS
     |true=>
      rw[b3] at n3;have HE:=Lib.hid (HI.out.trans (by rw[HD.out,b1,b2,b3];try simp));clear b1 b2 b3
      repeat' first|refine ZN ?_|refine Z2 ?_ ?_|intro h h';try simp[*,-h] at h'
      all_goals exact⟨l.length - (i+1),Zo,i+1,g1,Zo,Zo,HE.out,Zm,Zm,Zm,Zm⟩
 ·have e1: ¬(i:Int)<l.length:=Zo
  have hr:aU (Ip fs) l=true:=HI.out.trans (H1a Ii);rw[hr];clear hr HI ih;exact ZS
theorem K9 {X:aS}(hX: ∀f a,X.dat f a=none)(vs:List Tx)(ar:List (Tx×Int))(fs:List Sy.Fu)(hv:vs.length<=1048576)(ha:ar.length<=1048576)(hf:fs.length<=1048576): ∀(N:Nat) (l:List Sy.St),Ix l<=N->Ix l<=1048576->(Lm X).dat 32 [.agg [.sl false 1 (Ib vs),.sl false 2 (Ih ar),.sl false 5 (fs.map Sy.Fu.row)],.sl false 5 (Ik l)]=some [bv (aU (Ip fs) l)]
 |0,l,h,h2=>La hX vs ar fs hv ha hf l h2 fun l2 hk=>Zo
 |N+1,l,h,h2=>La hX vs ar fs hv ha hf l h2 fun l2 hk=>K9 hX vs ar fs hv ha hf N l2 Zo Zo
end
section
open Go Go.Ab Go.Ab.Sy
variable {t:Int}{m:List (Tx×Fu)}{l:List Sy.Ex}{fs:List Sy.Fu}{i:Nat}{X:aS}{s:Tx}
theorem Fua (m:List (Tx×Fu))(k o n:Int)(s:Tx)(l:List Sy.Ex):vC m (.mk k o n s l)=if k=1\/k=2\/k=5 then 1 else if k=3 then(if Ud m l 1 then 1 else 0) else if k=4 then(if Di m s=true/\Ud m l 1=true then 1 else 0)
   else if k=6 then(if Ud m l 1 then(if o=14\/o=15 then 2 else 1) else 0) else if k=7\/k=8\/k=9 then(if Ud m l 2 then 2 else 0) else 0:=by rw[vC]
theorem Vi(h:i<l.length):Ud m (l.drop i) t=(decide (vC m l[i]=t)&&Ud m (l.drop (i+1)) t):=by rw[Ng h,No]
theorem Qj(h: ¬i<l.length):Ud m (l.drop i) t=true:=by rw[wO Zo];simp
theorem Fja(h:jH fs s<0):Di (Ip fs) s=false:=by
 have:=Kc h;unfold Di
 cases hl:Sy.look (Ip fs) s with
 |none=>rfl
 |some f=>rw[hl] at this;cases this
theorem Vf(h: ¬jH fs s<0): ∃(k:Nat) (f:Sy.Fu),jH fs s=k/\fs[k]?=some f/\Di (Ip fs) s=f.word:=by
 obtain⟨k,f,h1,h2,h3⟩:=Dwa h;exact⟨k,f,h1,h2,by unfold Di;rw[h3]⟩
theorem Cra(hX: ∀f a,X.dat f a=none)(vs:List Tx)(ar:List (Tx×Int))(fs:List Sy.Fu)(hv:vs.length<=1048576)(ha:ar.length<=1048576)(hf:fs.length<=1048576)(l:List Sy.Ex)(hl:l.length<=1048576)(ih: ∀e∈l,(Lm X).dat 127 [.agg [.sl false 1 (Ib vs),.sl false 2 (Ih ar),.sl false 5 (fs.map Sy.Fu.row)],.agg e.row]=some [iv (vC (Ip fs) e)]):(Lm X).dat 79 [.agg [.sl false 1 (Ib vs),.sl false 2 (Ih ar),.sl false 5 (fs.map Sy.Fu.row)],.sl false 5 (In l)]=some [bv (Ud (Ip fs) l 1)]:=by
 refine fW Tryz.func79 (hX _ _) ?_;have FY:(In l).length=l.length:=by simp[Bv]
 repeat' first|refine ZN ?_|refine Z2 ?_ ?_|intro h h';try simp[*,-h] at h'
 all_goals (refine Ac (n:=l.length) (fun s0 m z=> ∃(i g1:Nat),l.length - i<=m/\i<=l.length/\Ud (Ip fs) l 1=Ud (Ip fs) (l.drop i) 1/\z.fr 1= .sl false 5 (In l)/\z.fr 2= .ptr ⟨0,2,0⟩ g1 0/\z.fr 5=iv i/\z.hp ⟨0,2,0⟩= .box g1 [.sl false 1 (Ib vs),.sl false 2 (Ih ar),.sl false 5 (fs.map Sy.Fu.row)] false) ⟨0,1,Zo,Zo,rfl,Zi,Zi,Zi,Zi⟩ ?_)
 rintro m ⟨fr,hp⟩ ⟨i,g1,hm,hi,hI,f1,f2,f5,h2⟩;simp at f1 f2 f5 h2;have HI:=Lib.hid hI;clear hI;by_cases Ii:i<l.length
 ·have e1:(i:Int)<l.length:=Zo
  have hg:=M9 Ii;have w1:=Iw (k:=i) Zo;have n1:=ih l[i] (oY Ii);have hD:=Vi (m:=Ip fs) (t:=1) Ii;clear ih;generalize hq:l[i]=t at*;obtain⟨tk,to',tn,ts,tl⟩:=t;simp only[Ag] at hg n1;clear hq Ii;have HD:=Lib.hid hD;clear hD;generalize vC (Ip fs) (.mk tk to' tn ts tl)=ty at*;by_cases b1:ty=1
  ·have HE:=Lib.hid (HI.out.trans (by rw[HD.out,sK b1,Zt]))
   subst b1
   repeat' first|refine ZN ?_|refine Z2 ?_ ?_|intro h h';try simp[*,-h] at h'
   all_goals exact⟨l.length - (i+1),Zo,i+1,g1,Zo,Zo,HE.out,Zm,Zm,Zm,Zm⟩
  ·have hr:Ud (Ip fs) l 1=false:=by rw[HI.out,HD.out,oV b1,xX]
   rw[hr];clear hr;exact ZS
 ·have e1: ¬(i:Int)<l.length:=Zo
  have hr:Ud (Ip fs) l 1=true:=HI.out.trans (Qj Ii);rw[hr];clear hr HI ih;exact ZS
theorem Cxa(hX: ∀f a,X.dat f a=none)(vs:List Tx)(ar:List (Tx×Int))(fs:List Sy.Fu)(hv:vs.length<=1048576)(ha:ar.length<=1048576)(hf:fs.length<=1048576)(l:List Sy.Ex)(hl:l.length<=1048576)(ih: ∀e∈l,(Lm X).dat 127 [.agg [.sl false 1 (Ib vs),.sl false 2 (Ih ar),.sl false 5 (fs.map Sy.Fu.row)],.agg e.row]=some [iv (vC (Ip fs) e)]):(Lm X).dat 78 [.agg [.sl false 1 (Ib vs),.sl false 2 (Ih ar),.sl false 5 (fs.map Sy.Fu.row)],.sl false 5 (In l)]=some [bv (Ud (Ip fs) l 2)]:=by
 refine fW Tryz.func78 (hX _ _) ?_;have FY:(In l).length=l.length:=by simp[Bv]
 repeat' first|refine ZN ?_|refine Z2 ?_ ?_|intro h h';try simp[*,-h] at h'
 all_goals (refine Ac (n:=l.length) (fun s0 m z=> ∃(i g1:Nat),l.length - i<=m/\i<=l.length/\Ud (Ip fs) l 2=Ud (Ip fs) (l.drop i) 2/\z.fr 1= .sl false 5 (In l)/\z.fr 2= .ptr ⟨0,2,0⟩ g1 0/\z.fr 5=iv i/\z.hp ⟨0,2,0⟩= .box g1 [.sl false 1 (Ib vs),.sl false 2 (Ih ar),.sl false 5 (fs.map Sy.Fu.row)] false) ⟨0,1,Zo,Zo,rfl,Zi,Zi,Zi,Zi⟩ ?_)
 rintro m ⟨fr,hp⟩ ⟨i,g1,hm,hi,hI,f1,f2,f5,h2⟩;simp at f1 f2 f5 h2;have HI:=Lib.hid hI;clear hI;by_cases Ii:i<l.length
 ·have e1:(i:Int)<l.length:=Zo
  have hg:=M9 Ii;have w1:=Iw (k:=i) Zo;have n1:=ih l[i] (oY Ii);have hD:=Vi (m:=Ip fs) (t:=2) Ii;clear ih;generalize hq:l[i]=t at*;obtain⟨tk,to',tn,ts,tl⟩:=t;simp only[Ag] at hg n1;clear hq Ii;have HD:=Lib.hid hD;clear hD;generalize vC (Ip fs) (.mk tk to' tn ts tl)=ty at*;by_cases b1:ty=2
  ·have HE:=Lib.hid (HI.out.trans (by rw[HD.out,sK b1,Zt]))
   subst b1
   repeat' first|refine ZN ?_|refine Z2 ?_ ?_|intro h h';try simp[*,-h] at h'
   all_goals exact⟨l.length - (i+1),Zo,i+1,g1,Zo,Zo,HE.out,Zm,Zm,Zm,Zm⟩
  ·have hr:Ud (Ip fs) l 2=false:=by rw[HI.out,HD.out,oV b1,xX]
   rw[hr];clear hr;exact ZS
 ·have e1: ¬(i:Int)<l.length:=Zo
  have hr:Ud (Ip fs) l 2=true:=HI.out.trans (Qj Ii);rw[hr];clear hr HI ih;exact ZS
theorem Type_q(hX: ∀f a,X.dat f a=none)(vs:List Tx)(ar:List (Tx×Int))(fs:List Sy.Fu)(hv:vs.length<=1048576)(ha:ar.length<=1048576)(hf:fs.length<=1048576)(k o n:Int)(s:Tx)(l:List Sy.Ex)(hW:(Lm X).dat 79 [.agg [.sl false 1 (Ib vs),.sl false 2 (Ih ar),.sl false 5 (fs.map Sy.Fu.row)],.sl false 5 (In l)]=some [bv (Ud (Ip fs) l 1)])(hB:(Lm X).dat 78 [.agg [.sl false 1 (Ib vs),.sl false 2 (Ih ar),.sl false 5 (fs.map Sy.Fu.row)],.sl false 5 (In l)]=some [bv (Ud (Ip fs) l 2)]):(Lm X).dat 127 [.agg [.sl false 1 (Ib vs),.sl false 2 (Ih ar),.sl false 5 (fs.map Sy.Fu.row)],.agg [iz k,iz o,uz n,tz s.val,.sl false 5 (In l)]]=some [iv (vC (Ip fs) (.mk k o n s l))]:=by
 refine fW Tryz.func127 (hX _ _) ?_;have fq:=Gp hX vs ar fs hv ha hf s;rw[Fua];by_cases k1:k=1
 ·subst k1
  rw[Ka Zd];exact ZS
 by_cases k2:k=2
 ·subst k2
  rw[Ka Zd];exact ZS
 by_cases k5:k=5
 ·subst k5
  rw[Ka Zd];exact ZS
 rw[Jx Zo];by_cases k3:k=3
 ·subst k3
  rw[Ka rfl];clear k1 k2 k5 hB
  cases b1:Ud (Ip fs) l 1 with
  |false=>
   rw[b1] at hW;clear b1
   repeat' first|refine ZN ?_|refine Z2 ?_ ?_|intro h h';try simp[*,-h] at h'
   all_goals (simp[*])
  |true=>
   rw[b1] at hW;clear b1
   repeat' first|refine ZN ?_|refine Z2 ?_ ?_|intro h h';try simp[*,-h] at h'
   all_goals (simp[*])
 rw[Jx k3];by_cases k4:k=4
 ·subst k4
  rw[Ka rfl];clear k1 k2 k5 k3 hB;by_cases hn:jH fs s<0
  ·rw[Fja hn]
   generalize jH fs s=q at*;have hq0: ¬0<=q:=Zo
   repeat' first|refine ZN ?_|refine Z2 ?_ ?_|intro h h';try simp[*,-h] at h'
   all_goals (simp[*])
  ·obtain⟨j,f,h1,h2,h3⟩:=Vf hn
   obtain⟨gn,gp,gl,gw,gb⟩:=f;rw[h3];simp only;have mM:=(Oh.1 h2).1;have ej:(j:Int)<fs.length:=Zo;rw[h1] at fq hn;have hg:=Bw gn gp gl gw gb;clear h3 h1 mM
   cases gw
   ·
    repeat' first|refine ZN ?_|refine Z2 ?_ ?_|intro h h';try simp[*,-h] at h'
    all_goals (simp[*])
   ·
    cases b1:Ud (Ip fs) l 1 with
    |false=>
     rw[b1] at hW;clear b1
     repeat' first|refine ZN ?_|refine Z2 ?_ ?_|intro h h';try simp[*,-h] at h'
     all_goals (simp[*])
    |true=>
     rw[b1] at hW;clear b1
     repeat' first|refine ZN ?_|refine Z2 ?_ ?_|intro h h';try simp[*,-h] at h'
     all_goals (simp[*])
 rw[Jx k4];by_cases k6:k=6
 ·subst k6
  rw[Ka rfl];clear k1 k2 k5 k3 k4 hB;by_cases o1:o=14
  ·subst o1
   cases b1:Ud (Ip fs) l 1 with
   |false=>
    rw[b1] at hW;clear b1
    repeat' first|refine ZN ?_|refine Z2 ?_ ?_|intro h h';try simp[*,-h] at h'
    all_goals (simp[*])
   |true=>
    rw[b1] at hW;clear b1
    repeat' first|refine ZN ?_|refine Z2 ?_ ?_|intro h h';try simp[*,-h] at h'
    all_goals (simp[*])
  by_cases o2:o=15
  ·subst o2
   cases b1:Ud (Ip fs) l 1 with
   |false=>
    rw[b1] at hW;clear b1
    repeat' first|refine ZN ?_|refine Z2 ?_ ?_|intro h h';try simp[*,-h] at h'
    all_goals (simp[*])
   |true=>
    rw[b1] at hW;clear b1
    repeat' first|refine ZN ?_|refine Z2 ?_ ?_|intro h h';try simp[*,-h] at h'
    all_goals (simp[*])
  cases b1:Ud (Ip fs) l 1 with
  |false=>
   rw[b1] at hW;clear b1
   repeat' first|refine ZN ?_|refine Z2 ?_ ?_|intro h h';try simp[*,-h] at h'
   all_goals (simp[*])
  |true=>
   rw[b1] at hW;clear b1
   repeat' first|refine ZN ?_|refine Z2 ?_ ?_|intro h h';try simp[*,-h] at h'
   all_goals (simp[*])
 rw[Jx k6];by_cases k7:k=7
 ·subst k7
  rw[Ka Zd]
  cases b1:Ud (Ip fs) l 2 with
  |false=>
   rw[b1] at hB;clear b1
   repeat' first|refine ZN ?_|refine Z2 ?_ ?_|intro h h';try simp[*,-h] at h'
   all_goals (simp[*])
  |true=>
   rw[b1] at hB;clear b1
   repeat' first|refine ZN ?_|refine Z2 ?_ ?_|intro h h';try simp[*,-h] at h'
   all_goals (simp[*])
 by_cases k8:k=8
 ·subst k8
  rw[Ka Zd]
  cases b1:Ud (Ip fs) l 2 with
  |false=>
   rw[b1] at hB;clear b1
   repeat' first|refine ZN ?_|refine Z2 ?_ ?_|intro h h';try simp[*,-h] at h'
   all_goals (simp[*])
  |true=>
   rw[b1] at hB;clear b1
   repeat' first|refine ZN ?_|refine Z2 ?_ ?_|intro h h';try simp[*,-h] at h'
   all_goals (simp[*])
 by_cases k9:k=9
 ·subst k9
  rw[Ka Zd]
  cases b1:Ud (Ip fs) l 2 with
  |false=>
   rw[b1] at hB;clear b1
   repeat' first|refine ZN ?_|refine Z2 ?_ ?_|intro h h';try simp[*,-h] at h'
   all_goals (simp[*])
  |true=>
   rw[b1] at hB;clear b1
   repeat' first|refine ZN ?_|refine Z2 ?_ ?_|intro h h';try simp[*,-h] at h'
   all_goals (simp[*])
 rw[Jx Zo];exact ZS
theorem A5a {X:aS}(hX: ∀f a,X.dat f a=none)(vs:List Tx)(ar:List (Tx×Int))(fs:List Sy.Fu)(hv:vs.length<=1048576)(ha:ar.length<=1048576)(hf:fs.length<=1048576): ∀(N:Nat) (e:Sy.Ex),e.size<=N->e.size<=1048576->(Lm X).dat 127 [.agg [.sl false 1 (Ib vs),.sl false 2 (Ih ar),.sl false 5 (fs.map Sy.Fu.row)],.agg e.row]=some [iv (vC (Ip fs) e)]
 |0,e,h,h2=>by have:=e.size_pos;omega
 |N+1,.mk k o n s l,h,h2=>by
  rw[A0] at h h2;rw[Ag];have hl:=A4 l;have ih: ∀e∈l,(Lm X).dat 127 [.agg [.sl false 1 (Ib vs),.sl false 2 (Ih ar),.sl false 5 (fs.map Sy.Fu.row)],.agg e.row]=some [iv (vC (Ip fs) e)]:=fun e he=>A5a hX vs ar fs hv ha hf N e (by have:=Ba he;omega) (by have:=Ba he;omega)
  exact Type_q hX vs ar fs hv ha hf k o n s l (Cra hX vs ar fs hv ha hf l Zo ih) (Cxa hX vs ar fs hv ha hf l Zo ih)
theorem NS(hX: ∀f a,X.dat f a=none)(vs:List Tx)(ar:List (Tx×Int))(fs:List Sy.Fu)(hv:vs.length<=1048576)(ha:ar.length<=1048576)(hf:fs.length<=1048576)(l:List Sy.Ex)(h:Uv l<=1048576):(Lm X).dat 79 [.agg [.sl false 1 (Ib vs),.sl false 2 (Ih ar),.sl false 5 (fs.map Sy.Fu.row)],.sl false 5 (In l)]=some [bv (Ud (Ip fs) l 1)]:=
 Cra hX vs ar fs hv ha hf l (by have:=A4 l;omega) fun e he=>A5a hX vs ar fs hv ha hf _ e (D5 _) (by have:=Ba he;omega)
theorem OB(hX: ∀f a,X.dat f a=none)(vs:List Tx)(ar:List (Tx×Int))(fs:List Sy.Fu)(hv:vs.length<=1048576)(ha:ar.length<=1048576)(hf:fs.length<=1048576)(l:List Sy.Ex)(h:Uv l<=1048576):(Lm X).dat 78 [.agg [.sl false 1 (Ib vs),.sl false 2 (Ih ar),.sl false 5 (fs.map Sy.Fu.row)],.sl false 5 (In l)]=some [bv (Ud (Ip fs) l 2)]:=
 Cxa hX vs ar fs hv ha hf l (by have:=A4 l;omega) fun e he=>A5a hX vs ar fs hv ha hf _ e (D5 _) (by have:=Ba he;omega)
end
section
open Go Go.Ab Go.Ab.Sy
variable {X:aS}
theorem ex_at {l:List Sy.Ex}{i:Nat}(h:i<l.length):(In l)[i]?=some l[i].row:=by simp[Bv,h]
theorem Cia(hX: ∀f a,X.dat f a=none)(l:List Sy.Ex)(v:Nat)(hl:l.length<=2199023255552)(ih: ∀e∈l,(Lm X).dat 190 [.agg e.row,iv v]=some [bv (qE U5 v e)]):(Lm X).dat 124 [.sl false 5 (In l),iv v]=some [bv (tK U5 v l)]:=by
 refine fW Tryz.func124 (hX _ _) ?_
 repeat' first|refine ZN ?_|refine Z2 ?_ ?_|intro h h';try simp[*,-h] at h'
 all_goals (refine Ac (n:=l.length) (fun s0 m z=> ∃i:Nat,l.length - i<=m/\i<=l.length/\tK U5 v l=tK U5 v (l.drop i)/\z.fr 0= .sl false 5 (In l)/\z.fr 1=iv v/\z.fr 5=iv i) ⟨0,Zo,Zo,rfl,Zi,Zi,Zi⟩ ?_)
 rintro m ⟨fr,hp⟩ ⟨i,hm,hi,hI,f0,f1,f5⟩;simp at f0 f1 f5;rw[hI];have HI:=Lib.hid hI;clear hI;by_cases Ii:i<l.length
 ·have e1:(i:Int)<l.length:=Zo
  have hg:=ex_at Ii;have iL: ∀h:i<(In l).length,(In l)[i]'h=l[i].row:=fun h=>by simp[Bv]
  have hd:tK U5 v (l.drop i)=(qE U5 v l[i]&&tK U5 v (l.drop (i+1))):=by rw[Ng Ii,tK]
  have nt:=ih l[i] (oY Ii);rw[hd];have HD:=Lib.hid hd;clear hd ih;have w1:=Iw (k:=i) Zo;generalize hq:l[i]=t at*;obtain⟨tk,to',tn,ts,tl⟩:=t;simp only[Ag] at hg iL nt
  cases hb:qE U5 v (.mk tk to' tn ts tl) with
  |true=>
   rw[hb] at nt;have HE:=Lib.hid (HI.out.trans (HD.out.trans (by rw[hb,Zt])));rw[Zt];generalize hr:tK U5 v (l.drop (i+1))=r at*;clear hb
   repeat' first|refine ZN ?_|refine Z2 ?_ ?_|intro h h';try simp[*,-h] at h'
   all_goals exact⟨l.length - (i+1),Zo,i+1,Zo,Zo,by rw[hr],Zm,Zm,Zm⟩
  |false=>
   rw[hb] at nt;rw[xX];clear hb;exact ZS
 ·have e1: ¬(i:Int)<l.length:=Zo
  have hb:tK U5 v (l.drop i)=true:=by rw[wO Zo];rfl
  rw[hb];clear hb ih;exact ZS
theorem J5a(hX: ∀f a,X.dat f a=none)(k o n:Int)(s:Tx)(l:List Sy.Ex)(v:Nat)(hv:v<=1099511627776)(ih:(Lm X).dat 124 [.sl false 5 (In l),iv ((v:Int)+1)]=some [bv (tK U5 (v+1) l)]):(Lm X).dat 190 [.agg [iz k,iz o,uz n,tz s.1,.sl false 5 (In l)],iv v]=some [bv (qE U5 v (.mk k o n s l))]:=by
 refine fW Tryz.func190 (hX _ _) ?_;have nq:=Nf hX s.val (Ac7 s.2 Zd);have w1:=Iw (k:=v) Zo;have oG:s=gD↔s.val=⟨#[]⟩:=⟨fun h=>congrArg Tx.val h,fun h=>Tx.ext h⟩;rw[qE];have HS:=Lib.hid oG;clear oG;by_cases hv24:24<v
 ·have e1:(24:Int)<v:=Zo
  rw[Ka (.inl hv24)];clear nq ih;exact ZS
 have e1: ¬(24:Int)<v:=Zo;by_cases k1:k=1
 ·subst k1
  repeat' first|refine ZN ?_|refine Z2 ?_ ?_|intro h h';try simp[*,-h] at h'
  all_goals have oG:=HS.out
  all_goals clear HS
  all_goals (first|(simp[Io,U5, *];done)|(simp_all[Io,U5];done)|(by_cases hl:l.length=0<;>simp[Io,U5,hl, *];done)|(have hl:l.length=1:=Zo;simp[Io,U5,hl, *];done)|(have hl:l.length=2:=Zo;simp[Io,U5,hl, *];done)|(have hl: ¬l.length=1:=Zo;simp[Io,U5,hl, *];done)|(have hl: ¬l.length=2:=Zo;simp[Io,U5,hl, *];done)|(have hl:l.length<=6:=Zo;simp[Io,U5,hl, *];done)|(have hl: ¬l.length<=6:=Zo;simp[Io,U5,hl, *];done))
 by_cases k2:k=2
 ·subst k2
  repeat' first|refine ZN ?_|refine Z2 ?_ ?_|intro h h';try simp[*,-h] at h'
  all_goals have oG:=HS.out
  all_goals clear HS
  all_goals (first|(simp[Io,U5, *];done)|(simp_all[Io,U5];done)|(by_cases hl:l.length=0<;>simp[Io,U5,hl, *];done)|(have hl:l.length=1:=Zo;simp[Io,U5,hl, *];done)|(have hl:l.length=2:=Zo;simp[Io,U5,hl, *];done)|(have hl: ¬l.length=1:=Zo;simp[Io,U5,hl, *];done)|(have hl: ¬l.length=2:=Zo;simp[Io,U5,hl, *];done)|(have hl:l.length<=6:=Zo;simp[Io,U5,hl, *];done)|(have hl: ¬l.length<=6:=Zo;simp[Io,U5,hl, *];done))
 by_cases k3:k=3
 ·subst k3
  repeat' first|refine ZN ?_|refine Z2 ?_ ?_|intro h h';try simp[*,-h] at h'
  all_goals have oG:=HS.out
  all_goals clear HS
  all_goals (first|(simp[Io,U5, *];done)|(simp_all[Io,U5];done)|(by_cases hl:l.length=0<;>simp[Io,U5,hl, *];done)|(have hl:l.length=1:=Zo;simp[Io,U5,hl, *];done)|(have hl:l.length=2:=Zo;simp[Io,U5,hl, *];done)|(have hl: ¬l.length=1:=Zo;simp[Io,U5,hl, *];done)|(have hl: ¬l.length=2:=Zo;simp[Io,U5,hl, *];done)|(have hl:l.length<=6:=Zo;simp[Io,U5,hl, *];done)|(have hl: ¬l.length<=6:=Zo;simp[Io,U5,hl, *];done))
 by_cases k4:k=4
 ·subst k4
  repeat' first|refine ZN ?_|refine Z2 ?_ ?_|intro h h';try simp[*,-h] at h'
  all_goals have oG:=HS.out
  all_goals clear HS
  all_goals (first|(simp[Io,U5, *];done)|(simp_all[Io,U5];done)|(by_cases hl:l.length=0<;>simp[Io,U5,hl, *];done)|(have hl:l.length=1:=Zo;simp[Io,U5,hl, *];done)|(have hl:l.length=2:=Zo;simp[Io,U5,hl, *];done)|(have hl: ¬l.length=1:=Zo;simp[Io,U5,hl, *];done)|(have hl: ¬l.length=2:=Zo;simp[Io,U5,hl, *];done)|(have hl:l.length<=6:=Zo;simp[Io,U5,hl, *];done)|(have hl: ¬l.length<=6:=Zo;simp[Io,U5,hl, *];done))
 by_cases k5:k=5
 ·subst k5
  repeat' first|refine ZN ?_|refine Z2 ?_ ?_|intro h h';try simp[*,-h] at h'
  all_goals have oG:=HS.out
  all_goals clear HS
  all_goals (first|(simp[Io,U5, *];done)|(simp_all[Io,U5];done)|(by_cases hl:l.length=0<;>simp[Io,U5,hl, *];done)|(have hl:l.length=1:=Zo;simp[Io,U5,hl, *];done)|(have hl:l.length=2:=Zo;simp[Io,U5,hl, *];done)|(have hl: ¬l.length=1:=Zo;simp[Io,U5,hl, *];done)|(have hl: ¬l.length=2:=Zo;simp[Io,U5,hl, *];done)|(have hl:l.length<=6:=Zo;simp[Io,U5,hl, *];done)|(have hl: ¬l.length<=6:=Zo;simp[Io,U5,hl, *];done))
 by_cases k6:k=6
 ·subst k6
  repeat' first|refine ZN ?_|refine Z2 ?_ ?_|intro h h';try simp[*,-h] at h'
  all_goals have oG:=HS.out
  all_goals clear HS
  all_goals (first|(simp[Io,U5, *];done)|(simp_all[Io,U5];done)|(by_cases hl:l.length=0<;>simp[Io,U5,hl, *];done)|(have hl:l.length=1:=Zo;simp[Io,U5,hl, *];done)|(have hl:l.length=2:=Zo;simp[Io,U5,hl, *];done)|(have hl: ¬l.length=1:=Zo;simp[Io,U5,hl, *];done)|(have hl: ¬l.length=2:=Zo;simp[Io,U5,hl, *];done)|(have hl:l.length<=6:=Zo;simp[Io,U5,hl, *];done)|(have hl: ¬l.length<=6:=Zo;simp[Io,U5,hl, *];done))
 by_cases k7:k=7
 ·subst k7
  repeat' first|refine ZN ?_|refine Z2 ?_ ?_|intro h h';try simp[*,-h] at h'
  all_goals have oG:=HS.out
  all_goals clear HS
  all_goals (first|(simp[Io,U5, *];done)|(simp_all[Io,U5];done)|(by_cases hl:l.length=0<;>simp[Io,U5,hl, *];done)|(have hl:l.length=1:=Zo;simp[Io,U5,hl, *];done)|(have hl:l.length=2:=Zo;simp[Io,U5,hl, *];done)|(have hl: ¬l.length=1:=Zo;simp[Io,U5,hl, *];done)|(have hl: ¬l.length=2:=Zo;simp[Io,U5,hl, *];done)|(have hl:l.length<=6:=Zo;simp[Io,U5,hl, *];done)|(have hl: ¬l.length<=6:=Zo;simp[Io,U5,hl, *];done))
 by_cases k8:k=8
 ·subst k8
  repeat' first|refine ZN ?_|refine Z2 ?_ ?_|intro h h';try simp[*,-h] at h'
  all_goals have oG:=HS.out
  all_goals clear HS
  all_goals (first|(simp[Io,U5, *];done)|(simp_all[Io,U5];done)|(by_cases hl:l.length=0<;>simp[Io,U5,hl, *];done)|(have hl:l.length=1:=Zo;simp[Io,U5,hl, *];done)|(have hl:l.length=2:=Zo;simp[Io,U5,hl, *];done)|(have hl: ¬l.length=1:=Zo;simp[Io,U5,hl, *];done)|(have hl: ¬l.length=2:=Zo;simp[Io,U5,hl, *];done)|(have hl:l.length<=6:=Zo;simp[Io,U5,hl, *];done)|(have hl: ¬l.length<=6:=Zo;simp[Io,U5,hl, *];done))
 by_cases k9:k=9
 ·subst k9
  repeat' first|refine ZN ?_|refine Z2 ?_ ?_|intro h h';try simp[*,-h] at h'
  all_goals have oG:=HS.out
  all_goals clear HS
  all_goals (first|(simp[Io,U5, *];done)|(simp_all[Io,U5];done)|(by_cases hl:l.length=0<;>simp[Io,U5,hl, *];done)|(have hl:l.length=1:=Zo;simp[Io,U5,hl, *];done)|(have hl:l.length=2:=Zo;simp[Io,U5,hl, *];done)|(have hl: ¬l.length=1:=Zo;simp[Io,U5,hl, *];done)|(have hl: ¬l.length=2:=Zo;simp[Io,U5,hl, *];done)|(have hl:l.length<=6:=Zo;simp[Io,U5,hl, *];done)|(have hl: ¬l.length<=6:=Zo;simp[Io,U5,hl, *];done))
 have iC:Io k=false:=by simp[Io,k2,k3,k4]
 repeat' first|refine ZN ?_|refine Z2 ?_ ?_|intro h h';try simp[*,-h] at h'
 all_goals (first|(simp[iC, *];done)|(simp_all;done))
theorem Xr {X:aS}(hX: ∀f a,X.dat f a=none): ∀(N:Nat) (e:Sy.Ex),e.size<=N-> ∀v:Nat,v+e.size<=1099511627776->(Lm X).dat 190 [.agg e.row,iv v]=some [bv (qE U5 v e)]
 |0,e,h,v,_=>by have:=e.size_pos;omega
 |N+1,.mk k o n s l,h,v,hv=>by
  simp only[A0] at h hv;rw[Ag];have hl:=A4 l;exact J5a hX k o n s l v Zo (Cia hX l (v+1) Zo fun e he=>Xr hX N e (by have:=Ba he;omega) (v+1) (by have:=Ba he;omega))
theorem Eva(hX: ∀f a,X.dat f a=none)(l:List Sy.Ex)(v:Nat)(h:v+Uv l<=1099511627776):(Lm X).dat 124 [.sl false 5 (In l),iv v]=some [bv (tK U5 v l)]:=
 Cia hX l v (by have:=A4 l;omega) fun e he=>Xr hX _ e (D5 _) v (by have:=Ba he;omega)
end
end Go.Proofs.YtggghdmdjpianaaGreatDoor
