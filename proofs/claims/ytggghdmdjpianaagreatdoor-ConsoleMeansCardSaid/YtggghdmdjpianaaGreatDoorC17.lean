/- A part of the proof: Sg, Sh, Si, Sj, Sk, Sl. -/
import Derived.Test.YtggghdmdjpianaaGreatDoorC16
set_option linter.unusedSimpArgs false
set_option linter.unusedVariables false
set_option maxRecDepth 200000
set_option maxHeartbeats 8000000
namespace Go.Proofs.YtggghdmdjpianaaGreatDoor
section
open Go Go.Ab Go.Ab.Sy
theorem Dz {T:Type}(l:List (Tx×T))(x:Tx×T)(m:List (Tx×T)×Bool):Ua (l++[x]) m=jL (Ua l m) x:=by simp[Ua]
theorem J2 {T:Type}(l l2:List (Tx×T))(m:List (Tx×T)×Bool):Ua (l++l2) m=Ua l2 (Ua l m):=by simp[Ua]
theorem Ha {α β:Type}(f:Int->α->β)(n:Nat)(l:List α)(i:Nat){a:α}(h:l[i]?=some a):num f n (l.take (i+1))=num f n (l.take i)++[f ((n+i:Nat):Int) a]:=by
 have hi:i<l.length:=(Oh.1 h).1;rw[AU,h];show num f n (l.take i++[a])=_;rw[Tj];simp only[num,sL,AD (Nat.le_of_lt hi)]
theorem Ys {l:List Tx}{i:Nat}{s:Tx}(h:l[i]?=some s):(Ib l)[i]?=some [tz s.val]:=by simp[h]
theorem Ema (vs:List Tx)(ar:List (Tx×Int))(fs:List Fu)(hs:vs.length+ar.length+cV fs<=1048576):(Lm X47).dat 228 [.agg [.sl false 1 (Ib vs),.sl false 2 (Ih ar),.sl false 5 (fs.map Fu.row)]]=some [lL nP (lS ⟨vs,ar,fs⟩).1,bz (lS ⟨vs,ar,fs⟩).2]:=by
 refine fW Tryz.func228 (B3 _ _) ?_;have AL:=Bq fs
 repeat' first|refine ZN ?_|refine Z2 ?_ ?_|intro h h';try simp[*,-h] at h'
 refine Ac (n:=vs.length) (fun s0 m z=> ∃i:Nat,vs.length - i<=m/\i<=vs.length/\z.fr 1=s0.fr 1/\z.hp ⟨0,1,0⟩=s0.hp ⟨0,1,0⟩/\z.fr 4= .ptr ⟨0,4,0⟩ 1 0/\z.fr 5= .ptr ⟨0,5,0⟩ 1 0/\z.fr 6= .fn 303 [.ptr ⟨0,4,0⟩ 1 0,.ptr ⟨0,5,0⟩ 1 0]/\z.fr 16= .sl false 1 (Ib vs)/\z.fr 17=iv vs.length/\z.fr 18=iv i/\z.hp ⟨0,4,0⟩= .box 1 [.mp ⟨0,13,0⟩ 1] false/\z.hp ⟨0,5,0⟩= .box 1 [bz (Ua (num (fun i (s:Tx)=>(s,((2:Int),i))) 0 (vs.take i)) ([],true)).2] false/\z.hp ⟨0,13,0⟩=kF nP 1 (Ua (num (fun i (s:Tx)=>(s,((2:Int),i))) 0 (vs.take i)) ([],true)).1) ⟨0,Zo,Zo,rfl,rfl,Zm,Zm,Zm,Zm,by simp[*,Ih],Zi,Zm,(by first|(simp[*,Ua,num];done)|(simp[*,Ua,num];rfl)),(by first|(simp[*,Ua,num];done)|(simp[*,Ua,num];rfl))⟩ ?_;rintro m ⟨fr,hp⟩ ⟨i,hm,hi,f1,b1,f4,f5,f6,fl_,fn_,fi_,h4,h5,hq⟩;simp at f1 b1;simp only at f4 f5 f6 fl_ fn_ fi_ h4 h5 hq;by_cases Ii:i<vs.length
 ·have e1:(i:Int)<vs.length:=Zo
  have hg:vs[i]?=some vs[i]:=Bs Ii;have oF:IntKind.i64.wrap ((i:Int)+1)=(i:Int)+1:=Iw Zo;generalize vs[i]=t at*;have jJ:=Ys hg;have iB:=Ha (fun i (s:Tx)=>(s,((2:Int),i))) 0 vs i hg;have hpl:vs.length<=1048576:=Zo;generalize hS:Ua (num (fun i (s:Tx)=>(s,((2:Int),i))) 0 (vs.take i)) ([],true)=S at*;obtain⟨ms,us⟩:=S;simp only at h5 hq;clear hg Ii
  repeat' (first|refine ZN ?_|refine Z2 ?_ ?_|(intro h h';try simp[*,-h] at h')|((with_reducible apply Ap (f:=303));exact Zv;apply addG;exact Zc;exact Zc;exact Zc;rintro _ If ⟨rfl,sS,h52,rU⟩)|fail)
  refine⟨vs.length - (i+1),Zo,i+1,Zo,Zo,Zm,Zm,Zm,Zm,Zm,Zm,Zm,Zm,Zm,?_,?_⟩
  all_goals rw[iB,Dz,hS]
  ·(first|(simp[*];done)|(simp[*];rfl))
  ·(first|(simp[*];done)|(simp[*];rfl))
 have e1: ¬(i:Int)<vs.length:=Zo;have hz:vs.take i=vs:=Kb Zo;rw[hz] at h5 hq;generalize hS1:Ua (num (fun i (s:Tx)=>(s,((2:Int),i))) 0 vs) ([],true)=S1 at*;clear hz
 repeat' first|refine ZN ?_|refine Z2 ?_ ?_|intro h h';try simp[*,-h] at h'
 refine Ac (n:=ar.length) (fun s0 m z=> ∃i:Nat,ar.length - i<=m/\i<=ar.length/\z.fr 1=s0.fr 1/\z.hp ⟨0,1,0⟩=s0.hp ⟨0,1,0⟩/\z.fr 4= .ptr ⟨0,4,0⟩ 1 0/\z.fr 5= .ptr ⟨0,5,0⟩ 1 0/\z.fr 6= .fn 303 [.ptr ⟨0,4,0⟩ 1 0,.ptr ⟨0,5,0⟩ 1 0]/\z.fr 30= .sl false 2 (Ih ar)/\z.fr 31=iv ar.length/\z.fr 32=iv i/\z.hp ⟨0,4,0⟩= .box 1 [.mp ⟨0,13,0⟩ 1] false/\z.hp ⟨0,5,0⟩= .box 1 [bz (Ua (num (fun i (a:Tx×Int)=>(a.1,((3:Int),i))) 0 (ar.take i)) S1).2] false/\z.hp ⟨0,13,0⟩=kF nP 1 (Ua (num (fun i (a:Tx×Int)=>(a.1,((3:Int),i))) 0 (ar.take i)) S1).1) ⟨0,Zo,Zo,rfl,rfl,Zm,Zm,Zm,Zm,by simp[*,Ih],Zi,Zm,(by first|(simp[*,Ua,num];done)|(simp[*,Ua,num];rfl)),(by first|(simp[*,Ua,num];done)|(simp[*,Ua,num];rfl))⟩ ?_;rintro m ⟨fr,hp⟩ ⟨i,hm,hi,f1,b1,f4,f5,f6,fl_,fn_,fi_,h4,h5,hq⟩;simp at f1 b1;simp only at f4 f5 f6 fl_ fn_ fi_ h4 h5 hq;by_cases Ii:i<ar.length
 ·have e1:(i:Int)<ar.length:=Zo
  have hg:ar[i]?=some ar[i]:=Bs Ii;have oF:IntKind.i64.wrap ((i:Int)+1)=(i:Int)+1:=Iw Zo;generalize ar[i]=t at*;have jJ:=EH hg;have iB:=Ha (fun i (a:Tx×Int)=>(a.1,((3:Int),i))) 0 ar i hg;have hpl:ar.length<=1048576:=Zo;obtain⟨t1,t2⟩:=t;generalize hS:Ua (num (fun i (a:Tx×Int)=>(a.1,((3:Int),i))) 0 (ar.take i)) S1=S at*;obtain⟨ms,us⟩:=S;simp only at h5 hq;clear hg Ii
  repeat' (first|refine ZN ?_|refine Z2 ?_ ?_|(intro h h';try simp[*,-h] at h')|((with_reducible apply Ap (f:=303));exact Zv;apply addG;exact Zc;exact Zc;exact Zc;rintro _ If ⟨rfl,sS,h52,rU⟩)|fail)
  refine⟨ar.length - (i+1),Zo,i+1,Zo,Zo,Zm,Zm,Zm,Zm,Zm,Zm,Zm,Zm,Zm,?_,?_⟩
  all_goals rw[iB,Dz,hS]
  ·(first|(simp[*];done)|(simp[*];rfl))
  ·(first|(simp[*];done)|(simp[*];rfl))
 have e1: ¬(i:Int)<ar.length:=Zo;have hz:ar.take i=ar:=Kb Zo;rw[hz] at h5 hq;generalize hS2:Ua (num (fun i (a:Tx×Int)=>(a.1,((3:Int),i))) 0 ar) S1=S2 at*;clear hz
 repeat' first|refine ZN ?_|refine Z2 ?_ ?_|intro h h';try simp[*,-h] at h'
 refine Ac (n:=fs.length) (fun s0 m z=> ∃i:Nat,fs.length - i<=m/\i<=fs.length/\z.fr 1=s0.fr 1/\z.hp ⟨0,1,0⟩=s0.hp ⟨0,1,0⟩/\z.fr 4= .ptr ⟨0,4,0⟩ 1 0/\z.fr 5= .ptr ⟨0,5,0⟩ 1 0/\z.fr 6= .fn 303 [.ptr ⟨0,4,0⟩ 1 0,.ptr ⟨0,5,0⟩ 1 0]/\z.fr 45= .sl false 5 (fs.map Fu.row)/\z.fr 46=iv fs.length/\z.fr 47=iv i/\z.hp ⟨0,4,0⟩= .box 1 [.mp ⟨0,13,0⟩ 1] false/\z.hp ⟨0,5,0⟩= .box 1 [bz (Ua (num (fun i (f:Fu)=>(f.name,((4:Int),i))) 0 (fs.take i)) S2).2] false/\z.hp ⟨0,13,0⟩=kF nP 1 (Ua (num (fun i (f:Fu)=>(f.name,((4:Int),i))) 0 (fs.take i)) S2).1) ⟨0,Zo,Zo,rfl,rfl,Zm,Zm,Zm,Zm,by simp[*,Ih],Zi,Zm,(by first|(simp[*,Ua,num];done)|(simp[*,Ua,num];rfl)),(by first|(simp[*,Ua,num];done)|(simp[*,Ua,num];rfl))⟩ ?_;rintro m ⟨fr,hp⟩ ⟨i,hm,hi,f1,b1,f4,f5,f6,fl_,fn_,fi_,h4,h5,hq⟩;simp at f1 b1;simp only at f4 f5 f6 fl_ fn_ fi_ h4 h5 hq;by_cases Ii:i<fs.length
 ·have e1:(i:Int)<fs.length:=Zo
  have hg:fs[i]?=some fs[i]:=Bs Ii;have oF:IntKind.i64.wrap ((i:Int)+1)=(i:Int)+1:=Iw Zo;generalize fs[i]=t at*;have jJ:=Hj hg;have iB:=Ha (fun i (f:Fu)=>(f.name,((4:Int),i))) 0 fs i hg;have hpl:fs.length<=1048576:=Zo;obtain⟨t1,t2,t3,t4,t5⟩:=t;simp only[A8] at jJ;generalize hS:Ua (num (fun i (f:Fu)=>(f.name,((4:Int),i))) 0 (fs.take i)) S2=S at*;obtain⟨ms,us⟩:=S;simp only at h5 hq;clear hg Ii
  repeat' (first|refine ZN ?_|refine Z2 ?_ ?_|(intro h h';try simp[*,-h] at h')|((with_reducible apply Ap (f:=303));exact Zv;apply addG;exact Zc;exact Zc;exact Zc;rintro _ If ⟨rfl,sS,h52,rU⟩)|fail)
  refine⟨fs.length - (i+1),Zo,i+1,Zo,Zo,Zm,Zm,Zm,Zm,Zm,Zm,Zm,Zm,Zm,?_,?_⟩
  all_goals rw[iB,Dz,hS]
  ·(first|(simp[*];done)|(simp[*];rfl))
  ·(first|(simp[*];done)|(simp[*];rfl))
 have e1: ¬(i:Int)<fs.length:=Zo;have hz:fs.take i=fs:=Kb Zo;rw[hz] at h5 hq;generalize hS3:Ua (num (fun i (f:Fu)=>(f.name,((4:Int),i))) 0 fs) S2=S3 at*;clear hz;unfold kF at hq
 repeat' first|refine ZN ?_|refine Z2 ?_ ?_|intro h h';try simp[*,-h] at h'
 have ho:lS ⟨vs,ar,fs⟩=S3:=by
  unfold lS vH;rw[J2,J2,hS1,hS2,hS3]
 rw[ho];rfl
theorem Hqa (nm:Tx)(ps ls:List Tx)(w:Bool)(b:List Sy.St)(hs:ps.length+ls.length<=1048576):(Lm X47).dat 229 [.agg [tz nm.val,.sl false 1 (Ib ps),.sl false 1 (Ib ls),bz w,.sl false 5 (Ik b)]]=some [lL nP (wW ⟨nm,ps,ls,w,b⟩).1,bz (wW ⟨nm,ps,ls,w,b⟩).2]:=by
 refine fW Tryz.func229 (B3 _ _) ?_
 repeat' first|refine ZN ?_|refine Z2 ?_ ?_|intro h h';try simp[*,-h] at h'
 refine Ac (n:=ps.length) (fun s0 m z=> ∃i:Nat,ps.length - i<=m/\i<=ps.length/\z.fr 1=s0.fr 1/\z.hp ⟨0,1,0⟩=s0.hp ⟨0,1,0⟩/\z.fr 4= .ptr ⟨0,4,0⟩ 1 0/\z.fr 5= .ptr ⟨0,5,0⟩ 1 0/\z.fr 6= .fn 304 [.ptr ⟨0,4,0⟩ 1 0,.ptr ⟨0,5,0⟩ 1 0]/\z.fr 14= .sl false 1 (Ib ps)/\z.fr 15=iv ps.length/\z.fr 16=iv i/\z.hp ⟨0,4,0⟩= .box 1 [.mp ⟨0,11,0⟩ 1] false/\z.hp ⟨0,5,0⟩= .box 1 [bz (Ua (num (fun i (s:Tx)=>(s,((1:Int),i))) 0 (ps.take i)) ([],true)).2] false/\z.hp ⟨0,11,0⟩=kF nP 1 (Ua (num (fun i (s:Tx)=>(s,((1:Int),i))) 0 (ps.take i)) ([],true)).1) ⟨0,Zo,Zo,rfl,rfl,Zm,Zm,Zm,Zm,by simp[*,Ih],Zi,Zm,(by first|(simp[*,Ua,num];done)|(simp[*,Ua,num];rfl)),(by first|(simp[*,Ua,num];done)|(simp[*,Ua,num];rfl))⟩ ?_;rintro m ⟨fr,hp⟩ ⟨i,hm,hi,f1,b1,f4,f5,f6,fl_,fn_,fi_,h4,h5,hq⟩;simp at f1 b1;simp only at f4 f5 f6 fl_ fn_ fi_ h4 h5 hq;by_cases Ii:i<ps.length
 ·have e1:(i:Int)<ps.length:=Zo
  have hg:ps[i]?=some ps[i]:=Bs Ii;have oF:IntKind.i64.wrap ((i:Int)+1)=(i:Int)+1:=Iw Zo;generalize ps[i]=t at*;have jJ:=Ys hg;have iB:=Ha (fun i (s:Tx)=>(s,((1:Int),i))) 0 ps i hg;have hpl:ps.length<=1048576:=Zo;generalize hS:Ua (num (fun i (s:Tx)=>(s,((1:Int),i))) 0 (ps.take i)) ([],true)=S at*;obtain⟨ms,us⟩:=S;simp only at h5 hq;clear hg Ii
  repeat' (first|refine ZN ?_|refine Z2 ?_ ?_|(intro h h';try simp[*,-h] at h')|((with_reducible apply Ap (f:=304));exact Zv;apply addL;exact Zc;exact Zc;exact Zc;rintro _ If ⟨rfl,sS,h52,rU⟩)|fail)
  refine⟨ps.length - (i+1),Zo,i+1,Zo,Zo,Zm,Zm,Zm,Zm,Zm,Zm,Zm,Zm,Zm,?_,?_⟩
  all_goals rw[iB,Dz,hS]
  ·(first|(simp[*];done)|(simp[*];rfl))
  ·(first|(simp[*];done)|(simp[*];rfl))
 have e1: ¬(i:Int)<ps.length:=Zo;have hz:ps.take i=ps:=Kb Zo;rw[hz] at h5 hq;generalize hS1:Ua (num (fun i (s:Tx)=>(s,((1:Int),i))) 0 ps) ([],true)=S1 at*;clear hz
 repeat' first|refine ZN ?_|refine Z2 ?_ ?_|intro h h';try simp[*,-h] at h'
 refine Ac (n:=ls.length) (fun s0 m z=> ∃i:Nat,ls.length - i<=m/\i<=ls.length/\z.fr 1=s0.fr 1/\z.hp ⟨0,1,0⟩=s0.hp ⟨0,1,0⟩/\z.fr 4= .ptr ⟨0,4,0⟩ 1 0/\z.fr 5= .ptr ⟨0,5,0⟩ 1 0/\z.fr 6= .fn 304 [.ptr ⟨0,4,0⟩ 1 0,.ptr ⟨0,5,0⟩ 1 0]/\z.fr 27= .sl false 1 (Ib ls)/\z.fr 28=iv ls.length/\z.fr 29=iv i/\z.hp ⟨0,4,0⟩= .box 1 [.mp ⟨0,11,0⟩ 1] false/\z.hp ⟨0,5,0⟩= .box 1 [bz (Ua (num (fun i (s:Tx)=>(s,((1:Int),i))) ps.length (ls.take i)) S1).2] false/\z.hp ⟨0,11,0⟩=kF nP 1 (Ua (num (fun i (s:Tx)=>(s,((1:Int),i))) ps.length (ls.take i)) S1).1) ⟨0,Zo,Zo,rfl,rfl,Zm,Zm,Zm,Zm,by simp[*,Ih],Zi,Zm,(by first|(simp[*,Ua,num];done)|(simp[*,Ua,num];rfl)),(by first|(simp[*,Ua,num];done)|(simp[*,Ua,num];rfl))⟩ ?_;rintro m ⟨fr,hp⟩ ⟨i,hm,hi,f1,b1,f4,f5,f6,fl_,fn_,fi_,h4,h5,hq⟩;simp at f1 b1;simp only at f4 f5 f6 fl_ fn_ fi_ h4 h5 hq;by_cases Ii:i<ls.length
 ·have e1:(i:Int)<ls.length:=Zo
  have hg:ls[i]?=some ls[i]:=Bs Ii;have oF:IntKind.i64.wrap ((i:Int)+1)=(i:Int)+1:=Iw Zo;generalize ls[i]=t at*;have jJ:=Ys hg;have iB:=Ha (fun i (s:Tx)=>(s,((1:Int),i))) ps.length ls i hg;have hpl:ls.length<=1048576:=Zo;have hw2:IntKind.i64.wrap ((ps.length:Int)+i)=(ps.length:Int)+i:=Bu Zo Zo;generalize hS:Ua (num (fun i (s:Tx)=>(s,((1:Int),i))) ps.length (ls.take i)) S1=S at*;obtain⟨ms,us⟩:=S;simp only at h5 hq;clear hg Ii
  repeat' (first|refine ZN ?_|refine Z2 ?_ ?_|(intro h h';try simp[*,-h] at h')|((with_reducible apply Ap (f:=304));exact Zv;apply addL;exact Zc;exact Zc;exact Zc;rintro _ If ⟨rfl,sS,h52,rU⟩)|fail)
  refine⟨ls.length - (i+1),Zo,i+1,Zo,Zo,Zm,Zm,Zm,Zm,Zm,Zm,Zm,Zm,Zm,?_,?_⟩
  all_goals rw[iB,Dz,hS]
  ·(first|(simp[*];done)|(simp[*];rfl))
  ·(first|(simp[*];done)|(simp[*];rfl))
 have e1: ¬(i:Int)<ls.length:=Zo;have hz:ls.take i=ls:=Kb Zo;rw[hz] at h5 hq;generalize hS2:Ua (num (fun i (s:Tx)=>(s,((1:Int),i))) ps.length ls) S1=S2 at*;clear hz;unfold kF at hq
 repeat' first|refine ZN ?_|refine Z2 ?_ ?_|intro h h';try simp[*,-h] at h'
 have ho:wW ⟨nm,ps,ls,w,b⟩=S2:=by
  unfold wW inL;rw[J2,hS1,hS2]
 rw[ho];rfl
end
section
open Go Go.Ab Go.Ab.Sy
variable {s:Bool×Bool}{hp1 If:Hp}{ar:List (Tx×Int)}{o n:List (Tx×Th)}{fs:List Fu}{vs:List Tx}{i ga gb gc gd ge D:Nat}
structure CS (o n:List (Tx×Th))(vs:List Tx)(ar:List (Tx×Int))(fs:List Fu)(i ga gb gc gd ge:Nat)(s:Bool×Bool)(hp:Hp):Prop where
 bn:hp ⟨0,11,0⟩= .box ga [lL nP o,lL nP n] false
 b5:hp ⟨0,5,0⟩= .box gb [bz s.1] false
 b6:hp ⟨0,6,0⟩= .box gc [bz s.2] false
 b7:hp ⟨0,7,0⟩= .box gd [iv i] false
 b1:hp ⟨0,1,0⟩= .box ge [.sl false 1 (Ib vs),.sl false 2 (Ih ar),.sl false 5 (fs.map Fu.row)] false
 hF: ∀x,(cC n o x).1=4->0<=(cC n o x).2
 hi:i<=fs.length
 hs:vs.length+ar.length+cV fs<=1048576
theorem CS.congr{hp hp':Hp}(h:CS o n vs ar fs i ga gb gc gd ge s hp)(he: ∀i c,hp' ⟨0,i,c⟩=hp ⟨0,i,c⟩):CS o n vs ar fs i ga gb gc gd ge s hp':=⟨(he _ _).trans h.bn,(he _ _).trans h.b5,(he _ _).trans h.b6,(he _ _).trans h.b7,(he _ _).trans h.b1,h.hF,h.hi,h.hs⟩
def aK (D:Nat)(hp1 If:Hp):Prop:= ∀d i c,d<=D->(⟨d,i,c⟩:Nm)≠⟨0,5,0⟩->(⟨d,i,c⟩:Nm)≠⟨0,6,0⟩->If ⟨d,i,c⟩=hp1 ⟨d,i,c⟩
theorem aK.step {D':Nat}{hpA hpB:Hp}(h:aK D hp1 hpA)(h2:aK D' hpB If)(hd:D<=D')(he: ∀d i c,d<=D->hpB ⟨d,i,c⟩=hpA ⟨d,i,c⟩):aK D hp1 If:=fun d i c uT n1 n2=>(h2 d i c Zo n1 n2).trans ((he d i c uT).trans (h d i c uT n1 n2))
theorem aK.own(h:aK D hp1 If)(hD:D≠0): ∀i c,If ⟨D,i,c⟩=hp1 ⟨D,i,c⟩:=fun i c=>h D i c (D5 _) (by simp[hD]) (by simp[hD])
theorem aK.aft {D D':Nat}{hp1 hpA hpB:Hp}{A:Hp->Prop}{u:AV}{Q:AV->Hp->Prop}(HK:aK D hp1 hpA)(hn: ∀If,(∀i c,If ⟨D',i,c⟩=hpB ⟨D',i,c⟩)->A If->aK D hp1 If->Q u If)(hd:D<=D':=by omega)(hD:D'≠0:=by omega)(he: ∀d i c,d<=D->hpB ⟨d,i,c⟩=hpA ⟨d,i,c⟩:=by intro d i c hd;simp[Zl hd]): ∀v If,(v=u/\A If/\aK D' hpB If)->Q v If:=by
 rintro _ If ⟨rfl,h1,h2⟩
 exact hn If (h2.own hD) h1 (HK.step h2 hd he)
theorem vX {d k0:Nat}{k a:Int}{x:Tx}(hc:CS o n vs ar fs i ga gb gc gd ge s hp1):HB P0 Un (Lm X47) (k0+1) d 231 (.agg [iz k,tz x.val,iz a]::[.ptr ⟨0,11,0⟩ ga 0,.ptr ⟨0,5,0⟩ gb 0,.ptr ⟨0,7,0⟩ gd 0,.ptr ⟨0,1,0⟩ ge 0,.ptr ⟨0,6,0⟩ gc 0]) hp1 (fun v If=>v= .tup []/\CS o n vs ar fs i ga gb gc gd ge (cO fs (cC n o) i s ⟨k,x,a⟩) If/\aK (k0+1) hp1 If) (fun _ _=>False):=by
 refine hB (k1:=k0+1+1) (PR:=fun _ _=>False) Tryz.func231 (B2 Zd) ?_;have GB:=hc;obtain⟨bn,b5,b6,b7,b1,hF,hi,hs⟩:=hc;have AL:=Bq fs;have ff:=find_w o n x;have ME:=hF x;obtain⟨ob,ok,or_,ho⟩: ∃b k r,lL nP o= .dmp b k r:=⟨_,_,_,rfl⟩;obtain⟨nb,nk,nr,hn⟩: ∃b k r,lL nP n= .dmp b k r:=⟨_,_,_,rfl⟩;rw[ho,hn] at bn ff;clear ho hn;obtain⟨s1,s2⟩:=s;simp only at b5 b6;generalize hfx:cC n o x=t at*;obtain⟨t1,t2⟩:=t;simp only at ff ME;have HC:=Lib.hid GB;have Hs:=Lib.hid hs;have Hi:=Lib.hid hi;clear hF GB hi hs AL;obtain(rfl|rfl|rfl|⟨k2,k3,k4⟩):k=2\/k=3\/k=4\/(k≠2/\k≠3/\k≠4):=Zo
 ·have hu:cO fs (cC n o) i (s1,s2) ⟨2,x,a⟩=(s1&&(decide (t1=1)||decide (t1=2)),s2):=by simp[cO,hfx]
  rw[hu];clear hu ME
  repeat' first|refine ZN ?_|refine Z2 ?_ ?_|intro h h';try simp[*,-h] at h'
  all_goals refine⟨rfl,⟨by simp;exact HC.out.bn,?_,?_,Zm,Zm,HC.out.hF,HC.out.hi,HC.out.hs⟩,fun d i' c hd n1 n2=>by have Uc:d≠k0+1+1:=Zo;simp[*]⟩
  all_goals first|(simp[*];done)|(simp_all;done)|(simp[*];rw[FJ];simp;done)|(simp[*];rfl)
 ·have hu:cO fs (cC n o) i (s1,s2) ⟨3,x,a⟩=(s1&&decide (t1=3),s2):=by simp[cO,hfx]
  rw[hu];clear hu ME
  repeat' first|refine ZN ?_|refine Z2 ?_ ?_|intro h h';try simp[*,-h] at h'
  all_goals refine⟨rfl,⟨by simp;exact HC.out.bn,?_,?_,Zm,Zm,HC.out.hF,HC.out.hi,HC.out.hs⟩,fun d i' c hd n1 n2=>by have Uc:d≠k0+1+1:=Zo;simp[*]⟩
  all_goals first|(simp[*];done)|(simp_all;done)|(simp[*];rw[FJ];simp;done)|(simp[*];rfl)
 ·by_cases h4:t1=4
  ·subst h4
   have ME:=ME rfl;by_cases Ii:t2<i
   ·obtain⟨j,rfl⟩: ∃j:Nat,t2=j:=⟨t2.toNat,Zo⟩
    have hj:j<fs.length:=by have:=Hi.out;omega
    have hg:fs[j]?=some fs[j]:=Bs hj;generalize fs[j]=g at*;have jJ:=Hj hg;have dN:=Ew hg;obtain⟨gn,gp,gl,gw,gb'⟩:=g;simp only[A8] at jJ;simp only[B1] at dN;have e1:(j:Int)<fs.length:=Zo;have hu:cO fs (cC n o) i (s1,s2) ⟨4,x,a⟩=(s1,if (gp.length:Int)=a then s2 else false):=by simp[cO,hfx,Ii,hg]
    rw[hu];have e2: ¬(i:Int)<=j:=Zo;have e3: ¬i<=j:=Zo;clear hu hg ME hj
    repeat' first|refine ZN ?_|refine Z2 ?_ ?_|intro h h';try simp[*,-h] at h'
    all_goals refine⟨rfl,⟨by simp;exact HC.out.bn,?_,?_,Zm,Zm,HC.out.hF,HC.out.hi,HC.out.hs⟩,fun d i' c hd n1 n2=>by have Uc:d≠k0+1+1:=Zo;simp[*]⟩
    all_goals first|(simp[*];done)|(simp_all;done)|(simp[*];rw[FJ];simp;done)|(simp[*];rfl)
   ·have hu:cO fs (cC n o) i (s1,s2) ⟨4,x,a⟩=(false,s2):=by simp[cO,hfx,Ii]
    rw[hu];have e2:(i:Int)<=t2:=Zo;clear hu ME
    repeat' first|refine ZN ?_|refine Z2 ?_ ?_|intro h h';try simp[*,-h] at h'
    all_goals refine⟨rfl,⟨by simp;exact HC.out.bn,?_,?_,Zm,Zm,HC.out.hF,HC.out.hi,HC.out.hs⟩,fun d i' c hd n1 n2=>by have Uc:d≠k0+1+1:=Zo;simp[*]⟩
    all_goals first|(simp[*];done)|(simp_all;done)|(simp[*];rw[FJ];simp;done)|(simp[*];rfl)
  ·have hu:cO fs (cC n o) i (s1,s2) ⟨4,x,a⟩=(false,s2):=by simp[cO,hfx,h4]
   rw[hu];clear hu ME
   repeat' first|refine ZN ?_|refine Z2 ?_ ?_|intro h h';try simp[*,-h] at h'
   all_goals refine⟨rfl,⟨by simp;exact HC.out.bn,?_,?_,Zm,Zm,HC.out.hF,HC.out.hi,HC.out.hs⟩,fun d i' c hd n1 n2=>by have Uc:d≠k0+1+1:=Zo;simp[*]⟩
   all_goals first|(simp[*];done)|(simp_all;done)|(simp[*];rw[FJ];simp;done)|(simp[*];rfl)
 ·have hu:cO fs (cC n o) i (s1,s2) ⟨k,x,a⟩=(s1,s2):=by simp[cO,k2,k3,k4]
  rw[hu];clear hu ME
  repeat' first|refine ZN ?_|refine Z2 ?_ ?_|intro h h';try simp[*,-h] at h'
  all_goals refine⟨rfl,⟨by simp;exact HC.out.bn,?_,?_,Zm,Zm,HC.out.hF,HC.out.hi,HC.out.hs⟩,fun d i' c hd n1 n2=>by have Uc:d≠k0+1+1:=Zo;simp[*]⟩
  all_goals first|(simp[*];done)|(simp_all;done)|(simp[*];rw[FJ];simp;done)|(simp[*];rfl)
end
section
open Go Go.Ab Go.Ab.Sy
variable {s:Bool×Bool}{hp1:Hp}{ar:List (Tx×Int)}{o n:List (Tx×Th)}{fs:List Fu}{vs:List Tx}{j i ga gb gc gd ge g3 g5 d k0 g4:Nat}
theorem Yq {l:List Sy.Ex}{e:Sy.Ex}(h:l[j]?=some e)(fs:List Fu)(fd:Tx->Th)(i:Nat)(s:Bool×Bool):aQ fs fd i (Iz (l.take (j+1))) s=aQ fs fd i (Iz e.kids) (aQ fs fd i (lF e) (aQ fs fd i (Iz (l.take j)) s)):=by
 rw[AU,h];simp[Qg,HY,aQ,List.foldl_append]
theorem Yp {l:List Sy.St}{e:Sy.St}(h:l[j]?=some e)(fs:List Fu)(fd:Tx->Th)(i:Nat)(s:Bool×Bool):aQ fs fd i (I9 (l.take (j+1))) s=aQ fs fd i (I9 e.el) (aQ fs fd i (I9 e.th) (aQ fs fd i (Iz e.e) (aQ fs fd i (lE e) (aQ fs fd i (I9 (l.take j)) s)))):=by
 rw[AU,h];simp[Qf,HW,aQ,List.foldl_append]
theorem exs_s(N:Nat)(hN:N<=1048576)(ih: ∀l:List Sy.Ex,Uv l<N-> ∀{d k0:Nat} {hp1:Hp} {s:Bool×Bool},CS o n vs ar fs i ga gb gc gd ge s hp1->hp1 ⟨1,3,0⟩= .box g3 [.fn 231 [.ptr ⟨0,11,0⟩ ga 0,.ptr ⟨0,5,0⟩ gb 0,.ptr ⟨0,7,0⟩ gd 0,.ptr ⟨0,1,0⟩ ge 0,.ptr ⟨0,6,0⟩ gc 0]] false->hp1 ⟨1,5,0⟩= .box g5 [.fn 305 [.ptr ⟨1,3,0⟩ g3 0,.ptr ⟨1,5,0⟩ g5 0]] false->HB P0 Un (Lm X47) (k0+1) d 305 [.sl false 5 (In l),.ptr ⟨1,3,0⟩ g3 0,.ptr ⟨1,5,0⟩ g5 0] hp1 (fun v If=>v= .tup []/\CS o n vs ar fs i ga gb gc gd ge (aQ fs (cC n o) i (Iz l) s) If/\aK (k0+1) hp1 If) (fun _ _=>False))(l:List Sy.Ex)(hl:Uv l<=N)(hc:CS o n vs ar fs i ga gb gc gd ge s hp1)(h3:hp1 ⟨1,3,0⟩= .box g3 [.fn 231 [.ptr ⟨0,11,0⟩ ga 0,.ptr ⟨0,5,0⟩ gb 0,.ptr ⟨0,7,0⟩ gd 0,.ptr ⟨0,1,0⟩ ge 0,.ptr ⟨0,6,0⟩ gc 0]] false)(h5:hp1 ⟨1,5,0⟩= .box g5 [.fn 305 [.ptr ⟨1,3,0⟩ g3 0,.ptr ⟨1,5,0⟩ g5 0]] false):HB P0 Un (Lm X47) (k0+1) d 305 [.sl false 5 (In l),.ptr ⟨1,3,0⟩ g3 0,.ptr ⟨1,5,0⟩ g5 0] hp1 (fun v If=>v= .tup []/\CS o n vs ar fs i ga gb gc gd ge (aQ fs (cC n o) i (Iz l) s) If/\aK (k0+1) hp1 If) (fun _ _=>False):=by
 refine hB (k1:=k0+1+1) (PR:=fun _ _=>False) Tryz.func305 (B2 Zd) ?_;have Ij:l.length<=1048576:=by have:=A4 l;omega
 repeat' first|refine ZN ?_|refine Z2 ?_ ?_|intro h h';try simp[*,-h] at h'
 refine Ac (n:=l.length) (fun s0 m z=> ∃j:Nat,l.length - j<=m/\j<=l.length/\z.fr 1= .ptr ⟨1,3,0⟩ g3 0/\z.fr 2= .ptr ⟨1,5,0⟩ g5 0/\z.fr 6= .sl false 5 (In l)/\z.fr 7=iv l.length/\z.fr 8=iv j/\CS o n vs ar fs i ga gb gc gd ge (aQ fs (cC n o) i (Iz (l.take j)) s) z.hp/\aK (k0+1) hp1 z.hp) ⟨0,Zo,Zo,Zi,Zi,Zi,Zi,Zi,by simpa[aQ] using hc,fun _ _ _ _ _ _=>rfl⟩ ?_;rintro m ⟨fr,hp⟩ ⟨j,hm,hj,f1,f2,fl,fn,fi,cB,HK⟩;simp only at f1 f2 fl fn fi cB HK;have v3:=(HK 1 3 0 Zo Zi Zi).trans h3;have v5:=(HK 1 5 0 Zo Zi Zi).trans h5;by_cases Ii:j<l.length
 ·have e1:(j:Int)<l.length:=Zo
  have hg:l[j]?=some l[j]:=Bs Ii;have oF:IntKind.i64.wrap ((j:Int)+1)=(j:Int)+1:=Iw Zo;generalize l[j]=t at*;have jJ:=Jt hg;have dN:=C5 hg;have mU:=Yq hg fs (cC n o) i s;obtain⟨ek,eo,en,ex,ekids⟩:=t;simp only[Ag] at jJ;simp only[A0] at dN;generalize aQ fs (cC n o) i (Iz (l.take j)) s=S at*;have E1:=Lib.hid e1;clear hg Ii;obtain(rfl|rfl|rfl|⟨n2,n3,n4⟩):ek=2\/ek=3\/ek=4\/(ek≠2/\ek≠3/\ek≠4):=Zo
  ·have ho:lF (.mk 2 eo en ex ekids)=[⟨2,ex,0⟩]:=rfl
   rw[ho] at mU;clear ho;have HT:=Lib.hid mU;clear mU
   repeat' (first|refine ZN ?_|refine Z2 ?_ ?_|(intro h h';try simp[*,-h] at h')|((with_reducible apply Ap (f:=231));exact Zv;apply vX (x:=ex);exact ZC;(refine aK.aft HK ?_;clear cB HK v3 v5;intro If U1 cB HK;have v3:=(HK 1 3 0 Zo Zi Zi).trans h3;have v5:=(HK 1 5 0 Zo Zi Zi).trans h5))|((with_reducible apply Ap (f:=305));exact Zv;apply(ih ekids Zo);exact ZC;exact Zc;exact Zc;(refine aK.aft HK ?_;clear cB HK v3 v5;intro If U1 cB HK;have v3:=(HK 1 3 0 Zo Zi Zi).trans h3;have v5:=(HK 1 5 0 Zo Zi Zi).trans h5))|fail)
   exact⟨l.length - (j+1),Zo,j+1,Zo,Zo,Zm,Zm,Zm,Zm,Zm,by rw[HT.out];exact cB,HK⟩
  ·have ho:lF (.mk 3 eo en ex ekids)=[⟨3,ex,0⟩]:=rfl
   rw[ho] at mU;clear ho;have HT:=Lib.hid mU;clear mU
   repeat' (first|refine ZN ?_|refine Z2 ?_ ?_|(intro h h';try simp[*,-h] at h')|((with_reducible apply Ap (f:=231));exact Zv;apply vX (x:=ex);exact ZC;(refine aK.aft HK ?_;clear cB HK v3 v5;intro If U1 cB HK;have v3:=(HK 1 3 0 Zo Zi Zi).trans h3;have v5:=(HK 1 5 0 Zo Zi Zi).trans h5))|((with_reducible apply Ap (f:=305));exact Zv;apply(ih ekids Zo);exact ZC;exact Zc;exact Zc;(refine aK.aft HK ?_;clear cB HK v3 v5;intro If U1 cB HK;have v3:=(HK 1 3 0 Zo Zi Zi).trans h3;have v5:=(HK 1 5 0 Zo Zi Zi).trans h5))|fail)
   exact⟨l.length - (j+1),Zo,j+1,Zo,Zo,Zm,Zm,Zm,Zm,Zm,by rw[HT.out];exact cB,HK⟩
  ·have ho:lF (.mk 4 eo en ex ekids)=[⟨4,ex,ekids.length⟩]:=rfl
   rw[ho] at mU;clear ho;have HT:=Lib.hid mU;clear mU
   repeat' (first|refine ZN ?_|refine Z2 ?_ ?_|(intro h h';try simp[*,-h] at h')|((with_reducible apply Ap (f:=231));exact Zv;apply vX (x:=ex);exact ZC;(refine aK.aft HK ?_;clear cB HK v3 v5;intro If U1 cB HK;have v3:=(HK 1 3 0 Zo Zi Zi).trans h3;have v5:=(HK 1 5 0 Zo Zi Zi).trans h5))|((with_reducible apply Ap (f:=305));exact Zv;apply(ih ekids Zo);exact ZC;exact Zc;exact Zc;(refine aK.aft HK ?_;clear cB HK v3 v5;intro If U1 cB HK;have v3:=(HK 1 3 0 Zo Zi Zi).trans h3;have v5:=(HK 1 5 0 Zo Zi Zi).trans h5))|fail)
   exact⟨l.length - (j+1),Zo,j+1,Zo,Zo,Zm,Zm,Zm,Zm,Zm,by rw[HT.out];exact cB,HK⟩
  ·have ho:lF (.mk ek eo en ex ekids)=[]:=by simp[lF,Sy.Ex.kind,n2,n3,n4]
   rw[ho] at mU;clear ho;have HT:=Lib.hid mU;clear mU
   repeat' (first|refine ZN ?_|refine Z2 ?_ ?_|(intro h h';try simp[*,-h] at h')|((with_reducible apply Ap (f:=231));exact Zv;apply vX (x:=ex);exact ZC;(refine aK.aft HK ?_;clear cB HK v3 v5;intro If U1 cB HK;have v3:=(HK 1 3 0 Zo Zi Zi).trans h3;have v5:=(HK 1 5 0 Zo Zi Zi).trans h5))|((with_reducible apply Ap (f:=305));exact Zv;apply(ih ekids Zo);exact ZC;exact Zc;exact Zc;(refine aK.aft HK ?_;clear cB HK v3 v5;intro If U1 cB HK;have v3:=(HK 1 3 0 Zo Zi Zi).trans h3;have v5:=(HK 1 5 0 Zo Zi Zi).trans h5))|fail)
   exact⟨l.length - (j+1),Zo,j+1,Zo,Zo,Zm,Zm,Zm,Zm,Zm,by rw[HT.out];exact cB,HK⟩
 have e1: ¬(j:Int)<l.length:=Zo;have hz:l.take j=l:=Kb Zo;rw[hz] at cB
 repeat' first|refine ZN ?_|refine Z2 ?_ ?_|intro h h';try simp[*,-h] at h'
 exact⟨rfl,cB,HK⟩
theorem exs_n {o n:List (Tx×Th)}{vs:List Tx}{ar:List (Tx×Int)}{fs:List Fu}{i ga gb gc gd ge:Nat}{g3 g5:Nat}: ∀N,N<=1048576-> ∀l:List Sy.Ex,Uv l<=N-> ∀{d k0:Nat} {hp1:Hp} {s:Bool×Bool},CS o n vs ar fs i ga gb gc gd ge s hp1->hp1 ⟨1,3,0⟩= .box g3 [.fn 231 [.ptr ⟨0,11,0⟩ ga 0,.ptr ⟨0,5,0⟩ gb 0,.ptr ⟨0,7,0⟩ gd 0,.ptr ⟨0,1,0⟩ ge 0,.ptr ⟨0,6,0⟩ gc 0]] false->hp1 ⟨1,5,0⟩= .box g5 [.fn 305 [.ptr ⟨1,3,0⟩ g3 0,.ptr ⟨1,5,0⟩ g5 0]] false->HB P0 Un (Lm X47) (k0+1) d 305 [.sl false 5 (In l),.ptr ⟨1,3,0⟩ g3 0,.ptr ⟨1,5,0⟩ g5 0] hp1 (fun v If=>v= .tup []/\CS o n vs ar fs i ga gb gc gd ge (aQ fs (cC n o) i (Iz l) s) If/\aK (k0+1) hp1 If) (fun _ _=>False)
 |0,h,l,hl,_,_,_,_,hc,h3,h5=>exs_s 0 h (fun l h'=>Zo) l hl hc h3 h5
 |N+1,h,l,hl,_,_,_,_,hc,h3,h5=>exs_s (N+1) h (fun l h' _ _ _ _ hc h3 h5=>exs_n N Zo l Zo hc h3 h5) l hl hc h3 h5
theorem Cga(l:List Sy.Ex)(hl:Uv l<=1048576)(hc:CS o n vs ar fs i ga gb gc gd ge s hp1)(h3:hp1 ⟨1,3,0⟩= .box g3 [.fn 231 [.ptr ⟨0,11,0⟩ ga 0,.ptr ⟨0,5,0⟩ gb 0,.ptr ⟨0,7,0⟩ gd 0,.ptr ⟨0,1,0⟩ ge 0,.ptr ⟨0,6,0⟩ gc 0]] false)(h5:hp1 ⟨1,5,0⟩= .box g5 [.fn 305 [.ptr ⟨1,3,0⟩ g3 0,.ptr ⟨1,5,0⟩ g5 0]] false):HB P0 Un (Lm X47) (k0+1) d 305 [.sl false 5 (In l),.ptr ⟨1,3,0⟩ g3 0,.ptr ⟨1,5,0⟩ g5 0] hp1 (fun v If=>v= .tup []/\CS o n vs ar fs i ga gb gc gd ge (aQ fs (cC n o) i (Iz l) s) If/\aK (k0+1) hp1 If) (fun _ _=>False):=exs_n 1048576 (D5 _) l hl hc h3 h5
theorem sts_s(N:Nat)(hN:N<=1048576)(ih: ∀l:List Sy.St,Ix l<N-> ∀{d k0:Nat} {hp1:Hp} {s:Bool×Bool},CS o n vs ar fs i ga gb gc gd ge s hp1->hp1 ⟨1,3,0⟩= .box g3 [.fn 231 [.ptr ⟨0,11,0⟩ ga 0,.ptr ⟨0,5,0⟩ gb 0,.ptr ⟨0,7,0⟩ gd 0,.ptr ⟨0,1,0⟩ ge 0,.ptr ⟨0,6,0⟩ gc 0]] false->hp1 ⟨1,5,0⟩= .box g5 [.fn 305 [.ptr ⟨1,3,0⟩ g3 0,.ptr ⟨1,5,0⟩ g5 0]] false->hp1 ⟨1,4,0⟩= .box g4 [.fn 306 [.ptr ⟨1,3,0⟩ g3 0,.ptr ⟨1,5,0⟩ g5 0,.ptr ⟨1,4,0⟩ g4 0]] false->HB P0 Un (Lm X47) (k0+1) d 306 [.sl false 5 (Ik l),.ptr ⟨1,3,0⟩ g3 0,.ptr ⟨1,5,0⟩ g5 0,.ptr ⟨1,4,0⟩ g4 0] hp1 (fun v If=>v= .tup []/\CS o n vs ar fs i ga gb gc gd ge (aQ fs (cC n o) i (I9 l) s) If/\aK (k0+1) hp1 If) (fun _ _=>False))(l:List Sy.St)(hl:Ix l<=N)(hc:CS o n vs ar fs i ga gb gc gd ge s hp1)(h3:hp1 ⟨1,3,0⟩= .box g3 [.fn 231 [.ptr ⟨0,11,0⟩ ga 0,.ptr ⟨0,5,0⟩ gb 0,.ptr ⟨0,7,0⟩ gd 0,.ptr ⟨0,1,0⟩ ge 0,.ptr ⟨0,6,0⟩ gc 0]] false)(h5:hp1 ⟨1,5,0⟩= .box g5 [.fn 305 [.ptr ⟨1,3,0⟩ g3 0,.ptr ⟨1,5,0⟩ g5 0]] false)(h4:hp1 ⟨1,4,0⟩= .box g4 [.fn 306 [.ptr ⟨1,3,0⟩ g3 0,.ptr ⟨1,5,0⟩ g5 0,.ptr ⟨1,4,0⟩ g4 0]] false):HB P0 Un (Lm X47) (k0+1) d 306 [.sl false 5 (Ik l),.ptr ⟨1,3,0⟩ g3 0,.ptr ⟨1,5,0⟩ g5 0,.ptr ⟨1,4,0⟩ g4 0] hp1 (fun v If=>v= .tup []/\CS o n vs ar fs i ga gb gc gd ge (aQ fs (cC n o) i (I9 l) s) If/\aK (k0+1) hp1 If) (fun _ _=>False):=by
 refine hB (k1:=k0+1+1) (PR:=fun _ _=>False) Tryz.func306 (B2 Zd) ?_;have Ij:l.length<=1048576:=by have:=A9 l;omega
 repeat' first|refine ZN ?_|refine Z2 ?_ ?_|intro h h';try simp[*,-h] at h'
 refine Ac (n:=l.length) (fun s0 m z=> ∃j:Nat,l.length - j<=m/\j<=l.length/\z.fr 1= .ptr ⟨1,3,0⟩ g3 0/\z.fr 2= .ptr ⟨1,5,0⟩ g5 0/\z.fr 3= .ptr ⟨1,4,0⟩ g4 0/\z.fr 7= .sl false 5 (Ik l)/\z.fr 8=iv l.length/\z.fr 9=iv j/\CS o n vs ar fs i ga gb gc gd ge (aQ fs (cC n o) i (I9 (l.take j)) s) z.hp/\aK (k0+1) hp1 z.hp) ⟨0,Zo,Zo,Zi,Zi,Zi,Zi,Zi,Zi,by simpa[aQ] using hc,fun _ _ _ _ _ _=>rfl⟩ ?_;rintro m ⟨fr,hp⟩ ⟨j,hm,hj,f1,f2,f3,fl,fn,fi,cB,HK⟩;simp only at f1 f2 f3 fl fn fi cB HK;have v3:=(HK 1 3 0 Zo Zi Zi).trans h3;have v5:=(HK 1 5 0 Zo Zi Zi).trans h5;have v4:=(HK 1 4 0 Zo Zi Zi).trans h4;by_cases Ii:j<l.length
 ·have e1:(j:Int)<l.length:=Zo
  have hg:l[j]?=some l[j]:=Bs Ii;have oF:IntKind.i64.wrap ((j:Int)+1)=(j:Int)+1:=Iw Zo;generalize l[j]=t at*;have jJ:=Sw hg;have dN:=Gb hg;have mU:=Yp hg fs (cC n o) i s;obtain⟨ek,ex,ee,eth,eel⟩:=t;simp only[Bo] at jJ;simp only[Bi] at dN;generalize aQ fs (cC n o) i (I9 (l.take j)) s=S at*;have E1:=Lib.hid e1;clear hg Ii;obtain(rfl|rfl|rfl|⟨n1,n2,n6⟩):ek=1\/ek=2\/ek=6\/(ek≠1/\ek≠2/\ek≠6):=Zo
  ·have ho:lE (.mk 1 ex ee eth eel)=[⟨2,ex,0⟩]:=rfl
   rw[ho] at mU;clear ho;have HT:=Lib.hid mU;clear mU
   repeat' (first|refine ZN ?_|refine Z2 ?_ ?_|(intro h h';try simp[*,-h] at h')|((with_reducible apply Ap (f:=231));exact Zv;apply vX (x:=ex);exact ZC;(refine aK.aft HK ?_;clear cB HK v3 v5 v4;intro If U1 cB HK;have v3:=(HK 1 3 0 Zo Zi Zi).trans h3;have v5:=(HK 1 5 0 Zo Zi Zi).trans h5;have v4:=(HK 1 4 0 Zo Zi Zi).trans h4))|((with_reducible apply Ap (f:=305));exact Zv;apply(Cga ee Zo);exact ZC;exact Zc;exact Zc;(refine aK.aft HK ?_;clear cB HK v3 v5 v4;intro If U1 cB HK;have v3:=(HK 1 3 0 Zo Zi Zi).trans h3;have v5:=(HK 1 5 0 Zo Zi Zi).trans h5;have v4:=(HK 1 4 0 Zo Zi Zi).trans h4))|((with_reducible apply Ap (f:=306));exact Zv;apply(ih eth Zo);exact ZC;exact Zc;exact Zc;exact Zc;(refine aK.aft HK ?_;clear cB HK v3 v5 v4;intro If U1 cB HK;have v3:=(HK 1 3 0 Zo Zi Zi).trans h3;have v5:=(HK 1 5 0 Zo Zi Zi).trans h5;have v4:=(HK 1 4 0 Zo Zi Zi).trans h4))|((with_reducible apply Ap (f:=306));exact Zv;apply(ih eel Zo);exact ZC;exact Zc;exact Zc;exact Zc;(refine aK.aft HK ?_;clear cB HK v3 v5 v4;intro If U1 cB HK;have v3:=(HK 1 3 0 Zo Zi Zi).trans h3;have v5:=(HK 1 5 0 Zo Zi Zi).trans h5;have v4:=(HK 1 4 0 Zo Zi Zi).trans h4))|fail)
   exact⟨l.length - (j+1),Zo,j+1,Zo,Zo,Zm,Zm,Zm,Zm,Zm,Zm,by rw[HT.out];exact cB,HK⟩
  ·have ho:lE (.mk 2 ex ee eth eel)=[⟨3,ex,0⟩]:=rfl
   rw[ho] at mU;clear ho;have HT:=Lib.hid mU;clear mU
   repeat' (first|refine ZN ?_|refine Z2 ?_ ?_|(intro h h';try simp[*,-h] at h')|((with_reducible apply Ap (f:=231));exact Zv;apply vX (x:=ex);exact ZC;(refine aK.aft HK ?_;clear cB HK v3 v5 v4;intro If U1 cB HK;have v3:=(HK 1 3 0 Zo Zi Zi).trans h3;have v5:=(HK 1 5 0 Zo Zi Zi).trans h5;have v4:=(HK 1 4 0 Zo Zi Zi).trans h4))|((with_reducible apply Ap (f:=305));exact Zv;apply(Cga ee Zo);exact ZC;exact Zc;exact Zc;(refine aK.aft HK ?_;clear cB HK v3 v5 v4;intro If U1 cB HK;have v3:=(HK 1 3 0 Zo Zi Zi).trans h3;have v5:=(HK 1 5 0 Zo Zi Zi).trans h5;have v4:=(HK 1 4 0 Zo Zi Zi).trans h4))|((with_reducible apply Ap (f:=306));exact Zv;apply(ih eth Zo);exact ZC;exact Zc;exact Zc;exact Zc;(refine aK.aft HK ?_;clear cB HK v3 v5 v4;intro If U1 cB HK;have v3:=(HK 1 3 0 Zo Zi Zi).trans h3;have v5:=(HK 1 5 0 Zo Zi Zi).trans h5;have v4:=(HK 1 4 0 Zo Zi Zi).trans h4))|((with_reducible apply Ap (f:=306));exact Zv;apply(ih eel Zo);exact ZC;exact Zc;exact Zc;exact Zc;(refine aK.aft HK ?_;clear cB HK v3 v5 v4;intro If U1 cB HK;have v3:=(HK 1 3 0 Zo Zi Zi).trans h3;have v5:=(HK 1 5 0 Zo Zi Zi).trans h5;have v4:=(HK 1 4 0 Zo Zi Zi).trans h4))|fail)
   exact⟨l.length - (j+1),Zo,j+1,Zo,Zo,Zm,Zm,Zm,Zm,Zm,Zm,by rw[HT.out];exact cB,HK⟩
  ·have ho:lE (.mk 6 ex ee eth eel)=[⟨4,ex,ee.length⟩]:=rfl
   rw[ho] at mU;clear ho;have HT:=Lib.hid mU;clear mU
   repeat' (first|refine ZN ?_|refine Z2 ?_ ?_|(intro h h';try simp[*,-h] at h')|((with_reducible apply Ap (f:=231));exact Zv;apply vX (x:=ex);exact ZC;(refine aK.aft HK ?_;clear cB HK v3 v5 v4;intro If U1 cB HK;have v3:=(HK 1 3 0 Zo Zi Zi).trans h3;have v5:=(HK 1 5 0 Zo Zi Zi).trans h5;have v4:=(HK 1 4 0 Zo Zi Zi).trans h4))|((with_reducible apply Ap (f:=305));exact Zv;apply(Cga ee Zo);exact ZC;exact Zc;exact Zc;(refine aK.aft HK ?_;clear cB HK v3 v5 v4;intro If U1 cB HK;have v3:=(HK 1 3 0 Zo Zi Zi).trans h3;have v5:=(HK 1 5 0 Zo Zi Zi).trans h5;have v4:=(HK 1 4 0 Zo Zi Zi).trans h4))|((with_reducible apply Ap (f:=306));exact Zv;apply(ih eth Zo);exact ZC;exact Zc;exact Zc;exact Zc;(refine aK.aft HK ?_;clear cB HK v3 v5 v4;intro If U1 cB HK;have v3:=(HK 1 3 0 Zo Zi Zi).trans h3;have v5:=(HK 1 5 0 Zo Zi Zi).trans h5;have v4:=(HK 1 4 0 Zo Zi Zi).trans h4))|((with_reducible apply Ap (f:=306));exact Zv;apply(ih eel Zo);exact ZC;exact Zc;exact Zc;exact Zc;(refine aK.aft HK ?_;clear cB HK v3 v5 v4;intro If U1 cB HK;have v3:=(HK 1 3 0 Zo Zi Zi).trans h3;have v5:=(HK 1 5 0 Zo Zi Zi).trans h5;have v4:=(HK 1 4 0 Zo Zi Zi).trans h4))|fail)
   exact⟨l.length - (j+1),Zo,j+1,Zo,Zo,Zm,Zm,Zm,Zm,Zm,Zm,by rw[HT.out];exact cB,HK⟩
  ·have ho:lE (.mk ek ex ee eth eel)=[]:=by simp[lE,Sy.St.kind,n1,n2,n6]
   rw[ho] at mU;clear ho;have HT:=Lib.hid mU;clear mU
   repeat' (first|refine ZN ?_|refine Z2 ?_ ?_|(intro h h';try simp[*,-h] at h')|((with_reducible apply Ap (f:=231));exact Zv;apply vX (x:=ex);exact ZC;(refine aK.aft HK ?_;clear cB HK v3 v5 v4;intro If U1 cB HK;have v3:=(HK 1 3 0 Zo Zi Zi).trans h3;have v5:=(HK 1 5 0 Zo Zi Zi).trans h5;have v4:=(HK 1 4 0 Zo Zi Zi).trans h4))|((with_reducible apply Ap (f:=305));exact Zv;apply(Cga ee Zo);exact ZC;exact Zc;exact Zc;(refine aK.aft HK ?_;clear cB HK v3 v5 v4;intro If U1 cB HK;have v3:=(HK 1 3 0 Zo Zi Zi).trans h3;have v5:=(HK 1 5 0 Zo Zi Zi).trans h5;have v4:=(HK 1 4 0 Zo Zi Zi).trans h4))|((with_reducible apply Ap (f:=306));exact Zv;apply(ih eth Zo);exact ZC;exact Zc;exact Zc;exact Zc;(refine aK.aft HK ?_;clear cB HK v3 v5 v4;intro If U1 cB HK;have v3:=(HK 1 3 0 Zo Zi Zi).trans h3;have v5:=(HK 1 5 0 Zo Zi Zi).trans h5;have v4:=(HK 1 4 0 Zo Zi Zi).trans h4))|((with_reducible apply Ap (f:=306));exact Zv;apply(ih eel Zo);exact ZC;exact Zc;exact Zc;exact Zc;(refine aK.aft HK ?_;clear cB HK v3 v5 v4;intro If U1 cB HK;have v3:=(HK 1 3 0 Zo Zi Zi).trans h3;have v5:=(HK 1 5 0 Zo Zi Zi).trans h5;have v4:=(HK 1 4 0 Zo Zi Zi).trans h4))|fail)
   exact⟨l.length - (j+1),Zo,j+1,Zo,Zo,Zm,Zm,Zm,Zm,Zm,Zm,by rw[HT.out];exact cB,HK⟩
 have e1: ¬(j:Int)<l.length:=Zo;have hz:l.take j=l:=Kb Zo;rw[hz] at cB
 repeat' first|refine ZN ?_|refine Z2 ?_ ?_|intro h h';try simp[*,-h] at h'
 exact⟨rfl,cB,HK⟩
theorem sts_n {o n:List (Tx×Th)}{vs:List Tx}{ar:List (Tx×Int)}{fs:List Fu}{i ga gb gc gd ge:Nat}{g3 g5 g4:Nat}: ∀N,N<=1048576-> ∀l:List Sy.St,Ix l<=N-> ∀{d k0:Nat} {hp1:Hp} {s:Bool×Bool},CS o n vs ar fs i ga gb gc gd ge s hp1->hp1 ⟨1,3,0⟩= .box g3 [.fn 231 [.ptr ⟨0,11,0⟩ ga 0,.ptr ⟨0,5,0⟩ gb 0,.ptr ⟨0,7,0⟩ gd 0,.ptr ⟨0,1,0⟩ ge 0,.ptr ⟨0,6,0⟩ gc 0]] false->hp1 ⟨1,5,0⟩= .box g5 [.fn 305 [.ptr ⟨1,3,0⟩ g3 0,.ptr ⟨1,5,0⟩ g5 0]] false->hp1 ⟨1,4,0⟩= .box g4 [.fn 306 [.ptr ⟨1,3,0⟩ g3 0,.ptr ⟨1,5,0⟩ g5 0,.ptr ⟨1,4,0⟩ g4 0]] false->HB P0 Un (Lm X47) (k0+1) d 306 [.sl false 5 (Ik l),.ptr ⟨1,3,0⟩ g3 0,.ptr ⟨1,5,0⟩ g5 0,.ptr ⟨1,4,0⟩ g4 0] hp1 (fun v If=>v= .tup []/\CS o n vs ar fs i ga gb gc gd ge (aQ fs (cC n o) i (I9 l) s) If/\aK (k0+1) hp1 If) (fun _ _=>False)
 |0,h,l,hl,_,_,_,_,hc,h3,h5,h4=>sts_s 0 h (fun l h'=>Zo) l hl hc h3 h5 h4
 |N+1,h,l,hl,_,_,_,_,hc,h3,h5,h4=>sts_s (N+1) h (fun l h' _ _ _ _ hc h3 h5 h4=>sts_n N Zo l Zo hc h3 h5 h4) l hl hc h3 h5 h4
theorem sts_w(l:List Sy.St)(hl:Ix l<=1048576)(hc:CS o n vs ar fs i ga gb gc gd ge s hp1)(h3:hp1 ⟨1,3,0⟩= .box g3 [.fn 231 [.ptr ⟨0,11,0⟩ ga 0,.ptr ⟨0,5,0⟩ gb 0,.ptr ⟨0,7,0⟩ gd 0,.ptr ⟨0,1,0⟩ ge 0,.ptr ⟨0,6,0⟩ gc 0]] false)(h5:hp1 ⟨1,5,0⟩= .box g5 [.fn 305 [.ptr ⟨1,3,0⟩ g3 0,.ptr ⟨1,5,0⟩ g5 0]] false)(h4:hp1 ⟨1,4,0⟩= .box g4 [.fn 306 [.ptr ⟨1,3,0⟩ g3 0,.ptr ⟨1,5,0⟩ g5 0,.ptr ⟨1,4,0⟩ g4 0]] false):HB P0 Un (Lm X47) (k0+1) d 306 [.sl false 5 (Ik l),.ptr ⟨1,3,0⟩ g3 0,.ptr ⟨1,5,0⟩ g5 0,.ptr ⟨1,4,0⟩ g4 0] hp1 (fun v If=>v= .tup []/\CS o n vs ar fs i ga gb gc gd ge (aQ fs (cC n o) i (I9 l) s) If/\aK (k0+1) hp1 If) (fun _ _=>False):=sts_n 1048576 (D5 _) l hl hc h3 h5 h4
end
section
open Go Go.Ab Go.Ab.Sy
theorem GW {d:Nat}{hp1:Hp}{o n:List (Tx×Th)}{vs:List Tx}{ar:List (Tx×Int)}{fs:List Fu}{i ga gb gc gd ge:Nat}{s:Bool×Bool}(nm:Tx)(ps ls:List Tx)(w:Bool)(b:List Sy.St)(hb:Ix b<=1048576)(hc:CS o n vs ar fs i ga gb gc gd ge s hp1):HB P0 Un (Lm X47) 0 d 230 [.agg [tz nm.val,.sl false 1 (Ib ps),.sl false 1 (Ib ls),bz w,.sl false 5 (Ik b)],.fn 231 [.ptr ⟨0,11,0⟩ ga 0,.ptr ⟨0,5,0⟩ gb 0,.ptr ⟨0,7,0⟩ gd 0,.ptr ⟨0,1,0⟩ ge 0,.ptr ⟨0,6,0⟩ gc 0]] hp1 (fun v If=>v= .tup []/\CS o n vs ar fs i ga gb gc gd ge (aQ fs (cC n o) i (I9 b) s) If/\aK 0 hp1 If) (fun _ _=>False):=by
 refine hB (k1:=1) (PR:=fun _ _=>False) Tryz.func230 (B2 Zd) ?_;have HC:=Lib.hid hc;obtain⟨bn,b5,b6,b7,b1,_,_,_⟩:=hc
 repeat' (first|refine ZN ?_|refine Z2 ?_ ?_|(intro h h';try simp[*,-h] at h')|((with_reducible apply Ap (f:=306));exact Zv;apply sts_w (k0:=0) b hb;(focus (refine CS.congr HC.out ?_;intro i c;simp));exact Zc;exact Zc;exact Zc;rintro _ If ⟨rfl,MA,rU⟩)|fail)
 exact⟨rfl,MA,fun d i c hd n1 n2=>(rU d i c Zo n1 n2).trans (by have Uc:d≠1:=Zo;simp[*])⟩
theorem Eta (p:Sy.Pr)(f:Fu): ∀x,(cC (wW f).1 (lS p).1 x).1=4->0<=(cC (wW f).1 (lS p).1 x).2:=by
 intro x h;unfold cC at h⊢
 cases h1:Sy.look (wW f).1 x with
 |some t=>
  rw[h1] at h;simp only[X1] at h⊢;have hm:=Ko h1;rcases J1 hm with h2|h2
  ·cases h2
  ·unfold inL at h2
   rcases nA.1 h2 with h2|h2
   ·obtain⟨i,a,_,h3⟩:=H6 h2
    cases h3
    simp at h
   ·obtain⟨i,a,_,h3⟩:=H6 h2
    cases h3
    simp at h
 |none=>
  rw[h1] at h;simp only[Option.getD_none] at h⊢
  cases h1:Sy.look (lS p).1 x with
  |none=>rw[h1] at h;simp at h
  |some t=>
   rw[h1] at h;simp only[X1] at h⊢;have hm:=Ko h1;rcases J1 hm with h2|h2
   ·cases h2
   ·unfold vH at h2
    rcases nA.1 h2 with h2|h2
    ·rcases nA.1 h2 with h2|h2
     ·obtain⟨i,a,_,h3⟩:=H6 h2
      cases h3
      simp at h
     ·obtain⟨i,a,_,h3⟩:=H6 h2
      cases h3
      simp at h
    ·obtain⟨i,a,_,h3⟩:=H6 h2
     cases h3
     simp
theorem Ml (p:Sy.Pr)(f:Fu): ∀(l:List Fu) (n:Nat) (s:Bool×Bool),bQ p n (l++[f]) s=kZ p (n+l.length) f (bQ p n l s)
 |[],n,s=>rfl
 |g::l,n,s=>by
  show bQ p (n+1) (l++[f]) _=_;rw[Ml p f l (n+1),wP,show n+1+l.length=n+(l.length+1) from Zo];rfl
theorem Tt {p:Sy.Pr}{l:List Fu}{i:Nat}{f:Fu}(h:l[i]?=some f)(s:Bool×Bool):bQ p 0 (l.take (i+1)) s=kZ p i f (bQ p 0 (l.take i) s):=by
 have hi:i<l.length:=(Oh.1 h).1;rw[AU,h];show bQ p 0 (l.take i++[f]) s=_;rw[Ml];simp only[sL,AD (Nat.le_of_lt hi),mH]
theorem S6 (vs:List Tx)(ar:List (Tx×Int))(fs:List Fu)(h1:1≤fs.length)(hs:vs.length+ar.length+cV fs≤1048576):(Lm X47).dat 158 [.agg [.sl false 1 (Ib vs),.sl false 2 (Ih ar),.sl false 5 (fs.map Fu.row)]]=some [iv (lQ ⟨vs,ar,fs⟩)]:=by
 refine fW Tryz.func158 (B3 _ _) ?_;have oJ:=Ema vs ar fs hs;have AL:=Bq fs;obtain⟨o,u0,hou⟩: ∃o u,lS ⟨vs,ar,fs⟩=(o,u):=⟨_,_,rfl⟩;rw[hou] at oJ;obtain⟨ob,ok,or_,ho⟩: ∃b k r,lL nP o= .dmp b k r:=⟨_,_,_,rfl⟩;simp only at oJ;rw[ho] at oJ
 repeat' first|refine ZN ?_|refine Z2 ?_ ?_|intro h h';try simp[*,-h] at h'
 refine Ac (n:=fs.length) (fun s0 m z=> ∃i:Nat,fs.length - i≤m∧i≤fs.length∧z.fr 1= .ptr ⟨0,1,0⟩ 1 0∧z.fr 3= .dmp ob ok or_∧z.fr 5= .ptr ⟨0,5,0⟩ 1 0∧z.fr 6= .ptr ⟨0,6,0⟩ 1 0∧z.fr 20= .sl false 5 (fs.map Fu.row)∧z.fr 21=iv fs.length∧z.fr 22=iv i∧z.hp ⟨0,1,0⟩= .box 1 [.sl false 1 (Ib vs),.sl false 2 (Ih ar),.sl false 5 (fs.map Fu.row)] false∧z.hp ⟨0,5,0⟩= .box 1 [bz (bQ ⟨vs,ar,fs⟩ 0 (fs.take i) (u0,true)).1] false∧z.hp ⟨0,6,0⟩= .box 1 [bz (bQ ⟨vs,ar,fs⟩ 0 (fs.take i) (u0,true)).2] false) ⟨0,Zo,Zo,Zi,Zi,Zi,Zi,Zi,Zi,Zi,Zi,by simp[bQ],by simp[bQ]⟩ ?_;rintro m ⟨fr,hp⟩ ⟨i,hm,hi,f1,f3,f5,f6,f20,f21,f22,b1,b5,b6⟩;simp only at f1 f3 f5 f6 f20 f21 f22 b1 b5 b6;by_cases Ii:i<fs.length
 ·have e1:(i:Int)<fs.length:=Zo
  have hg:fs[i]?=some fs[i]:=Bs Ii;have oF:IntKind.i64.wrap ((i:Int)+1)=(i:Int)+1:=Iw Zo;generalize fs[i]=t at*;have jJ:=Hj hg;have dN:=Ew hg;have iB:=Tt (p:=⟨vs,ar,fs⟩) hg (u0,true);have hF:=Eta ⟨vs,ar,fs⟩ t;rw[hou] at hF;unfold kZ at iB;rw[hou] at iB;obtain⟨t1,t2,t3,t4,t5⟩:=t;simp only[A8] at jJ;simp only[B1] at dN;have hlo:=Hqa t1 t2 t3 t4 t5 Zo;have uV:Ix t5≤1048576:=Zo;obtain⟨n,u1,hnu⟩: ∃n u,wW ⟨t1,t2,t3,t4,t5⟩=(n,u):=⟨_,_,rfl⟩;rw[hnu] at hlo hF iB;obtain⟨nb,nk,nr,hn⟩: ∃b k r,lL nP n= .dmp b k r:=⟨_,_,_,rfl⟩;simp only at hlo hF iB;rw[hn] at hlo;generalize bQ ⟨vs,ar,fs⟩ 0 (fs.take i) (u0,true)=S at*;obtain⟨S1,S2⟩:=S;simp only at b5 b6 iB;have HN:=Lib.hid iB;have HF:=Lib.hid hF;have HE:=Lib.hid e1;clear hg Ii iB hF oJ
  cases S1<;>cases u1
  all_goals have hF:=HF.out
  all_goals have HF:=Lib.hid hF
  repeat' (first|refine ZN ?_|refine Z2 ?_ ?_|(intro h h';try simp[*,-h] at h')|((with_reducible apply Ap (f:=230));exact Zv;apply GW t1 t2 t3 t4 t5 uV;(focus (first|((refine CS.mk (o:=o) (n:=n) (s:=(false,S2)) ?_ ?_ ?_ ?_ ?_ hF hi hs)<;>(simp[*];done))|((refine CS.mk (o:=o) (n:=n) (s:=(true,S2)) ?_ ?_ ?_ ?_ ?_ hF hi hs)<;>(simp[*];done))));rintro _ If ⟨rfl,MA,rU⟩)|fail)
  all_goals have iB:=HN.out
  all_goals refine⟨fs.length - (i+1),Zo,i+1,Zo,Zo,Zm,Zm,Zm,Zm,Zm,Zm,Zm,?_,?_,?_⟩
  all_goals first
   |(rw[iB];simp;exact MA.b5)
   |(rw[iB];simp;exact MA.b6)
   |(simp;exact MA.b1)
 have e1: ¬(i:Int)<fs.length:=Zo;have hz:fs.take i=fs:=Kb Zo;rw[hz] at b5 b6;have hsc:lQ ⟨vs,ar,fs⟩=if (bQ ⟨vs,ar,fs⟩ 0 fs (u0,true)).1=false then 4 else if (bQ ⟨vs,ar,fs⟩ 0 fs (u0,true)).2=false∨(match fs.getLast? with|some f=>Fk f|none=>false)=false then 1 else 0:=by
  unfold lQ;rw[hou];rfl
 rw[hsc];generalize bQ ⟨vs,ar,fs⟩ 0 fs (u0,true)=S at*;obtain⟨S1,S2⟩:=S;simp only at b5 b6;have Ii:fs.length - 1<fs.length:=Zo;have hg:fs[fs.length - 1]?=some fs[fs.length - 1]:=Bs Ii;rw[List.getLast?_eq_getElem?];generalize fs[fs.length - 1]=t at*;rw[hg];have jJ:=Hj hg;obtain⟨t1,t2,t3,t4,t5⟩:=t;simp only[A8] at jJ;obtain⟨q,hq⟩: ∃q:Nat,fs.length=q+1:=⟨fs.length - 1,Zo⟩;rw[hq] at jJ;simp only[Nat.add_sub_cancel] at jJ;have hw2:IntKind.i64.wrap ((fs.length:Int) - 1)=q:=by rw[Bu Zo Zo];omega
 have e3:(q:Int)<fs.length:=Zo;have hmn:decide (t1.val=(⟨#[109,97,105,110]⟩:ByteArray))=decide (t1.val= "main".toUTF8):=by
  rw[show "main".toUTF8=(⟨#[109,97,105,110]⟩:ByteArray) from by decide+kernel]
 clear hg Ii oJ hz hsc hq
 cases S1<;>cases S2<;>cases t4
 repeat' first|refine ZN ?_|refine Z2 ?_ ?_|intro h h';try simp[*,-h] at h'
 all_goals first
  |rfl
  |(simp[Fk];done)
  |(simp only[Fk,←hmn];simp_all;done)
  |(cases t2<;>simp_all[Fk];done)
end
section
open Go Go.Ab Go.Ab.Sy
def EndI (P:Program)(rvs:List ResultVar)(R:AV->Hp->Prop)(e:Ab.Ex)(st:AS):Prop:=e.fine=true/\ ∃v hp',(lT P st.fr rvs).run st.hp=some (v,hp')/\R v hp'
theorem Yi {P:Program}{rvs:List ResultVar}{R:AV->Hp->Prop}{st:AS}{v:AV}{hp':Hp}(h:(lT P st.fr rvs).run st.hp=some (v,hp'))(r:R v hp'):EndI P rvs R .ret st:=⟨rfl,v,hp',h,r⟩
attribute [simp] lT lU
def asks (g gm:Nat):List AV:=[.mp ⟨0,10010,0⟩ gm,.sc .nilFunc,.fn 307 [],.fn 307 [],.fn (309+1000000) [.ptr ⟨0,10012,0⟩ g 0],.fn (310+1000000) [.ptr ⟨0,10012,0⟩ g 0],.fn 307 [],.fn (311+1000000) [.ptr ⟨0,10012,0⟩ g 0],.fn (308+1000000) [.ptr ⟨0,10012,0⟩ g 0],.fn (308+1000000) [.ptr ⟨0,10012,0⟩ g 0],.fn (308+1000000) [.ptr ⟨0,10012,0⟩ g 0]]
theorem Dma (vs:List Tx)(ar:List (Tx×Int))(fs:List Fu)(hs:cV fs<=1048576)(hp1:Hp): ∃v If,(Lm X47).hpc 0 9 233 [.agg [.sl false 1 (Ib vs),.sl false 2 (Ih ar),.sl false 5 (fs.map Fu.row)]] hp1=some (v,If)/\ ∃g gm,v= .ptr ⟨0,10012,0⟩ g 0/\If ⟨0,10012,0⟩= .box g (asks g gm) false/\If ⟨0,10010,0⟩=kF Fu.row gm (Ip fs)/\ ∀d i c,i<10000->If ⟨d,i,c⟩=hp1 ⟨d,i,c⟩:=by
 refine Hta (P:=P0) (E:=Un) (X:=X47) (d:=9) (rvs:=[.tmp 2]) (R:=fun v If=> ∃g gm,v= .ptr ⟨0,10012,0⟩ g 0/\If ⟨0,10012,0⟩= .box g (asks g gm) false/\If ⟨0,10010,0⟩=kF Fu.row gm (Ip fs)/\ ∀d i c,i<10000->If ⟨d,i,c⟩=hp1 ⟨d,i,c⟩) Tryz.func233 (B2 Zd) rfl Aya rfl rfl ?_
 change W P0 (Un.at 10000) 0 _ _ _ (EndI P0 [.tmp 2] _)
 have AL:=Bq fs
 repeat' (first|refine ZN ?_|refine Z2 ?_ ?_|(intro h h';try simp[*,-h] at h')|((with_reducible apply Yi);exact Zc)|fail)
 generalize hgm:(hp1 ⟨0,10010,0⟩).gen+1=gm at*;generalize hgx:(hp1 ⟨0,10012,0⟩).gen+1=g at*;clear hgm hgx;refine Ac (n:=fs.length) (fun s0 m z=> ∃i:Nat,fs.length - i<=m/\i<=fs.length/\z.fr 3= .ptr ⟨0,10012,0⟩ g 0/\z.fr 14= .sl false 5 (fs.map Fu.row)/\z.fr 15=iv fs.length/\z.fr 16=iv i/\z.hp ⟨0,10012,0⟩= .box g [.mp ⟨0,10010,0⟩ gm,.sc .nilFunc,.sc .nilFunc,.sc .nilFunc,.sc .nilFunc,.sc .nilFunc,.sc .nilFunc,.sc .nilFunc,.sc .nilFunc,.sc .nilFunc,.sc .nilFunc] false/\z.hp ⟨0,10010,0⟩=kF Fu.row gm (Ua ((fs.take i).map fun f=>(f.name,f)) ([],true)).1/\ ∀d i c,i<10000->z.hp ⟨d,i,c⟩=hp1 ⟨d,i,c⟩) ⟨0,Zo,Zo,Zi,Zi,Zi,Zi,Zi,by simp[Ua];rfl,fun d i c hi=>by have h1:i≠10001:=Zo;have h2:i≠10010:=Zo;have h3:i≠10012:=Zo;simp[h1,h2,h3]⟩ ?_;rintro m ⟨fr,hp⟩ ⟨i,hm,hi,f3,f14,f15,f16,bx,hq,HK⟩;simp only at f3 f14 f15 f16 bx hq HK;have HK:=Lib.hid HK;by_cases Ii:i<fs.length
 ·have e1:(i:Int)<fs.length:=Zo
  have hg:fs[i]?=some fs[i]:=Bs Ii;have oF:IntKind.i64.wrap ((i:Int)+1)=(i:Int)+1:=Iw Zo;generalize fs[i]=t at*;have jJ:=Hj hg;have iB:Ua ((fs.take (i+1)).map fun f=>(f.name,f)) ([],true)=jL (Ua ((fs.take i).map fun f=>(f.name,f)) ([],true)) (t.name,t):=by
   rw[AU,hg];simp[Ua]
  generalize Ua ((fs.take i).map fun f=>(f.name,f)) ([],true)=S at*;obtain⟨ms,us⟩:=S;simp only at hq;obtain⟨t1,t2,t3,t4,t5⟩:=t;simp only[A8] at jJ;have lG:=Eb ms;have HN:=Lib.hid iB;clear hg Ii iB
  cases hl:Sy.look ms t1 with
  |some t=>
   obtain⟨j,k1,k2,_⟩:=Da (r:=Fu.row) hl 0;have k3:=Fb hl;obtain⟨r1,r2,r3,r4,r5⟩:=t;simp only[A8,mH] at k1 k2;have hq0:=Lib.hid hq;unfold kF at hq;rw[k3] at hq;generalize cF ms=ks at*;generalize dJ Fu.row ms=rs at*;clear lG k3
   repeat' first|refine ZN ?_|refine Z2 ?_ ?_|intro h h';try simp[*,-h] at h'
   have HK:=HK.out;have hq:=hq0.out;have iB:=HN.out;rw[L3 hl] at iB;exact⟨fs.length - (i+1),Zo,i+1,Zo,Zo,Zm,Zm,Zm,Zm,Zm,by rw[iB];simpa using hq,fun d i c hi=>by have h1:i≠10005:=Zo;have h2:i≠10006:=Zo;simp[h1,h2,HK,hi]⟩
  |none=>
   have k1:=Cu hl 0;have iB:=HN.out;rw[L4 hl] at iB;have rQ:=Kn Fu.row gm ms (t1,⟨t1,t2,t3,t4,t5⟩);have HN:=Lib.hid iB;clear iB;unfold kF at hq;generalize cF ms=ks at*;generalize dJ Fu.row ms=rs at*;generalize (!ms.isEmpty)=ag at*;have HS:=Lib.hid rQ;clear rQ
   repeat' first|refine ZN ?_|refine Z2 ?_ ?_|intro h h';try simp[*,-h] at h'
   have HK:=HK.out;have iB:=HN.out;have rQ:=HS.out;exact⟨fs.length - (i+1),Zo,i+1,Zo,Zo,Zm,Zm,Zm,Zm,Zm,by rw[iB,rQ];simp,fun d i c hi=>by have h1:i≠10005:=Zo;have h2:i≠10006:=Zo;have h3:i≠10010:=Zo;simp[h1,h2,h3,HK,hi]⟩
 have e1: ¬(i:Int)<fs.length:=Zo;have hz:fs.take i=fs:=Kb Zo;rw[hz] at hq;clear hz
 repeat' (first|refine ZN ?_|refine Z2 ?_ ?_|(intro h h';try simp[*,-h] at h')|((with_reducible apply Yi);exact Zc)|fail)
 have HK:=HK.out;exact⟨g,gm,rfl,by simp[asks, *],by simpa[Ip] using hq,fun d i c hi=>by have h3:i≠10012:=Zo;simp[h3,HK,hi]⟩
end
section
open Go Go.Ab Go.Ab.Sy
variable {rs:List (List AV)}{m:List (Tx×Fu)}{args:List AV}{ks:List Value}{k g gm f:Nat}{s:Tx}
@[simp] theorem lk_0 {i j c c':Nat}:((⟨0,i,c⟩:Nm)=⟨k+1,j,c'⟩)=False:=Zi
def TC (g gm:Nat)(ag:Bool)(ks:List Value)(rs:List (List AV))(k f:Nat)(args:List AV)(val:AV):Prop:= ∃G:Nat->Hp->Hp,∀d hp,hp ⟨0,10012,0⟩= .box g [.mp ⟨0,10010,0⟩ gm,.sc .nilFunc,.fn 307 [],.fn 307 [],.fn 1000309 [.ptr ⟨0,10012,0⟩ g 0],.fn 1000310 [.ptr ⟨0,10012,0⟩ g 0],.fn 307 [],.fn 1000311 [.ptr ⟨0,10012,0⟩ g 0],.fn 1000308 [.ptr ⟨0,10012,0⟩ g 0],.fn 1000308 [.ptr ⟨0,10012,0⟩ g 0],.fn 1000308 [.ptr ⟨0,10012,0⟩ g 0]] false->hp ⟨0,10010,0⟩= .map gm ag ks rs false->
 (Lm X47).hpc k d f args hp=some (val,G d hp)/\ ∀d' i c,d'<=k->G d hp ⟨d',i,c⟩=hp ⟨d',i,c⟩
theorem TC.of{ag:Bool}{val:AV}(h: ∀d hp,hp ⟨0,10012,0⟩= .box g [.mp ⟨0,10010,0⟩ gm,.sc .nilFunc,.fn 307 [],.fn 307 [],.fn 1000309 [.ptr ⟨0,10012,0⟩ g 0],.fn 1000310 [.ptr ⟨0,10012,0⟩ g 0],.fn 307 [],.fn 1000311 [.ptr ⟨0,10012,0⟩ g 0],.fn 1000308 [.ptr ⟨0,10012,0⟩ g 0],.fn 1000308 [.ptr ⟨0,10012,0⟩ g 0],.fn 1000308 [.ptr ⟨0,10012,0⟩ g 0]] false->hp ⟨0,10010,0⟩= .map gm ag ks rs false->
  HB P0 Un (Lm X47) k d f args hp (fun v If=>v=val/\ ∀d' i c,d'<=k->If ⟨d',i,c⟩=hp ⟨d',i,c⟩) (fun _ _=>False)):TC g gm ag ks rs k f args val:=by
 have h': ∀d hp,∃If,hp ⟨0,10012,0⟩= .box g [.mp ⟨0,10010,0⟩ gm,.sc .nilFunc,.fn 307 [],.fn 307 [],.fn 1000309 [.ptr ⟨0,10012,0⟩ g 0],.fn 1000310 [.ptr ⟨0,10012,0⟩ g 0],.fn 307 [],.fn 1000311 [.ptr ⟨0,10012,0⟩ g 0],.fn 1000308 [.ptr ⟨0,10012,0⟩ g 0],.fn 1000308 [.ptr ⟨0,10012,0⟩ g 0],.fn 1000308 [.ptr ⟨0,10012,0⟩ g 0]] false->hp ⟨0,10010,0⟩= .map gm ag ks rs false->(Lm X47).hpc k d f args hp=some (val,If)/\ ∀d' i c,d'<=k->If ⟨d',i,c⟩=hp ⟨d',i,c⟩:=by
  intro d hp;by_cases h1:hp ⟨0,10012,0⟩= .box g [.mp ⟨0,10010,0⟩ gm,.sc .nilFunc,.fn 307 [],.fn 307 [],.fn 1000309 [.ptr ⟨0,10012,0⟩ g 0],.fn 1000310 [.ptr ⟨0,10012,0⟩ g 0],.fn 307 [],.fn 1000311 [.ptr ⟨0,10012,0⟩ g 0],.fn 1000308 [.ptr ⟨0,10012,0⟩ g 0],.fn 1000308 [.ptr ⟨0,10012,0⟩ g 0],.fn 1000308 [.ptr ⟨0,10012,0⟩ g 0]] false/\hp ⟨0,10010,0⟩= .map gm ag ks rs false
  ·rcases h d hp h1.1 h1.2 with⟨v,If,h2,rfl,h3⟩|⟨_,_,_,_,h2⟩
   ·exact⟨If,fun _ _=>⟨h2,h3⟩⟩
   ·exact h2.elim
  ·exact⟨hp,fun x y=>(h1 ⟨x,y⟩).elim⟩
 exact⟨fun d hp=>Classical.choose (h' d hp),fun d hp=>GL (h' d hp)⟩
theorem TC.rules{ag:Bool}{val:AV}(h:TC g gm ag ks rs k f args val): ∃G:Nat->Hp->Hp,(∀(d:Nat) (hp:Hp),hp ⟨0,10012,0⟩= .box g [.mp ⟨0,10010,0⟩ gm,.sc .nilFunc,.fn 307 [],.fn 307 [],.fn 1000309 [.ptr ⟨0,10012,0⟩ g 0],.fn 1000310 [.ptr ⟨0,10012,0⟩ g 0],.fn 307 [],.fn 1000311 [.ptr ⟨0,10012,0⟩ g 0],.fn 1000308 [.ptr ⟨0,10012,0⟩ g 0],.fn 1000308 [.ptr ⟨0,10012,0⟩ g 0],.fn 1000308 [.ptr ⟨0,10012,0⟩ g 0]] false->hp ⟨0,10010,0⟩= .map gm ag ks rs false->(Lm X47).hpc k d f args hp=some (val,G d hp))/\
  (∀(d:Nat) (hp:Hp),hp ⟨0,10012,0⟩= .box g [.mp ⟨0,10010,0⟩ gm,.sc .nilFunc,.fn 307 [],.fn 307 [],.fn 1000309 [.ptr ⟨0,10012,0⟩ g 0],.fn 1000310 [.ptr ⟨0,10012,0⟩ g 0],.fn 307 [],.fn 1000311 [.ptr ⟨0,10012,0⟩ g 0],.fn 1000308 [.ptr ⟨0,10012,0⟩ g 0],.fn 1000308 [.ptr ⟨0,10012,0⟩ g 0],.fn 1000308 [.ptr ⟨0,10012,0⟩ g 0]] false->hp ⟨0,10010,0⟩= .map gm ag ks rs false-> ∀(d' i c:Nat),d'<=k->G d hp ⟨d',i,c⟩=hp ⟨d',i,c⟩):=by
 obtain⟨G,hG⟩:=h;exact⟨G,fun d hp x y=>(hG d hp x y).1,fun d hp x y=>(hG d hp x y).2⟩
structure TM (m:List (Tx×Fu))(ag:Bool)(ks:List Value)(rs:List (List AV)):Prop where
 a:ag= !m.isEmpty
 k:ks=cF m
 r:rs=dJ Fu.row m
theorem TM.some{ag:Bool}(h:TM m ag ks rs){t:Fu}(hl:Sy.look m s=Option.some t): ∃j,dY (.string s.val) ks 0=Option.some (Option.some j)/\rs[j]?=Option.some t.row/\ag=true:=by
 obtain⟨rfl,rfl,rfl⟩:=h;obtain⟨j,h1,h2,_⟩:=Da (r:=Fu.row) hl 0;exact⟨j,by simpa using h1,h2,Fb hl⟩
theorem TM.none{ag:Bool}(h:TM m ag ks rs)(hl:Sy.look m s=Option.none):dY (.string s.val) ks 0=Option.some Option.none:=by
 obtain⟨rfl,rfl,rfl⟩:=h;exact Cu hl 0
theorem A8a{ag:Bool}(N:Nat)(hN:N<=1048576)(ih: ∀e:Sy.Ex,e.size<=N-> ∀k,TC g gm ag ks rs k 399 [.ptr ⟨0,10012,0⟩ g 0,.agg e.row] (iv (vC m e)))(l:List Sy.Ex)(hl:Uv l<=N)(t:Int)(k:Nat):TC g gm ag ks rs k 313 [.ptr ⟨0,10012,0⟩ g 0,.sl false 5 (In l),iv t] (bv (Ud m l t)):=by
 refine TC.of fun d hp1 b1 m1=>?_
 refine hB (k1:=k+1) (PR:=fun _ _=>False) Tryz.func313 (B2 Zd) ?_;have Ij:l.length<=1048576:=by have:=A4 l;omega
 repeat' first|refine ZN ?_|refine Z2 ?_ ?_|intro h h';try simp[*,-h] at h'
 refine Ac (n:=l.length) (fun s0 m' z=> ∃j:Nat,l.length - j<=m'/\j<=l.length/\z.fr 0= .ptr ⟨0,10012,0⟩ g 0/\z.fr 2=iv t/\z.fr 9= .sl false 5 (In l)/\z.fr 10=iv l.length/\z.fr 11=iv j/\z.hp ⟨0,10012,0⟩= .box g [.mp ⟨0,10010,0⟩ gm,.sc .nilFunc,.fn 307 [],.fn 307 [],.fn 1000309 [.ptr ⟨0,10012,0⟩ g 0],.fn 1000310 [.ptr ⟨0,10012,0⟩ g 0],.fn 307 [],.fn 1000311 [.ptr ⟨0,10012,0⟩ g 0],.fn 1000308 [.ptr ⟨0,10012,0⟩ g 0],.fn 1000308 [.ptr ⟨0,10012,0⟩ g 0],.fn 1000308 [.ptr ⟨0,10012,0⟩ g 0]] false/\z.hp ⟨0,10010,0⟩= .map gm ag ks rs false/\(∀d' i c,d'<=k->z.hp ⟨d',i,c⟩=hp1 ⟨d',i,c⟩)/\Ud m l t=Ud m (l.drop j) t) ⟨0,Zo,Zo,Zi,Zi,Zi,Zi,Zi,by simpa using b1,by simpa using m1,fun _ _ _ _=>rfl,Zi⟩ ?_;rintro m' ⟨fr,hp⟩ ⟨j,hm,hj,f0,f2,f9,f10,f11,b2,m2,HK,hd⟩;simp only at f0 f2 f9 f10 f11 b2 m2 HK;by_cases Ii:j<l.length
 ·have e1:(j:Int)<l.length:=Zo
  have hg:l[j]?=some l[j]:=Bs Ii;have oF:IntKind.i64.wrap ((j:Int)+1)=(j:Int)+1:=Iw Zo;rw[Ng Ii] at hd;generalize l[j]=e at*;have jJ:=Jt hg;have dN:=C5 hg;have tcE:=ih e Zo (k+1);rw[No] at hd;generalize vC m e=te at*;obtain⟨ek,eo,en,ex,ekids⟩:=e;simp only[Ag] at jJ tcE;obtain⟨G1,a1,c1⟩:=tcE.rules;have HD:=Lib.hid hd;have HK:=Lib.hid HK;clear hg Ii hd b1 m1
  repeat' first|refine ZN ?_|refine Z2 ?_ ?_|intro h h';try simp[*,-h] at h'
  all_goals have hd:=HD.out
  all_goals have HK:=HK.out
  ·exact⟨by rw[hd];simp[*],fun d' i c hd=>by have Uc:d'≠k+1:=Zo;have gI:d'<=k+1:=Zo;simp[*]⟩
  ·exact⟨l.length - (j+1),Zo,j+1,Zo,Zo,Zm,Zm,Zm,Zm,Zm,Zm,Zm,fun d' i c hd=>by have Uc:d'≠k+1:=Zo;have gI:d'<=k+1:=Zo;simp[*],by rw[hd];simp[*]⟩
 ·have e1: ¬(j:Int)<l.length:=Zo
  have Uc:Ud m l t=true:=by rw[hd,zB Zo];simp
  clear hd
  repeat' first|refine ZN ?_|refine Z2 ?_ ?_|intro h h';try simp[*,-h] at h'
  exact⟨by rw[Uc],HK⟩
theorem Daa{ag:Bool}(ek eo en:Int)(ex:Tx)(l:List Sy.Ex)(ih: ∀k,TC g gm ag ks rs k 313 [.ptr ⟨0,10012,0⟩ g 0,.sl false 5 (In l),iv 1] (bv (Ud m l 1)))(k:Nat):TC g gm ag ks rs k 309 [.ptr ⟨0,10012,0⟩ g 0,.agg [iz ek,iz eo,uz en,tz ex.val,.sl false 5 (In l)]] (iv (if Ud m l 1 then 1 else 0)):=by
 refine TC.of fun d hp1 b1 m1=>?_
 refine hB (k1:=k+1) (PR:=fun _ _=>False) Tryz.func309 (B2 Zd) ?_;have tcA:=ih (k+1);obtain⟨G1,a1,c1⟩:=tcA.rules;clear ih;generalize Ud m l 1=ta at*
 repeat' first|refine ZN ?_|refine Z2 ?_ ?_|intro h h';try simp[*,-h] at h'
 all_goals refine⟨?_,fun d' i c hd=>by have Uc:d'≠k+1:=Zo;have gI:d'<=k+1:=Zo;simp[*]⟩
 all_goals (first|(simp[*];done)|(simp_all;done))
theorem Nn{ag:Bool}(ek eo en:Int)(ex:Tx)(l:List Sy.Ex)(ih: ∀k,TC g gm ag ks rs k 313 [.ptr ⟨0,10012,0⟩ g 0,.sl false 5 (In l),iv 2] (bv (Ud m l 2)))(k:Nat):TC g gm ag ks rs k 308 [.ptr ⟨0,10012,0⟩ g 0,.agg [iz ek,iz eo,uz en,tz ex.val,.sl false 5 (In l)]] (iv (if Ud m l 2 then 2 else 0)):=by
 refine TC.of fun d hp1 b1 m1=>?_
 refine hB (k1:=k+1) (PR:=fun _ _=>False) Tryz.func308 (B2 Zd) ?_;have tcA:=ih (k+1);obtain⟨G1,a1,c1⟩:=tcA.rules;clear ih;generalize Ud m l 2=ta at*
 repeat' first|refine ZN ?_|refine Z2 ?_ ?_|intro h h';try simp[*,-h] at h'
 all_goals refine⟨?_,fun d' i c hd=>by have Uc:d'≠k+1:=Zo;have gI:d'<=k+1:=Zo;simp[*]⟩
 all_goals (first|(simp[*];done)|(simp_all;done))
theorem tyOp_w{ag:Bool}(ek eo en:Int)(ex:Tx)(l:List Sy.Ex)(ih: ∀k,TC g gm ag ks rs k 313 [.ptr ⟨0,10012,0⟩ g 0,.sl false 5 (In l),iv 1] (bv (Ud m l 1)))(k:Nat):TC g gm ag ks rs k 311 [.ptr ⟨0,10012,0⟩ g 0,.agg [iz ek,iz eo,uz en,tz ex.val,.sl false 5 (In l)]] (iv (if Ud m l 1 then(if eo=14\/eo=15 then 2 else 1) else 0)):=by
 refine TC.of fun d hp1 b1 m1=>?_
 refine hB (k1:=k+1) (PR:=fun _ _=>False) Tryz.func311 (B2 Zd) ?_;have tcA:=ih (k+1);obtain⟨G1,a1,c1⟩:=tcA.rules;clear ih;generalize Ud m l 1=ta at*
 repeat' first|refine ZN ?_|refine Z2 ?_ ?_|intro h h';try simp[*,-h] at h'
 all_goals refine⟨?_,fun d' i c hd=>by have Uc:d'≠k+1:=Zo;have gI:d'<=k+1:=Zo;simp[*]⟩
 all_goals (first|(simp[*];done)|(simp_all;done))
end
end Go.Proofs.YtggghdmdjpianaaGreatDoor
