/- A part of the proof: Ne, Ni, Sm, Ma. -/
import Derived.Test.YtggghdmdjpianaaGreatDoorC04
set_option linter.unusedSimpArgs false
set_option linter.unusedVariables false
namespace Go.Ab.Sy
section
variable {s:ByteArray}{i j:Nat}
def mS (c:UInt8):Bool:=(decide (97<=c)&&decide (c<=122))||(decide (65<=c)&&decide (c<=90))
def aR (c:UInt8):Bool:=decide (48<=c)&&decide (c<=57)
def bJ (c:UInt8):Bool:=mS c||(aR c||decide (c=95))
def aM (s:ByteArray)(i:Nat):UInt8:=s.data.getD i 0
def oP (s:ByteArray)(p:UInt8->Bool):Nat->Nat->Nat
 |0,i=>i
 |f+1,i=>if i<s.size/\p (aM s i)=true then oP s p f (i+1) else i
def U0 (s:ByteArray)(p:UInt8->Bool)(i:Nat):Nat:=oP s p (s.size - i) i
theorem Cfa (s:ByteArray)(p:UInt8->Bool): ∀f i,i<=oP s p f i/\(i<=s.size->oP s p f i<=s.size)
 |0,i=>⟨D5 _,fun h=>h⟩
 |f+1,i=>by
  unfold oP
  split
  ·rename_i h
   have a:=Cfa s p f (i+1);exact⟨Zo,fun _=>a.2 Zo⟩
  ·exact⟨D5 _,fun h=>h⟩
theorem Bf (s:ByteArray)(p:UInt8->Bool)(i:Nat)(h:i<s.size)(hp:p (aM s i)=true):U0 s p i=U0 s p (i+1):=by
 unfold U0;rw[show s.size - i=(s.size - (i+1))+1 from Zo,oP,Ka ⟨h,hp⟩]
theorem B6 (s:ByteArray)(p:UInt8->Bool)(i:Nat)(h: ¬(i<s.size/\p (aM s i)=true)):U0 s p i=i:=by
 unfold U0
 cases s.size - i with
 |zero=>rfl
 |succ k=>rw[oP,Jx h]
theorem By (s:ByteArray)(p:UInt8->Bool)(i:Nat):i<=U0 s p i/\(i<=s.size->U0 s p i<=s.size):=Cfa s p _ i
theorem Xp (s:ByteArray)(p:UInt8->Bool): ∀f i j,i<=j->j<oP s p f i->p (aM s j)=true
 |0,i,j,h1,h2=>by unfold oP at h2;omega
 |f+1,i,j,h1,h2=>by
  unfold oP at h2
  split at h2
  ·rename_i h
   by_cases e:i=j
   ·rw[<-e];exact h.2
   ·exact Xp s p f (i+1) j Zo h2
  ·omega
theorem K4{k:Nat}(hk:i+k<j)(hj:j<=s.size):aM (s.extract i j) k=aM s (i+k):=by
 unfold aM;rw[Nh,Nh,Ady,Array.getElem?_extract];have hs:s.size=s.data.size:=rfl;rw[Ka Zo]
theorem MQ (s:ByteArray)(p:UInt8->Bool)(i k:Nat)(hk:i+k<U0 s p i)(hi:i<=s.size):p (aM (s.extract i (U0 s p i)) k)=true:=by
 rw[K4 hk ((By s p i).2 hi)];exact Xp s p _ i (i+k) Zo hk
def iO (s:ByteArray):Nat->Nat->Nat->Option Nat
 |0,_,v=>some v
 |k+1,i,v=>if 4294967295<v*10+((aM s i).toNat - 48) then none else iO s k (i+1) (v*10+((aM s i).toNat - 48))
def bY (s:ByteArray)(i j:Nat):ByteArray:=s.extract i j
def Iy (s:ByteArray)(i:Nat)(w:ByteArray):Bool:=decide (i+w.size<=s.size)&&decide (bY s i (i+w.size)=w)
def aP :List ByteArray:=[dP,aT,cR,bN,nV,dI,bE,aA,fL,cH]
def U6 (s:ByteArray):Bool:=aP.any fun w=>decide (w=s)
def aF :List ByteArray:=[⟨#[60,60]⟩,⟨#[62,62]⟩,⟨#[61,61]⟩,⟨#[38,38]⟩,⟨#[124,124]⟩,⟨#[40]⟩,⟨#[41]⟩,⟨#[123]⟩,⟨#[125]⟩,⟨#[91]⟩,⟨#[93]⟩,⟨#[59]⟩,⟨#[44]⟩,⟨#[61]⟩,⟨#[43]⟩,⟨#[45]⟩,⟨#[42]⟩,⟨#[47]⟩,⟨#[37]⟩,⟨#[38]⟩,⟨#[124]⟩,⟨#[94]⟩,⟨#[60]⟩,⟨#[33]⟩]
def iD (s:ByteArray)(i:Nat):Except Int (Int×ByteArray×Int):=
 if aR (aM s i)=true then match iO s (U0 s aR i - i) i 0 with
  |some v=> .ok (2,bY s i (U0 s aR i),v)
  |none=> .error 2
 else if aM s i=39 then
  if i+2<s.size/\aM s (i+2)=39/\32<=aM s (i+1)/\aM s (i+1)<=126/\aM s (i+1)≠39/\aM s (i+1)≠92 then .ok (2,bY s i (i+3),(aM s (i+1)).toNat)
  else .error 3
 else if mS (aM s i)=true then
  if 20<U0 s bJ i - i then .error 2
  else .ok (if U6 (bY s i (U0 s bJ i)) then 3 else 1,bY s i (U0 s bJ i),0)
 else match aF.find? (Iy s i) with
  |some w=> .ok (4,w,0)
  |none=> .error 3
def dH (s:ByteArray):Nat->Nat->List (Int×ByteArray×Int×Int)->Except Int (List (Int×ByteArray×Int×Int))
 |0,_,_=> .error 0
 |f+1,i,l=>
  if¬i<s.size then .ok l
  else if aM s i=32\/aM s i=9\/aM s i=10 then dH s f (i+1) l
  else if Iy s i ⟨#[47,47]⟩=true then dH s f (U0 s (fun c=>decide (c≠10)) i) l
  else match iD s i with
   | .error e=> .error e
   | .ok t=>dH s f (i+t.2.1.size) (l++[(t.1,t.2.1,t.2.2,(i:Int))])
def gW (s:ByteArray):Except Int (List (Int×ByteArray×Int×Int)):=if 20000<s.size then .error 2 else dH s (s.size+1) 0 []
theorem Ds(h:i<=j)(hj:j<=s.size):(bY s i j).size=j - i:=by
 unfold bY;rw[ByteArray.size_extract];omega
theorem Dj{t:Int×ByteArray×Int}(hi:i<s.size)(h:iD s i= .ok t):0<t.2.1.size/\i+t.2.1.size<=s.size:=by
 unfold iD at h
 split at h
 ·rename_i hd
  have a:=Bf s aR i hi hd;have b:=By s aR (i+1)
  split at h
  ·cases h
   show 0<(bY s i (U0 s aR i)).size/\_;simp only;rw[Ds Zo (by rw[a];exact b.2 Zo)];have:=b.2 Zo;omega
  ·cases h
 split at h
 ·split at h
  ·rename_i hc
   cases h
   simp only;rw[Ds Zo Zo];omega
  ·cases h
 split at h
 ·rename_i hl
  have a:=Bf s bJ i hi (by unfold bJ;rw[hl];rfl);have b:=By s bJ (i+1);have c:=b.2 Zo
  split at h
  ·cases h
  ·cases h
   simp only;rw[Ds Zo Zo];omega
 split at h
 ·rename_i w hw
  cases h
  have h1:=List.find?_some hw;have h2:=List.mem_of_find?_eq_some hw;simp only[Iy,Ed,oW] at h1;refine⟨?_,h1.1⟩;have cU: ∀w∈aF,0<w.size:=Zd;exact cU w h2
 ·cases h
end
section
def Tu (fs:List Fu)(s:Tx):Option Fu:=(I4 (fs.map (·.name)) s).bind fun k=>fs[k]?
theorem Ox (fs:List Fu)(s:Tx):look (Ip fs) s=Tu fs s:=by
 unfold Ip Tu;rw[Fg];show look (fs.map fun f=>(f.name,f)) s=_
 induction fs with
 |nil=>rfl
 |cons f fs ih=>
  rw[T9,show((f.name,f)::fs.map fun f=>(f.name,f))=[(f.name,f)]++fs.map fun f=>(f.name,f) from rfl,Cj,He,ih];simp only[T9,I4];by_cases h:f.name=s
  ·simp[h]
  ·simp only[h,lJ,Option.none_or]
   cases I4 (fs.map (·.name)) s with
   |none=>rfl
   |some k=>rfl
def jH (fs:List Fu)(s:Tx):Int:=match I4 (fs.map (·.name)) s with
 |some k=>k
 |none=> -1
theorem Qz (fs:List Fu)(s:Tx):jH fs s<0↔(look (Ip fs) s).isSome=false:=by
 rw[Ox];unfold jH Tu
 cases h:I4 (fs.map (·.name)) s with
 |none=>simp
 |some k=>
  have:=Cw h;simp only[Aco] at this;simp only[Adm,Bs this,Option.isSome_some];constructor
  ·intro h';omega
  ·intro h';cases h'
theorem Dwa {fs:List Fu}{s:Tx}(h: ¬jH fs s<0): ∃(k:Nat) (f:Fu),jH fs s=k/\fs[k]?=some f/\look (Ip fs) s=some f:=by
 unfold jH at h⊢
 cases hp:I4 (fs.map (·.name)) s with
 |none=>rw[hp] at h;simp at h
 |some k=>
  have:=Cw hp;simp only[Aco] at this;refine⟨k,fs[k],rfl,Bs this,?_⟩;rw[Ox];unfold Tu;rw[hp];exact Bs this
def uB (nb:Tx->Bool)(p:Pr):Int:=if qP nb p=false then 7 else if kQ p≠0 then kQ p else kN p
theorem Dja (nb:Tx->Bool)(hn:nb gD=false)(p:Pr):uB nb p=fE nb p:=by
 unfold uB fE;rw[BK nb hn,Qn]
end
section
open Go Go.Ab
variable {s:Tx}
section
variable {T:Type}
def cF (m:List (Tx×T)):List Value:=m.map fun x=> .string x.1.val
def dJ (r:T->List AV)(m:List (Tx×T)):List (List AV):=m.map fun x=>r x.2
def kF (r:T->List AV)(g:Nat)(m:List (Tx×T)):It:= .map g (!m.isEmpty) (cF m) (dJ r m) false
def lL (r:T->List AV)(m:List (Tx×T)):AV:= .dmp (!m.isEmpty) (cF m) (dJ r m)
theorem Cu {m:List (Tx×T)}(h:look m s=none): ∀n,dY (.string s.val) (cF m) n=some none:=by
 induction m with
 |nil=>intro n;rfl
 |cons x m ih=>
  intro n;unfold look at h;rw[List.find?_cons] at h;by_cases hx:x.1=s
  ·simp[hx] at h
  ·have hv:x.1.val≠s.val:=fun e=>hx (Tx.ext e)
   simp only[hx,decide_false] at h;have LQ:s.val≠x.1.val:=fun e=>hv e.symm
   simp only[cF,T9,dY,jR,LQ,decide_false];exact ih h (n+1)
theorem Da {r:T->List AV}{m:List (Tx×T)}{t:T}(h:look m s=some t): ∀n,∃i,dY (.string s.val) (cF m) n=some (some (n+i))/\(dJ r m)[i]?=some (r t)/\m[i]?=some (s,t):=by
 induction m with
 |nil=>cases h
 |cons x m ih=>
  intro n;unfold look at h;rw[List.find?_cons] at h;by_cases hx:x.1=s
  ·simp only[hx,decide_true,wD,Bc] at h
   obtain⟨a,b⟩:=x;simp only at hx h;subst hx h;exact⟨0,by simp[cF,dY,jR],by simp[dJ],rfl⟩
  ·have LQ:s.val≠x.1.val:=fun e=>hx (Tx.ext e.symm)
   simp only[hx,decide_false] at h;obtain⟨i,h1,h2,h3⟩:=ih h (n+1);refine⟨i+1,?_,by simpa[dJ] using h2,by simpa using h3⟩;simp only[cF,T9,dY,jR,LQ,decide_false];rw[show n+(i+1)=n+1+i from Zo];exact h1
theorem Fb {m:List (Tx×T)}{t:T}(h:look m s=some t):(!m.isEmpty)=true:=by
 cases m with
 |nil=>cases h
 |cons _ _=>rfl
theorem Z9 (m:List (Tx×T))(x:Tx×T):cF (m++[x])=cF m++[.string x.1.val]:=by simp[cF]
theorem Z7 (r:T->List AV)(m:List (Tx×T))(x:Tx×T):dJ r (m++[x])=dJ r m++[r x.2]:=by simp[dJ]
theorem Kn (r:T->List AV)(g:Nat)(m:List (Tx×T))(x:Tx×T):kF r g (m++[x])= .map g true (cF m++[.string x.1.val]) (dJ r m++[r x.2]) false:=by
 rw[kF,Z9,Z7];simp
theorem Eb (m:List (Tx×T)):cF m=[]\/(!m.isEmpty)=true:=by cases m<;>simp[cF]
end
def nP (t:Th):List AV:=[iz t.1,iz t.2]
end
section
open Go Go.Ab
variable {n k:Int}{s:Tx}
abbrev Sy.Fd :=Tx->Bool×Int
def iA (t:Bool×Int):List AV:=[bz t.1,iz t.2]
section
variable (fd:Sy.Fd)
mutual
def prE :Ex->List AV
 | .mk k o n s l=>[iz k,iz o,uz n,bz (fd s).1,iz (fd s).2,.sl false 6 (iM l)]
def iM :List Ex->List (List AV)
 |[]=>[]
 |e::l=>prE e::iM l
end
theorem Mz : ∀l,iM fd l=l.map (prE fd)
 |[]=>by rw[iM];rfl
 |e::l=>by rw[iM,Mz l];rfl
mutual
def prS :St->List AV
 | .mk k s e t f=>[iz k,bz (fd s).1,iz (fd s).2,.sl false 6 (iM fd e),.sl false 6 (fM t),.sl false 6 (fM f)]
def fM :List St->List (List AV)
 |[]=>[]
 |e::l=>prS e::fM l
end
theorem My : ∀l,fM fd l=l.map (prS fd)
 |[]=>by rw[fM];rfl
 |e::l=>by rw[fM,My l];rfl
theorem Y9 (k o n:Int)(s:Tx)(l:List Ex):prE fd (.mk k o n s l)=[iz k,iz o,uz n,bz (fd s).1,iz (fd s).2,.sl false 6 (iM fd l)]:=by rw[prE]
theorem Y8 (k:Int)(s:Tx)(e:List Ex)(t f:List St):prS fd (.mk k s e t f)=[iz k,bz (fd s).1,iz (fd s).2,.sl false 6 (iM fd e),.sl false 6 (fM fd t),.sl false 6 (fM fd f)]:=by rw[prS]
@[simp] theorem Mg (l:List Ex):(iM fd l).length=l.length:=by simp[Mz]
@[simp] theorem Vw (l:List St):(fM fd l).length=l.length:=by simp[My]
end
def uU (n:Int):Prop:=0<=n/\n<4294967296
mutual
def yC :Ex->Prop
 | .mk _ _ n _ l=>uU n/\jI l
def jI :List Ex->Prop
 |[]=>True
 |e::l=>yC e/\jI l
end
mutual
def nuS :St->Prop
 | .mk _ _ e t f=>jI e/\iE t/\iE f
def iE :List St->Prop
 |[]=>True
 |e::l=>nuS e/\iE l
end
section
variable (fd:Sy.Fd)(nv na w:Nat)(ws:List Nat)
def goW (s:Tx):Prop:= ∃j:Nat,(fd s).2=j/\if (fd s).1=true then j<w else j<nv
def MI (s:Tx):Prop:= ∃j:Nat,(fd s).2=j/\j<na
def goF (s:Tx)(n:Nat):Prop:= ∃j wj:Nat,(fd s).2=j/\ws[j]?=some wj/\n<=wj
mutual
def goE :Ex->Prop
 | .mk k _ n s l=>uU n/\(k=1\/(k=2/\goW fd nv w s)\/(k=3/\MI fd na s/\l.length=1)\/(k=4/\goF fd ws s l.length)\/k=5\/(k=6/\l.length=2)\/(k=7/\l.length=1)\/(k=8/\l.length=2)\/(k=9/\l.length=2))/\vS l
def vS :List Ex->Prop
 |[]=>True
 |e::l=>goE e/\vS l
end
mutual
def goS :St->Prop
 | .mk k s e t f=>((k=1/\goW fd nv w s/\e.length=1)\/(k=2/\MI fd na s/\e.length=2)\/(k=3/\e.length=1)\/(k=4/\e.length=1)\/(k=5/\e.length=1)\/(k=6/\goF fd ws s e.length)\/(k=7/\e.length<=1))/\vS fd nv na w ws e/\qD t/\qD f
def qD :List St->Prop
 |[]=>True
 |e::l=>goS e/\qD l
end
end
def jW (p:Pr):List (Tx×(Bool×Int)):=num (fun i s=>(s,(false,i))) 0 p.vars++num (fun i (a:Tx×Int)=>(a.1,(false,i))) 0 p.arrays++num (fun i (f:Fu)=>(f.name,(false,i))) 0 p.funcs
def sO (f:Fu):List (Tx×(Bool×Int)):=num (fun i s=>(s,(true,i))) 0 f.params++num (fun i s=>(s,(true,i))) f.params.length f.locals
def uM (i o:List (Tx×(Bool×Int)))(s:Tx):Bool×Int:=(look i s).getD ((look o s).getD (false,0))
theorem Ei {α:Type}(nm:α->Tx)(c:Bool)(s:Tx): ∀(l:List α) (n:Nat),look (num (fun i a=>(nm a,(c,i))) n l) s=(I4 (l.map nm) s).map fun(k:Nat)=>(c,((n+k:Nat):Int))
 |[],n=>rfl
 |a::l,n=>by
  simp only[num,T9,I4];rw[show((nm a,(c,(n:Int)))::num (fun i a=>(nm a,(c,i))) (n+1) l)=[(nm a,(c,(n:Int)))]++num (fun i a=>(nm a,(c,i))) (n+1) l from rfl,Cj,He,Ei nm c s l (n+1)];by_cases h:nm a=s
  ·simp[h]
  ·simp only[h,lJ,Option.none_or,Option.map_map]
   cases I4 (l.map nm) s with
   |none=>rfl
   |some k=>simp only[wD,Function.comp];congr 3;omega
theorem Hpa (f:Fu)(s:Tx):look (sO f) s=(I4 (bI f) s).map fun(k:Nat)=>(true,(k:Int)):=by
 have h1:=Ei (fun s:Tx=>s) true s f.params 0;have h2:=Ei (fun s:Tx=>s) true s f.locals f.params.length;simp only[Ac6] at h1 h2;unfold sO bI;rw[Cj,h1,h2,Dl]
 cases I4 f.params s with
 |some k=>simp
 |none=>
  cases I4 f.locals s with
  |none=>rfl
  |some k=>simp;omega
theorem D7a (p:Pr)(s:Tx):look (jW p) s=(I4 (Us p) s).map fun(k:Nat)=>(false,if k<p.vars.length then(k:Int) else if k - p.vars.length<p.arrays.length then((k - p.vars.length:Nat):Int) else((k - p.vars.length - p.arrays.length:Nat):Int)):=by
 have h1:=Ei (fun s:Tx=>s) false s p.vars 0;have h2:=Ei (fun a:Tx×Int=>a.1) false s p.arrays 0;have h3:=Ei (fun f:Fu=>f.name) false s p.funcs 0;simp only[Ac6] at h1;unfold jW Us;rw[Cj,Cj,h1,h2,h3,Dl,Dl]
 cases ha:I4 p.vars s with
 |some k=>
  have:=Cw ha;simp[this]
 |none=>
  cases hb:I4 (p.arrays.map (·.1)) s with
  |some k=>
   have:=Cw hb;simp only[Aco] at this;have a1: ¬k+p.vars.length<p.vars.length:=Zo;simp[this,a1]
  |none=>
   cases I4 (p.funcs.map (·.name)) s with
   |none=>rfl
   |some k=>
    have a1: ¬k+p.arrays.length+p.vars.length<p.vars.length:=Zo;have a2: ¬k+p.arrays.length<p.arrays.length:=Zo;simp[a1,a2]
theorem Tw (p:Pr)(f:Fu)(s:Tx):((Ut p f s).1=1-> ∃k:Nat,Ut p f s=(1,(k:Int))/\uM (sO f) (jW p) s=(true,(k:Int))/\k<(bI f).length)/\
  ((Ut p f s).1=2-> ∃k:Nat,Ut p f s=(2,(k:Int))/\uM (sO f) (jW p) s=(false,(k:Int))/\k<p.vars.length)/\
  ((Ut p f s).1=3-> ∃k:Nat,Ut p f s=(3,(k:Int))/\uM (sO f) (jW p) s=(false,(k:Int))/\k<p.arrays.length)/\
  ((Ut p f s).1=4-> ∃k:Nat,Ut p f s=(4,(k:Int))/\uM (sO f) (jW p) s=(false,(k:Int))/\k<p.funcs.length):=by
 unfold Ut uM;rw[Hpa,D7a]
 cases h1:I4 (bI f) s with
 |some k=>
  have hl:=Cw h1;exact⟨fun _=>⟨k,rfl,rfl,hl⟩,fun h=>absurd h (by show¬((1:Int)=2);decide),fun h=>absurd h (by show¬((1:Int)=3);decide),fun h=>absurd h (by show¬((1:Int)=4);decide)⟩
 |none=>
  simp only[Option.map_none,Option.getD_none]
  cases h2:I4 (Us p) s with
  |none=>exact⟨fun h=>absurd h (by show¬((0:Int)=1);decide),fun h=>absurd h (by show¬((0:Int)=2);decide),fun h=>absurd h (by show¬((0:Int)=3);decide),fun h=>absurd h (by show¬((0:Int)=4);decide)⟩
  |some k=>
   have hl:=Cw h2;rw[show(Us p).length=p.vars.length+(p.arrays.length+p.funcs.length) by simp[Us]] at hl;simp only[wD,X1];by_cases a1:k<p.vars.length
   ·simp only[Ka a1]
    exact⟨fun h=>absurd h (by show¬((2:Int)=1);decide),fun _=>⟨k,rfl,rfl,a1⟩,fun h=>absurd h (by show¬((2:Int)=3);decide),fun h=>absurd h (by show¬((2:Int)=4);decide)⟩
   ·simp only[Jx a1]
    by_cases a2:k - p.vars.length<p.arrays.length
    ·simp only[Ka a2]
     exact⟨fun h=>absurd h (by show¬((3:Int)=1);decide),fun h=>absurd h (by show¬((3:Int)=2);decide),fun _=>⟨_,rfl,rfl,a2⟩,fun h=>absurd h (by show¬((3:Int)=4);decide)⟩
    ·simp only[Jx a2]
     exact⟨fun h=>absurd h (by show¬((4:Int)=1);decide),fun h=>absurd h (by show¬((4:Int)=2);decide),fun h=>absurd h (by show¬((4:Int)=3);decide),fun _=>⟨_,rfl,rfl,Zo⟩⟩
def bB (f:Fu):Nat:=f.params.length+f.locals.length
section
variable {nb:Tx->Bool}{p:Pr}{i:Nat}{f:Fu}
abbrev sD (p:Pr)(f:Fu):Sy.Fd:=uM (sO f) (jW p)
theorem Cba(h:bG i (Ut p f) ⟨2,s,n⟩=true):goW (sD p f) p.vars.length (bB f) s:=by
 obtain⟨h1,h2,_,_⟩:=Tw p f s;have h':(Ut p f s).1=1\/(Ut p f s).1=2:=by simpa[bG] using h
 rcases h' with h'|h'
 ·obtain⟨k,_,e,hk⟩:=h1 h'
  change sD p f s=_ at e
  exact⟨k,by rw[e],by rw[e];simpa[bB,bI] using hk⟩
 ·obtain⟨k,_,e,hk⟩:=h2 h'
  change sD p f s=_ at e
  exact⟨k,by rw[e],by rw[e];simpa using hk⟩
theorem DK(h:bG i (Ut p f) ⟨3,s,n⟩=true):MI (sD p f) p.arrays.length s:=by
 obtain⟨_,_,h3,_⟩:=Tw p f s;have h':(Ut p f s).1=3:=by simpa[bG] using h
 obtain⟨k,_,e,hk⟩:=h3 h'
 change sD p f s=_ at e
 exact⟨k,by rw[e],hk⟩
theorem DJ{n:Nat}(h:bG i (Ut p f) ⟨4,s,n⟩=true)(h2:eZ p.funcs (Ut p f) ⟨4,s,n⟩=true):goF (sD p f) (p.funcs.map bB) s n:=by
 obtain⟨_,_,_,h4⟩:=Tw p f s;have h':(Ut p f s).1=4:=by have:=h;simp[bG] at this;exact this.1
 obtain⟨k,e0,e,hk⟩:=h4 h'
 change sD p f s=_ at e
 have hf:p.funcs[k]?=some p.funcs[k]:=Bs hk;refine⟨k,bB p.funcs[k],by rw[e],by rw[qY,hf];rfl,?_⟩;simp only[eZ,e0,Aed,hf,iW,oW] at h2;unfold bB;omega
def Cya (p:Pr)(i:Nat)(f:Fu)(l:List qV):Prop:= ∀u∈l,bG i (Ut p f) u=true/\eZ p.funcs (Ut p f) u=true
theorem Jta {nb:Tx->Bool}{o:Int}{l:List Ex}(h:sB nb (.mk k o n s l)=true):k=1\/k=2\/(k=3/\l.length=1)\/k=4\/k=5\/(k=6/\l.length=2)\/(k=7/\l.length=1)\/(k=8/\l.length=2)\/(k=9/\l.length=2):=by
 rw[show sB nb (.mk k o n s l)=(
  if k=1 then decide (o=0)&&aD nb s false&&l.length==0
  else if k=2 then decide (o=0)&&decide (n=0)&&aD nb s true&&l.length==0
  else if k=3 then decide (o=0)&&decide (n=0)&&aD nb s true&&l.length==1
  else if k=4 then decide (o=0)&&decide (n=0)&&aD nb s true&&decide (l.length<=6)
  else if k=5 then decide (o=0)&&decide (n=0)&&aD nb s false&&l.length==0
  else if k=6 then decide (4<=o)&&decide (o<=15)&&decide (n=0)&&aD nb s false&&l.length==2
  else if k=7 then decide (o=0)&&decide (n=0)&&aD nb s false&&l.length==1
  else if k=8\/k=9 then decide (o=0)&&decide (n=0)&&aD nb s false&&l.length==2
  else false) from rfl] at h
 repeat' split at h
 all_goals (first|(simp only[Ed,beq_iff_eq] at h)|(exact absurd h Zd))
 all_goals (try (rename_i h8;rcases h8 with h8|h8))
 all_goals omega
theorem Eqa {nb:Tx->Bool}{e:List Ex}{t f:List St}(h:pT nb (.mk k s e t f)=true):(k=1/\e.length=1)\/(k=2/\e.length=2)\/(k=3/\e.length=1)\/(k=4/\e.length=1)\/(k=5/\e.length=1)\/k=6\/(k=7/\e.length<=1):=by
 rw[show pT nb (.mk k s e t f)=(
  if k=1 then aD nb s true&&e.length==1&&t.length==0&&f.length==0
  else if k=2 then aD nb s true&&e.length==2&&t.length==0&&f.length==0
  else if k=3 then aD nb s false&&e.length==1&&t.length==0&&f.length==0
  else if k=4 then aD nb s false&&e.length==1
  else if k=5 then aD nb s false&&e.length==1&&f.length==0
  else if k=6 then aD nb s true&&decide (e.length<=6)&&t.length==0&&f.length==0
  else if k=7 then aD nb s false&&decide (e.length<=1)&&t.length==0&&f.length==0
  else false) from rfl] at h
 repeat' split at h
 all_goals (first|(simp only[Ed,beq_iff_eq,oW] at h)|(exact absurd h Zd))
 all_goals omega
mutual
theorem go_E {nb:Tx->Bool} {p:Pr} {i:Nat} {f:Fu}: ∀(e:Ex) (v:Nat),rE nb v e=true->yC e->Cya p i f (rD e)->goE (sD p f) p.vars.length p.arrays.length (bB f) (p.funcs.map bB) e
 | .mk k o n s l,v,hr,hn,hu=>by
  rw[rE,Ed,Ed] at hr;rw[yC] at hn;rw[rD] at hu;obtain⟨hf,_,hl⟩:=hr;rw[goE];refine⟨hn.1,?_,DL l (v+1) hl hn.2 fun u h=>hu u (GK _ h)⟩;have ho: ∀u∈lF (.mk k o n s l),bG i (Ut p f) u=true/\eZ p.funcs (Ut p f) u=true:=fun u h=>hu u (FI _ h)
  rcases Jta hf with k1|rfl|⟨rfl,h3⟩|rfl|k5|k6|k7|k8|k9
  ·exact .inl k1
  ·exact .inr (.inl ⟨rfl,Cba (ho ⟨2,s,0⟩ (Vc ..)).1⟩)
  ·exact .inr (.inr (.inl ⟨rfl,DK (ho ⟨3,s,0⟩ (Vc ..)).1,h3⟩))
  ·have:=ho ⟨4,s,l.length⟩ (Vc ..)
   exact .inr (.inr (.inr (.inl ⟨rfl,DJ this.1 this.2⟩)))
  ·exact .inr (.inr (.inr (.inr (.inl k5))))
  ·exact .inr (.inr (.inr (.inr (.inr (.inl k6)))))
  ·exact .inr (.inr (.inr (.inr (.inr (.inr (.inl k7))))))
  ·exact .inr (.inr (.inr (.inr (.inr (.inr (.inr (.inl k8)))))))
  ·exact .inr (.inr (.inr (.inr (.inr (.inr (.inr (.inr k9)))))))
theorem DL {nb:Tx->Bool} {p:Pr} {i:Nat} {f:Fu}: ∀(l:List Ex) (v:Nat),wR nb v l=true->jI l->Cya p i f (Iz l)->vS (sD p f) p.vars.length p.arrays.length (bB f) (p.funcs.map bB) l
 |[],v,hr,hn,hu=>by rw[vS];trivial
 |e::l,v,hr,hn,hu=>by
  rw[wR,Ed] at hr;rw[jI] at hn;rw[Iz] at hu;rw[vS];exact⟨go_E e v hr.1 hn.1 fun u h=>hu u (FI _ h),DL l v hr.2 hn.2 fun u h=>hu u (GK _ h)⟩
end
mutual
theorem go_S {nb:Tx->Bool} {p:Pr} {i:Nat} {f:Fu}: ∀(e:St) (v:Nat),rS nb v e=true->nuS e->Cya p i f (rC e)->goS (sD p f) p.vars.length p.arrays.length (bB f) (p.funcs.map bB) e
 | .mk k s e t g,v,hr,hn,hu=>by
  rw[rS,Ed,Ed,Ed] at hr;rw[nuS] at hn;rw[rC] at hu;obtain⟨⟨⟨hf,he⟩,ht⟩,hg⟩:=hr;rw[rL,Ed] at he;rw[Ed] at ht hg;have ho: ∀u∈lE (.mk k s e t g),bG i (Ut p f) u=true/\eZ p.funcs (Ut p f) u=true:=fun u h=>hu u (FI _ h)
  rw[goS];refine⟨?_,DL e (v+1) he.2 hn.1 fun u h=>hu u (GK _ (FI _ h)),Cca t (v+1) ht.2 hn.2.1 fun u h=>hu u (GK _ (GK _ (FI _ h))),Cca g (v+1) hg.2 hn.2.2 fun u h=>hu u (GK _ (GK _ (GK _ h)))⟩;rcases Eqa hf with⟨rfl,h1⟩|⟨rfl,h1⟩|k3|k4|k5|rfl|k7
  ·exact .inl ⟨rfl,Cba (ho ⟨2,s,0⟩ (Vc ..)).1,h1⟩
  ·exact .inr (.inl ⟨rfl,DK (ho ⟨3,s,0⟩ (Vc ..)).1,h1⟩)
  ·exact .inr (.inr (.inl k3))
  ·exact .inr (.inr (.inr (.inl k4)))
  ·exact .inr (.inr (.inr (.inr (.inl k5))))
  ·have:=ho ⟨4,s,e.length⟩ (Vc ..)
   exact .inr (.inr (.inr (.inr (.inr (.inl ⟨rfl,DJ this.1 this.2⟩)))))
  ·exact .inr (.inr (.inr (.inr (.inr (.inr k7)))))
theorem Cca {nb:Tx->Bool} {p:Pr} {i:Nat} {f:Fu}: ∀(l:List St) (v:Nat),wQ nb v l=true->iE l->Cya p i f (I9 l)->qD (sD p f) p.vars.length p.arrays.length (bB f) (p.funcs.map bB) l
 |[],v,hr,hn,hu=>by rw[qD];trivial
 |e::l,v,hr,hn,hu=>by
  rw[wQ,Ed] at hr;rw[iE] at hn;rw[I9] at hu;rw[qD];exact⟨go_S e v hr.1 hn.1 fun u h=>hu u (FI _ h),Cca l v hr.2 hn.2 fun u h=>hu u (GK _ h)⟩
end
end
theorem Xk {p:Pr}: ∀(l:List Fu) (n:Nat),cY p n l=true-> ∀i f,l[i]?=some f->tE p (n+i) f=true
 |[],n,_,i,f,h=>by simp at h
 |g::l,n,h,i,f,hi=>by
  rw[cY,Ed] at h
  cases i with
  |zero=>simp at hi;subst hi;exact h.1
  |succ i=>
   have:=Xk l (n+1) h.2 i f (by simpa using hi);rwa [show n+(i+1)=n+1+i from Zo]
theorem F7a {nb:Tx->Bool}{p:Pr}(h:fE nb p=0)(hn: ∀f∈p.funcs,iE f.body):(bH (Us p)=true/\(∀a∈p.arrays,1<=a.2/\a.2<=4096)/\1<=p.funcs.length)/\ ∀(i:Nat) (f:Fu),p.funcs[i]?=some f->bH (bI f)=true/\qD (sD p f) p.vars.length p.arrays.length (bB f) (p.funcs.map bB) f.body:=by
 unfold fE at h
 split at h
 ·exact absurd h Zd
 rename_i hr
 split at h
 ·rename_i h1;exact(h1 h).elim
 rename_i hs;have vK:kQ p=0:=by rw[Qn];simpa using hs
 unfold kQ at vK;have h1:bH (Us p)=true/\cY p 0 p.funcs=true:=by
  rw[<-Ed]
  cases hb:bH (Us p)&&cY p 0 p.funcs with
  |true=>rfl
  |false=>rw[Ka hb] at vK;exact absurd vK Zd
 rw[Jx (by rw[h1.1,h1.2];decide)] at vK;have h2:p.funcs.all (gK p)=true:=by
  cases hb:p.funcs.all (gK p) with
  |true=>rfl
  |false=>rw[hb,xX,Ka rfl] at vK;exact absurd vK Zd
 have hr':rP nb p=true:=by simpa using hr
 unfold rP at hr';simp only[Ed,nU,oW] at hr';obtain⟨⟨⟨⟨hp1,If⟩,zK⟩,AI⟩,hp5⟩:=hr';refine⟨⟨h1.1,fun a ha=>?_,hp1⟩,fun i f hi=>?_⟩
 ·have h4:(nb a.1&&decide (1<=a.2)&&decide (a.2<=4096))=true:=AI a ha
  simp only[Ed,oW] at h4;exact⟨h4.1.2,h4.2⟩
 ·have hf:=sM hi
  have hk:=Xk p.funcs 0 h1.2 i f hi;rw[mH,tE,Ed] at hk;have hnum:=nU.1 h2 f hf;unfold gK at hnum;have hb:=hp5 f hf;unfold rF at hb;simp only[Ed] at hb;have Ul:=hb.2;unfold rB at Ul;rw[Ed] at Ul;exact⟨hk.1,Cca f.body 1 Ul.2 (hn f hf) fun u hu=>⟨nU.1 hk.2 u hu,nU.1 hnum u hu⟩⟩
end
end Go.Ab.Sy
