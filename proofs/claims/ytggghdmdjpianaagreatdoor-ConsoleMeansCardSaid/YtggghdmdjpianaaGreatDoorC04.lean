/- A part of the proof: Ya, Yd, Nf, Ng, Nh, Na, Nb, Nc, Nd. -/
import Derived.Test.YtggghdmdjpianaaGreatDoorC00
set_option linter.unusedSimpArgs false
set_option linter.unusedVariables false
namespace Go.Ab.Sy
open Go Go.Ab
abbrev iz (n:Int):AV:= .sc (.int .i64 n)
abbrev uz (n:Int):AV:= .sc (.int .u32 n)
abbrev tz (s:ByteArray):AV:= .sc (.string s)
abbrev bz (b:Bool):AV:= .sc (.bool b)
@[ext] structure Tx where
 val:ByteArray
 le:val.size<=20000
deriving DecidableEq
instance:Coe Tx ByteArray:=⟨Tx.val⟩
abbrev gD :Tx:=⟨⟨#[]⟩,Zd⟩
structure Tok where
 kind:Int
 text:Tx
 num:Int
 at_:Int
def Tok.row (t:Tok):List AV:=[iz t.kind,tz t.text.1,uz t.num,iz t.at_]
inductive Ex where
 |mk (kind op num:Int) (name:Tx) (kids:List Ex)
namespace Ex
def kind :Ex->Int| .mk k _ _ _ _=>k
def op :Ex->Int| .mk _ o _ _ _=>o
def num :Ex->Int| .mk _ _ n _ _=>n
def name :Ex->Tx| .mk _ _ _ s _=>s
def kids :Ex->List Ex| .mk _ _ _ _ l=>l
end Ex
mutual
def Ex.row :Ex->List AV
 | .mk k o n s l=>[iz k,iz o,uz n,tz s.1,.sl false 5 (In l)]
def In :List Ex->List (List AV)
 |[]=>[]
 |e::l=>e.row::In l
end
mutual
def Ex.size :Ex->Nat
 | .mk _ _ _ _ l=>Uv l+1
def Uv :List Ex->Nat
 |[]=>0
 |e::l=>e.size+Uv l
end
@[simp] theorem Ara :In []=[]:=by rw[In]
@[simp] theorem exRows_cons (e:Ex)(l:List Ex):In (e::l)=e.row::In l:=by rw[In]
theorem Bv : ∀l,In l=l.map Ex.row
 |[]=>rfl
 |e::l=>by simp[Bv l]
@[simp] theorem GG (l:List Ex):(In l).length=l.length:=by simp[Bv]
@[simp] theorem exRows_app (l m:List Ex):In (l++m)=In l++In m:=by simp[Bv]
theorem Ex.row_eq (e:Ex):e.row=[iz e.kind,iz e.op,uz e.num,tz e.name.1,.sl false 5 (In e.kids)]:=by
 cases e;rw[Ex.row];rfl
@[simp] theorem exSize_nil :Uv []=0:=by rw[Uv]
@[simp] theorem Xs (e:Ex)(l:List Ex):Uv (e::l)=e.size+Uv l:=by rw[Uv]
@[simp] theorem Aqa : ∀l m:List Ex,Uv (l++m)=Uv l+Uv m
 |[],m=>Zi
 |e::l,m=>by simp[Aqa l m,tJ]
theorem Ex.size_eq (e:Ex):e.size=Uv e.kids+1:=by cases e;rw[Ex.size];rfl
theorem Ex.size_pos (e:Ex):1<=e.size:=by rw[Ex.size_eq];omega
theorem A4 : ∀l:List Ex,l.length<=Uv l
 |[]=>Zi
 |e::l=>by have:=A4 l;have:=e.size_pos;simp;omega
theorem Ba {e:Ex}: ∀{l:List Ex},e∈l->e.size<=Uv l
 |x::l,h=>by
  rcases sV.1 h with rfl|h
  ·simp
  ·have:=Ba h;simp;omega
theorem C5 {l:List Ex}{i:Nat}{e:Ex}(h:l[i]?=some e):e.size<=Uv l:=Ba (sM h)
inductive St where
 |mk (kind:Int) (name:Tx) (e:List Ex) (th el:List St)
namespace St
def kind :St->Int| .mk k _ _ _ _=>k
def name :St->Tx| .mk _ s _ _ _=>s
def e :St->List Ex| .mk _ _ e _ _=>e
def th :St->List St| .mk _ _ _ t _=>t
def el :St->List St| .mk _ _ _ _ t=>t
end St
mutual
def St.row :St->List AV
 | .mk k s e t f=>[iz k,tz s.1,.sl false 5 (In e),.sl false 5 (Ik t),.sl false 5 (Ik f)]
def Ik :List St->List (List AV)
 |[]=>[]
 |e::l=>e.row::Ik l
end
mutual
def St.size :St->Nat
 | .mk _ _ e t f=>Uv e+Ix t+Ix f+1
def Ix :List St->Nat
 |[]=>0
 |e::l=>e.size+Ix l
end
@[simp] theorem stRows_nil :Ik []=[]:=by rw[Ik]
@[simp] theorem stRows_cons (e:St)(l:List St):Ik (e::l)=e.row::Ik l:=by rw[Ik]
theorem B5 : ∀l,Ik l=l.map St.row
 |[]=>rfl
 |e::l=>by simp[B5 l]
@[simp] theorem FM (l:List St):(Ik l).length=l.length:=by simp[B5]
@[simp] theorem stRows_app (l m:List St):Ik (l++m)=Ik l++Ik m:=by simp[B5]
theorem St.row_eq (s:St):s.row=[iz s.kind,tz s.name.1,.sl false 5 (In s.e),.sl false 5 (Ik s.th),.sl false 5 (Ik s.el)]:=by
 cases s;rw[St.row];rfl
@[simp] theorem stSize_nil :Ix []=0:=by rw[Ix]
@[simp] theorem Vl (e:St)(l:List St):Ix (e::l)=e.size+Ix l:=by rw[Ix]
@[simp] theorem Yy : ∀l m:List St,Ix (l++m)=Ix l+Ix m
 |[],m=>Zi
 |e::l,m=>by simp[Yy l m,tJ]
theorem St.size_eq (s:St):s.size=Uv s.e+Ix s.th+Ix s.el+1:=by cases s;rw[St.size];rfl
theorem St.size_pos (e:St):1<=e.size:=by rw[St.size_eq];omega
theorem A9 : ∀l:List St,l.length<=Ix l
 |[]=>Zi
 |e::l=>by have:=A9 l;have:=e.size_pos;simp;omega
theorem Bp {e:St}: ∀{l:List St},e∈l->e.size<=Ix l
 |x::l,h=>by
  rcases sV.1 h with rfl|h
  ·simp
  ·have:=Bp h;simp;omega
theorem Gb {l:List St}{i:Nat}{e:St}(h:l[i]?=some e):e.size<=Ix l:=Bp (sM h)
abbrev Ib (l:List Tx):List (List AV):=l.map fun s=>[tz s.1]
abbrev BF (l:List ByteArray):List (List AV):=l.map fun s=>[tz s]
structure Fu where
 name:Tx
 params:List Tx
 locals:List Tx
 word:Bool
 body:List St
def Fu.row (f:Fu):List AV:=[tz f.name.1,.sl false 1 (Ib f.params),.sl false 1 (Ib f.locals),bz f.word,.sl false 5 (Ik f.body)]
def Fu.size (f:Fu):Nat:=f.params.length+f.locals.length+Ix f.body+1
structure Pr where
 vars:List Tx
 arrays:List (Tx×Int)
 funcs:List Fu
def Ih (l:List (Tx×Int)):List (List AV):=l.map fun a=>[tz a.1.1,iz a.2]
def Pr.row (p:Pr):List AV:=[.sl false 1 (Ib p.vars),.sl false 2 (Ih p.arrays),.sl false 5 (p.funcs.map Fu.row)]
def cV :List Fu->Nat
 |[]=>0
 |f::l=>f.size+cV l
def Pr.size (p:Pr):Nat:=p.vars.length+p.arrays.length+cV p.funcs
@[simp] theorem Ama :cV []=0:=rfl
@[simp] theorem Xh (f:Fu)(l:List Fu):cV (f::l)=f.size+cV l:=rfl
@[simp] theorem Pa : ∀l m:List Fu,cV (l++m)=cV l+cV m
 |[],m=>Zi
 |e::l,m=>by simp[Pa l m,tJ]
theorem Bq : ∀l:List Fu,l.length<=cV l
 |[]=>Zi
 |e::l=>by have:=Bq l;simp[Fu.size];omega
theorem Do {f:Fu}: ∀{l:List Fu},f∈l->f.size<=cV l
 |x::l,h=>by
  rcases sV.1 h with rfl|h
  ·simp
  ·have:=Do h;simp;omega
namespace Cx
end Cx
namespace Cs
end Cs
end Go.Ab.Sy
namespace Go.Ab.Sy
section
open Go Go.Ab
/-! ### forms -/
section
variable (nb:Tx->Bool)
def aD (s:Tx)(named:Bool):Bool:=if named then nb s else decide (s=gD)
def sB (e:Ex):Bool:=
 if e.kind=1 then decide (e.op=0)&&aD nb e.name false&&e.kids.length==0
 else if e.kind=2 then decide (e.op=0)&&decide (e.num=0)&&aD nb e.name true&&e.kids.length==0
 else if e.kind=3 then decide (e.op=0)&&decide (e.num=0)&&aD nb e.name true&&e.kids.length==1
 else if e.kind=4 then decide (e.op=0)&&decide (e.num=0)&&aD nb e.name true&&decide (e.kids.length<=6)
 else if e.kind=5 then decide (e.op=0)&&decide (e.num=0)&&aD nb e.name false&&e.kids.length==0
 else if e.kind=6 then decide (4<=e.op)&&decide (e.op<=15)&&decide (e.num=0)&&aD nb e.name false&&e.kids.length==2
 else if e.kind=7 then decide (e.op=0)&&decide (e.num=0)&&aD nb e.name false&&e.kids.length==1
 else if e.kind=8\/e.kind=9 then decide (e.op=0)&&decide (e.num=0)&&aD nb e.name false&&e.kids.length==2
 else false
def pT (s:St):Bool:=
 if s.kind=1 then aD nb s.name true&&s.e.length==1&&s.th.length==0&&s.el.length==0
 else if s.kind=2 then aD nb s.name true&&s.e.length==2&&s.th.length==0&&s.el.length==0
 else if s.kind=3 then aD nb s.name false&&s.e.length==1&&s.th.length==0&&s.el.length==0
 else if s.kind=4 then aD nb s.name false&&s.e.length==1
 else if s.kind=5 then aD nb s.name false&&s.e.length==1&&s.el.length==0
 else if s.kind=6 then aD nb s.name true&&decide (s.e.length<=6)&&s.th.length==0&&s.el.length==0
 else if s.kind=7 then aD nb s.name false&&decide (s.e.length<=1)&&s.th.length==0&&s.el.length==0
 else false
mutual
def rE (v:Nat):Ex->Bool
 | .mk k o n s l=>sB nb (.mk k o n s l)&&((l.length==0||decide (v+1<=24))&&wR (v+1) l)
def wR (v:Nat):List Ex->Bool
 |[]=>true
 |e::l=>rE v e&&wR v l
end
def rL (v:Nat)(l:List Ex):Bool:=(l.length==0||decide (v<=24))&&wR nb v l
mutual
def rS (v:Nat):St->Bool
 | .mk k s e t f=>pT nb (.mk k s e t f)&&rL nb (v+1) e&&((t.length==0||decide (v+1<=24))&&wQ (v+1) t)&&((f.length==0||decide (v+1<=24))&&wQ (v+1) f)
def wQ (v:Nat):List St->Bool
 |[]=>true
 |e::l=>rS v e&&wQ v l
end
def rB (v:Nat)(l:List St):Bool:=(l.length==0||decide (v<=24))&&wQ nb v l
@[simp] theorem JK (v:Nat):wR nb v []=true:=by rw[wR]
@[simp] theorem Gna (v:Nat)(e:Ex)(l:List Ex):wR nb v (e::l)=(rE nb v e&&wR nb v l):=by rw[wR]
@[simp] theorem rSs_nil (v:Nat):wQ nb v []=true:=by rw[wQ]
@[simp] theorem Gma (v:Nat)(e:St)(l:List St):wQ nb v (e::l)=(rS nb v e&&wQ nb v l):=by rw[wQ]
theorem rS_eq (v:Nat)(s:St):rS nb v s=(pT nb s&&rL nb (v+1) s.e&&rB nb (v+1) s.th&&rB nb (v+1) s.el):=by cases s;rw[rS];rfl
def rF (f:Fu):Bool:=nb f.name&&decide (f.params.length<=6)&&f.params.all nb&&f.locals.all nb&&rB nb 1 f.body
def rA (a:Tx×Int):Bool:=nb a.1&&decide (1<=a.2)&&decide (a.2<=4096)
def rP (p:Pr):Bool:=decide (1<=p.funcs.length)&&decide (p.funcs.length<=64)&&p.vars.all nb&&p.arrays.all rA'&&p.funcs.all (rF nb)
where rA':=rA nb
end
/-! ### tN -/
section
variable {T:Type}
def look (m:List (Tx×T))(s:Tx):Option T:=(m.find? fun x=>decide (x.1=s)).map (·.2)
def jL (m:List (Tx×T)×Bool)(x:Tx×T):List (Tx×T)×Bool:=if (look m.1 x.1).isSome then(m.1,false) else(m.1++[x],m.2)
theorem D8a {m:List (Tx×T)}{s:Tx}(h:look m s=none):s∉m.map (·.1):=by
 intro hs;obtain⟨x,hx,rfl⟩:=Adk.1 hs;simp only[look,Option.map_eq_none_iff,List.find?_eq_none,oW] at h;exact h x hx rfl
theorem Ko {m:List (Tx×T)}{s:Tx}{t:T}(h:look m s=some t):(s,t)∈m:=by
 unfold look at h
 cases hf:m.find? fun x=>decide (x.1=s) with
 |none=>rw[hf] at h;cases h
 |some x=>
  rw[hf] at h;simp only[wD,Bc] at h;have h1:=List.find?_some hf;have h2:=List.mem_of_find?_eq_some hf;simp only[oW] at h1;subst h1 h;exact h2
def Ua (l:List (Tx×T))(m:List (Tx×T)×Bool):List (Tx×T)×Bool:=l.foldl jL m
theorem Ms : ∀{l:List (Tx×T)} {m:List (Tx×T)×Bool},(m.1.map (·.1)).Nodup->(Ua l m).2=true->m.2=true/\(Ua l m).1=m.1++l/\((m.1++l).map (·.1)).Nodup
 |[],m,hn,h=>⟨h,by simp[Ua],by simpa using hn⟩
 |x::l,m,hn,h=>by
  have e:Ua (x::l) m=Ua l (jL m x):=rfl;rw[e] at h⊢;have hf: ∀(l:List (Tx×T)) (m:List (Tx×T)),(Ua l (m,false)).2=false:=by
   intro l
   induction l with
   |nil=>intro m;rfl
   |cons y l ih=>
    intro m;show(Ua l (jL (m,false) y)).2=false;unfold jL
    split<;>exact ih _
  unfold jL at h⊢
  split at h
  ·rw[hf] at h;cases h
  ·rename_i hs
   rw[Jx hs];have vK:=D8a (by simpa using hs);have yL:((m.1++[x]).map (·.1)).Nodup:=by
    rw[zA,Ack];refine⟨hn,Zi,?_⟩;intro a ha b hb;simp only[T9,nT,FH] at hb;subst hb;rintro rfl;exact vK ha
   obtain⟨h1,h2,h3⟩:=Ms yL h;refine⟨h1,by rw[h2];simp,by simpa using h3⟩
theorem J1 : ∀{l:List (Tx×T)} {m:List (Tx×T)×Bool} {x:Tx×T},x∈(Ua l m).1->x∈m.1\/x∈l
 |[],m,x,h=> .inl h
 |y::l,m,x,h=>by
  rcases J1 (l:=l) (m:=jL m y) h with h|h
  ·unfold jL at h
   split at h
   ·exact .inl h
   ·rcases nA.1 h with h|h
    ·exact .inl h
    ·simp only[FH] at h;subst h;exact .inr (Vc ..)
  ·exact .inr (T8 _ h)
end
section
variable {α β γ:Type}
def num (f:Int->α->β):Nat->List α->List β
 |_,[]=>[]
 |n,a::l=>f n a::num f (n+1) l
theorem H6 {f:Int->α->β}{b:β}: ∀{n:Nat} {l:List α},b∈num f n l-> ∃i a,l[i]?=some a/\b=f ((n+i:Nat):Int) a
 |n,a::l,h=>by
  rcases sV.1 h with rfl|h
  ·exact⟨0,a,rfl,rfl⟩
  ·obtain⟨i,a,h1,h2⟩:=H6 h
   exact⟨i+1,a,by simpa using h1,by rw[h2];congr 1;omega⟩
theorem Tj {f:Int->α->β}: ∀{n:Nat} {l m:List α},num f n (l++m)=num f n l++num f (n+l.length) m
 |n,[],m=>by simp[num]
 |n,a::l,m=>by simp only[FG,num,Tj (l:=l),wP];rw[show n+1+l.length=n+(l.length+1) from Zo]
theorem KE {f:Int->α->β}: ∀{n:Nat} {l:List α},(num f n l).length=l.length
 |_,[]=>rfl
 |n,a::l=>by simp[num,KE]
theorem Dc {f:Int->α->β}{g:β->γ}: ∀{n:Nat} {l:List α},(num f n l).map g=num (fun i a=>g (f i a)) n l
 |_,[]=>rfl
 |n,a::l=>by simp[num,Dc]
end
abbrev Th :=Int×Int
def vH (p:Pr):List (Tx×Th):=num (fun i s=>(s,(2,i))) 0 p.vars++num (fun i (a:Tx×Int)=>(a.1,(3,i))) 0 p.arrays++num (fun i (f:Fu)=>(f.name,(4,i))) 0 p.funcs
def inL (f:Fu):List (Tx×Th):=num (fun i s=>(s,(1,i))) 0 f.params++num (fun i s=>(s,(1,i))) f.params.length f.locals
def cC (a b:List (Tx×Th))(s:Tx):Th:=(look a s).getD ((look b s).getD (0,-1))
structure qV where
 kind:Int
 name:Tx
 args:Int
def lF (e:Ex):List qV:=if e.kind=2 then[⟨2,e.name,0⟩] else if e.kind=3 then[⟨3,e.name,0⟩] else if e.kind=4 then[⟨4,e.name,e.kids.length⟩] else[]
def lE (s:St):List qV:=if s.kind=1 then[⟨2,s.name,0⟩] else if s.kind=2 then[⟨3,s.name,0⟩] else if s.kind=6 then[⟨4,s.name,s.e.length⟩] else[]
mutual
def rD :Ex->List qV
 | .mk k o n s l=>lF (.mk k o n s l)++Iz l
def Iz :List Ex->List qV
 |[]=>[]
 |e::l=>rD e++Iz l
end
mutual
def rC :St->List qV
 | .mk k s e t f=>lE (.mk k s e t f)++(Iz e++(I9 t++I9 f))
def I9 :List St->List qV
 |[]=>[]
 |e::l=>rC e++I9 l
end
@[simp] theorem useEs_nil :Iz []=[]:=by rw[Iz]
@[simp] theorem Nl (e:Ex)(l:List Ex):Iz (e::l)=rD e++Iz l:=by rw[Iz]
theorem HY (e:Ex):rD e=lF e++Iz e.kids:=by cases e;rw[rD];rfl
@[simp] theorem useSs_nil :I9 []=[]:=by rw[I9]
@[simp] theorem Nk (e:St)(l:List St):I9 (e::l)=rC e++I9 l:=by rw[I9]
theorem HW (s:St):rC s=lE s++(Iz s.e++(I9 s.th++I9 s.el)):=by cases s;rw[rC];rfl
theorem Qg : ∀l m,Iz (l++m)=Iz l++Iz m
 |[],m=>Zi
 |e::l,m=>by simp[Qg l m]
theorem Qf : ∀l m,I9 (l++m)=I9 l++I9 m
 |[],m=>Zi
 |e::l,m=>by simp[Qf l m]
def cO (fs:List Fu)(fd:Tx->Th)(i:Nat)(s:Bool×Bool)(u:qV):Bool×Bool:=
 if u.kind=2 then(s.1&&(decide ((fd u.name).1=1)||decide ((fd u.name).1=2)),s.2)
 else if u.kind=3 then(s.1&&decide ((fd u.name).1=3),s.2)
 else if u.kind=4 then(if (fd u.name).1=4/\(fd u.name).2<i then(match fs[(fd u.name).2.toNat]? with|some f=>(s.1,if (f.params.length:Int)=u.args then s.2 else false)|none=>s) else(false,s.2))
 else s
def aQ (fs:List Fu)(fd:Tx->Th)(i:Nat)(l:List qV)(s:Bool×Bool):Bool×Bool:=l.foldl (cO fs fd i) s
def lS (p:Pr):List (Tx×Th)×Bool:=Ua (vH p) ([],true)
def wW (f:Fu):List (Tx×Th)×Bool:=Ua (inL f) ([],true)
def kZ (p:Pr)(i:Nat)(f:Fu)(s:Bool×Bool):Bool×Bool:=aQ p.funcs (cC (wW f).1 (lS p).1) i (I9 f.body) (s.1&&(wW f).2,s.2)
def bQ (p:Pr):Nat->List Fu->Bool×Bool->Bool×Bool
 |_,[],s=>s
 |i,f::l,s=>bQ p (i+1) l (kZ p i f s)
def Fk (f:Fu):Bool:=decide (f.name.1= "main".toUTF8)&&f.params.length==0&& !f.word
def lQ (p:Pr):Int:=if (bQ p 0 p.funcs ((lS p).2,true)).1=false then 4 else if (bQ p 0 p.funcs ((lS p).2,true)).2=false\/(match p.funcs.getLast? with|some f=>Fk f|none=>false)=false then 1 else 0
/-! ### types -/
def Ip (fs:List Fu):List (Tx×Fu):=(Ua (fs.map fun f=>(f.name,f)) ([],true)).1
def Di (m:List (Tx×Fu))(s:Tx):Bool:=match look m s with|some f=>f.word|none=>false
section
variable (m:List (Tx×Fu))
mutual
def vC :Ex->Int
 | .mk k o _ s l=>if k=1\/k=2\/k=5 then 1 else if k=3 then(if Ud l 1 then 1 else 0) else if k=4 then(if Di m s=true/\Ud l 1=true then 1 else 0)
   else if k=6 then(if Ud l 1 then(if o=14\/o=15 then 2 else 1) else 0) else if k=7\/k=8\/k=9 then(if Ud l 2 then 2 else 0) else 0
def Ud :List Ex->Int->Bool
 |[],_=>true
 |e::l,t=>decide (vC e=t)&&Ud l t
end
mutual
def wE :Ex->Bool
 | .mk k _ _ s l=>(decide (k≠4)||(look m s).isSome)&&dB l
def dB :List Ex->Bool
 |[]=>true
 |e::l=>wE e&&dB l
end
mutual
def LD :St->Bool
 | .mk k s e t f=>(decide (k≠6)||(look m s).isSome)&&dB m e&&aU t&&aU f
def aU :List St->Bool
 |[]=>true
 |e::l=>LD e&&aU l
end
mutual
def tyS (w:Bool):St->Bool
 | .mk k s e t f=>(decide (k≠6)|| !Di m s)&&(decide (k≠7)||(e.length==0||w))&&Ud m e (if k=4\/k=5 then 2 else 1)&&Ui w t&&Ui w f
def Ui (w:Bool):List St->Bool
 |[]=>true
 |e::l=>tyS w e&&Ui w l
end
@[simp] theorem tyAll_nil (t:Int):Ud m [] t=true:=by rw[Ud]
@[simp] theorem No (e:Ex)(l:List Ex)(t:Int):Ud m (e::l) t=(decide (vC m e=t)&&Ud m l t):=by rw[Ud]
@[simp] theorem knEs_nil :dB m []=true:=by rw[dB]
@[simp] theorem Efa (e:Ex)(l:List Ex):dB m (e::l)=(wE m e&&dB m l):=by rw[dB]
@[simp] theorem knSs_nil :aU m []=true:=by rw[aU]
@[simp] theorem Rj (e:St)(l:List St):aU m (e::l)=(LD m e&&aU m l):=by rw[aU]
@[simp] theorem tySs_nil (w:Bool):Ui m w []=true:=by rw[Ui]
@[simp] theorem C9a (w:Bool)(e:St)(l:List St):Ui m w (e::l)=(tyS m w e&&Ui m w l):=by rw[Ui]
end
def kN (p:Pr):Int:=if p.funcs.all (fun f=>aU (Ip p.funcs) f.body)=false then 4 else if p.funcs.all (fun f=>Ui (Ip p.funcs) f.word f.body)=false then 5 else 0
def fE (nb:Tx->Bool)(p:Pr):Int:=if rP nb p=false then 7 else if lQ p≠0 then lQ p else kN p
/-! ### without tN -/
end
section
section
variable (nb:Tx->Bool)
def Io (k:Int):Bool:=decide (k=2)||(decide (k=3)||decide (k=4))
mutual
def qE (v:Nat):Ex->Bool
 | .mk k o n s l=>
  if 24<v\/(k≠6/\o≠0)\/(k≠1/\n≠0) then false
  else if Io k≠decide (s≠gD)\/(Io k=true/\nb s=false) then false
  else if k=1\/k=2\/k=5 then decide (l.length=0)
  else if k=3\/k=7 then decide (l.length=1)&&tK (v+1) l
  else if k=4 then decide (l.length<=6)&&tK (v+1) l
  else if k=6 then decide (4<=o)&&(decide (o<=15)&&(decide (l.length=2)&&tK (v+1) l))
  else if k=8\/k=9 then decide (l.length=2)&&tK (v+1) l
  else false
def tK (v:Nat):List Ex->Bool
 |[]=>true
 |e::l=>qE v e&&tK v l
end
theorem Ana {nb:Tx->Bool}(hn:nb gD=false)(s:Tx):(¬(true≠decide (s≠gD)\/(true=true/\nb s=false)))↔nb s=true:=by
 constructor
 ·intro h
  cases hs:nb s with
  |true=>rfl
  |false=>exact absurd (.inr ⟨rfl,hs⟩) h
 ·rintro h (h1|⟨_,h1⟩)
  ·by_cases e:s=gD
   ·rw[e,hn] at h;cases h
   ·simp[e] at h1
  ·rw[h] at h1;cases h1
end
mutual
theorem qE_law (nb:Tx->Bool) (hn:nb gD=false): ∀(e:Ex) (v:Nat),qE nb v e=(decide (v<=24)&&rE nb v e)
 | .mk k o n s l,v=>by
  have ih:=Te nb hn l (v+1);rw[qE,rE,ih];simp only[sB,aD,Ex.kind,Ex.op,Ex.num,Ex.name,Ex.kids,rL];by_cases LQ:24<v
  ·rw[Ka (.inl LQ)]
   simp[show¬v<=24 from Zo]
  have hv:v<=24:=Zo;generalize hR:wR nb (v+1) l=R;have h0:l.length=0->R=true:=fun h=>by
   obtain rfl:=Kw h;rw[<-hR,JK]
  clear hR ih;by_cases k1:k=1
  ·subst k1
   by_cases ho:o=0<;>by_cases hs:s=gD<;>by_cases hl:l.length=0<;>simp_all[Io]<;>first|omega|(simp[show¬24<v from Zo];congr)
  by_cases k2:k=2
  ·subst k2
   have hf:=Ana hn s;by_cases ho:o=0<;>by_cases hm:n=0<;>by_cases hs:s=gD<;>cases hb:nb s<;>by_cases hl:l.length=0<;>simp_all[Io]<;>first|omega|(simp[show¬24<v from Zo];congr)
  by_cases k3:k=3
  ·subst k3
   by_cases ho:o=0<;>by_cases hm:n=0<;>by_cases hs:s=gD<;>cases hb:nb s<;>by_cases hl:l.length=1<;>simp_all[Io]<;>first|omega|(simp[show¬24<v from Zo];congr)
  by_cases k4:k=4
  ·subst k4
   by_cases ho:o=0<;>by_cases hm:n=0<;>by_cases hs:s=gD<;>cases hb:nb s<;>by_cases hl:l.length<=6<;>simp_all[Io]<;>first|omega|(simp[show¬24<v from Zo];congr)
  by_cases k5:k=5
  ·subst k5
   by_cases ho:o=0<;>by_cases hm:n=0<;>by_cases hs:s=gD<;>by_cases hl:l.length=0<;>simp_all[Io]<;>first|omega|(simp[show¬24<v from Zo];congr)
  by_cases k6:k=6
  ·subst k6
   by_cases hm:n=0<;>by_cases hs:s=gD<;>by_cases hl:l.length=2<;>by_cases o1:4<=o<;>by_cases o2:o<=15<;>simp_all[Io]<;>first|omega|(simp[show¬24<v from Zo];congr)
  by_cases k7:k=7
  ·subst k7
   by_cases ho:o=0<;>by_cases hm:n=0<;>by_cases hs:s=gD<;>by_cases hl:l.length=1<;>simp_all[Io]<;>first|omega|(simp[show¬24<v from Zo];congr)
  by_cases k8:k=8\/k=9
  ·rcases k8 with rfl|rfl<;>by_cases ho:o=0<;>by_cases hm:n=0<;>by_cases hs:s=gD<;>by_cases hl:l.length=2<;>simp_all[Io]<;>first|omega|(simp[show¬24<v from Zo];congr)
  ·obtain⟨k8,k9⟩:k≠8/\k≠9:=Zo
   simp[k1,k2,k3,k4,k5,k6,k7,k8,k9]
theorem Te (nb:Tx->Bool) (hn:nb gD=false): ∀(l:List Ex) (v:Nat),tK nb v l=rL nb v l
 |[],v=>by simp[tK,rL]
 |e::l,v=>by
  rw[tK,qE_law nb hn e v,Te nb hn l v];simp only[rL,Gna];by_cases hv:v<=24
  ·by_cases hl:l.length=0
   ·obtain rfl:=Kw hl
    simp[hv]
   ·simp[hv]
  ·simp[hv]
end
end
section
section
variable (nb:Tx->Bool)
def cI (k:Int):Bool:=decide (k=1)||(decide (k=2)||decide (k=6))
def dX (k:Int)(n:Nat):Bool:=if k=1\/k=3\/k=4\/k=5 then decide (n=1) else if k=2 then decide (n=2) else if k=6 then decide (n<=6) else if k=7 then decide (n<=1) else false
mutual
def qS (v:Nat):St->Bool
 | .mk k s e t f=>
  if 24<v\/(k≠4/\0<f.length)\/(k≠4/\k≠5/\0<t.length) then false
  else if cI k≠decide (s≠gD)\/(cI k=true/\nb s=false) then false
  else dX k e.length&&(tK nb (v+1) e&&(sN (v+1) t&&sN (v+1) f))
def sN (v:Nat):List St->Bool
 |[]=>true
 |e::l=>qS v e&&sN v l
end
end
mutual
theorem qS_law (nb:Tx->Bool) (hn:nb gD=false): ∀(e:St) (v:Nat),qS nb v e=(decide (v<=24)&&rS nb v e)
 | .mk k s e t f,v=>by
  have ih1:=Mx nb hn t (v+1);have ih2:=Mx nb hn f (v+1);rw[qS,rS_eq,ih1,ih2,Te nb hn e (v+1)];simp only[pT,aD,St.kind,St.name,St.e,St.th,St.el];by_cases LQ:24<v
  ·rw[Ka (.inl LQ)]
   simp[show¬v<=24 from Zo]
  have hv:v<=24:=Zo;generalize rL nb (v+1) e=A;have hB:t.length=0->rB nb (v+1) t=true:=fun h=>by
   obtain rfl:=Kw h;simp[rB]
  have hC:f.length=0->rB nb (v+1) f=true:=fun h=>by
   obtain rfl:=Kw h;simp[rB]
  generalize rB nb (v+1) t=B at*;generalize rB nb (v+1) f=C at*;clear ih1 ih2;by_cases k1:k=1
  ·subst k1
   rcases t with _|⟨t0,t1⟩<;>rcases f with _|⟨f0,f1⟩<;>by_cases hs:s=gD<;>cases hb:nb s<;>by_cases hl:e.length=1<;>simp_all[cI,dX]<;>first|omega|(simp[show¬24<v from Zo];congr)
  by_cases k2:k=2
  ·subst k2
   rcases t with _|⟨t0,t1⟩<;>rcases f with _|⟨f0,f1⟩<;>by_cases hs:s=gD<;>cases hb:nb s<;>by_cases hl:e.length=2<;>simp_all[cI,dX]<;>first|omega|(simp[show¬24<v from Zo];congr)
  by_cases k3:k=3
  ·subst k3
   rcases t with _|⟨t0,t1⟩<;>rcases f with _|⟨f0,f1⟩<;>by_cases hs:s=gD<;>by_cases hl:e.length=1<;>simp_all[cI,dX]<;>first|omega|(simp[show¬24<v from Zo];congr)
  by_cases k4:k=4
  ·subst k4
   by_cases hs:s=gD<;>by_cases hl:e.length=1<;>simp_all[cI,dX]<;>first|omega|(simp[show¬24<v from Zo,yZ];done)|(simp[show¬24<v from Zo];congr)
  by_cases k5:k=5
  ·subst k5
   rcases f with _|⟨f0,f1⟩<;>by_cases hs:s=gD<;>by_cases hl:e.length=1<;>simp_all[cI,dX]<;>first|omega|(simp[show¬24<v from Zo];congr)
  by_cases k6:k=6
  ·subst k6
   rcases t with _|⟨t0,t1⟩<;>rcases f with _|⟨f0,f1⟩<;>by_cases hs:s=gD<;>cases hb:nb s<;>by_cases hl:e.length<=6<;>simp_all[cI,dX]<;>first|omega|(simp[show¬24<v from Zo];congr)
  by_cases k7:k=7
  ·subst k7
   rcases t with _|⟨t0,t1⟩<;>rcases f with _|⟨f0,f1⟩<;>by_cases hs:s=gD<;>by_cases hl:e.length<=1<;>simp_all[cI,dX]<;>first|omega|(simp[show¬24<v from Zo];congr)
  ·simp[dX,k1,k2,k3,k4,k5,k6,k7]
theorem Mx (nb:Tx->Bool) (hn:nb gD=false): ∀(l:List St) (v:Nat),sN nb v l=rB nb v l
 |[],v=>by simp[sN,rB]
 |e::l,v=>by
  rw[sN,qS_law nb hn e v,Mx nb hn l v];simp only[rB,Gma];by_cases hv:v<=24
  ·by_cases hl:l.length=0
   ·obtain rfl:=Kw hl
    simp[hv]
   ·simp[hv]
  ·simp[hv]
end
def qP (nb:Tx->Bool)(p:Pr):Bool:=
 if p.vars.all nb=false\/p.funcs.length<1\/64<p.funcs.length then false
 else if p.arrays.all (fun a=>nb a.1&&(decide (1<=a.2)&&decide (a.2<=4096)))=false then false
 else p.funcs.all fun f=>nb f.name&&(decide (f.params.length<=6)&&(f.params.all nb&&(f.locals.all nb&&sN nb 1 f.body)))
theorem BK (nb:Tx->Bool)(hn:nb gD=false)(p:Pr):qP nb p=rP nb p:=by
 have h1:(fun f:Fu=>nb f.name&&(decide (f.params.length<=6)&&(f.params.all nb&&(f.locals.all nb&&sN nb 1 f.body))))=rF nb:=by
  funext f
  simp only[rF,Mx nb hn f.body 1,yZ]
 have h2:(fun a:Tx×Int=>nb a.1&&(decide (1<=a.2)&&decide (a.2<=4096)))=rA nb:=by
  funext a
  simp only[rA,yZ]
 unfold qP rP rP.rA';rw[h1,h2];by_cases a:1<=p.funcs.length/\p.funcs.length<=64
 ·obtain⟨a1,a2⟩:=a
  cases hv:p.vars.all nb
  ·simp
  ·have h0: ¬(true=false\/p.funcs.length<1\/64<p.funcs.length):=by
    rintro(h|h|h)
    ·cases h
    ·omega
    ·omega
   rw[Jx h0]
   cases ha:p.arrays.all (rA nb)<;>simp[a1,a2]
 ·rw[Ka (.inr Zo)]
  by_cases a1:1<=p.funcs.length
  ·have a2: ¬p.funcs.length<=64:=fun h=>a ⟨a1,h⟩
   simp[a2]
  ·simp[a1]
end
section
def I4 :List Tx->Tx->Option Nat
 |[],_=>none
 |x::l,s=>if x=s then some 0 else(I4 l s).map (· +1)
def Us (p:Pr):List Tx:=p.vars++(p.arrays.map (·.1)++p.funcs.map (·.name))
def bI (f:Fu):List Tx:=f.params++f.locals
theorem Dl : ∀(a b:List Tx) (s:Tx),I4 (a++b) s=(I4 a s).or ((I4 b s).map (· +a.length))
 |[],b,s=>by simp[I4]
 |x::a,b,s=>by
  simp only[FG,I4];by_cases h:x=s
  ·rw[Ka h,Ka h];rfl
  ·rw[Jx h,Jx h,Dl a b s]
   cases I4 a s with
   |some k=>rfl
   |none=>
    cases I4 b s with
    |none=>rfl
    |some k=>simp;omega
theorem Cw : ∀{l:List Tx} {s:Tx} {k:Nat},I4 l s=some k->k<l.length
 |x::l,s,k,h=>by
  simp only[I4] at h
  split at h
  ·cases h;simp
  ·obtain⟨j,h1,h2⟩:=Ma.1 h
   have:=Cw h1;simp only[wP];omega
section
variable {T α:Type}
theorem Cj (a b:List (Tx×T))(s:Tx):look (a++b) s=(look a s).or (look b s):=by
 unfold look;rw[Adx]
 cases a.find? fun x=>decide (x.1=s)<;>rfl
theorem He (x:Tx×T)(s:Tx):look [x] s=if x.1=s then some x.2 else none:=by
 unfold look;by_cases h:x.1=s<;>simp[h]
theorem Fg : ∀(l:List (Tx×T)) (m:List (Tx×T)×Bool) (s:Tx),look (Ua l m).1 s=(look m.1 s).or (look l s)
 |[],m,s=>by
  show look m.1 s=_
  cases look m.1 s<;>rfl
 |x::l,m,s=>by
  show look (Ua l (jL m x)).1 s=_;rw[Fg l (jL m x) s,show x::l=[x]++l from rfl,Cj [x] l,He];unfold jL;by_cases h:(look m.1 x.1).isSome=true
  ·rw[Ka h]
   by_cases hx:x.1=s
   ·subst hx
    obtain⟨t,ht⟩:=X2.1 h;rw[ht];rfl
   ·rw[Jx hx];rfl
  ·rw[Jx h,Cj,He]
   cases look m.1 s<;>by_cases hx:x.1=s<;>simp[hx]
theorem Fv (nm:α->Tx)(c:Int)(s:Tx): ∀(l:List α) (n:Nat),look (num (fun i a=>(nm a,(c,i))) n l) s=(I4 (l.map nm) s).map fun(k:Nat)=>(c,((n+k:Nat):Int))
 |[],n=>rfl
 |a::l,n=>by
  simp only[num,T9,I4];rw[show((nm a,(c,(n:Int)))::num (fun i a=>(nm a,(c,i))) (n+1) l)=[(nm a,(c,(n:Int)))]++num (fun i a=>(nm a,(c,i))) (n+1) l from rfl,Cj,He,Fv nm c s l (n+1)];by_cases h:nm a=s
  ·simp[h]
  ·simp only[h,lJ,Option.none_or,Option.map_map]
   cases I4 (l.map nm) s with
   |none=>rfl
   |some k=>simp only[wD,Function.comp];congr 3;omega
theorem Pz : ∀(l m:List (Tx×T)),((m++l).map (·.1)).Nodup->(Ua l (m,true)).2=true
 |[],m,_=>rfl
 |x::l,m,h=>by
  have hx:look m x.1=none:=by
   cases hl:look m x.1 with
   |none=>rfl
   |some t=>
    rw[zA,Ack] at h;exact(h.2.2 x.1 (Adk.2 ⟨_,Ko hl,rfl⟩) x.1 Zi rfl).elim
  show(Ua l (jL (m,true) x)).2=true;unfold jL;simp only[hx,Option.isSome_none,pW,lJ];exact Pz l (m++[x]) (by simpa using h)
theorem Cqa (l:List (Tx×T)):(Ua l ([],true)).2=decide ((l.map (·.1)).Nodup):=by
 by_cases h:(l.map (·.1)).Nodup
 ·rw[sK h]
  exact Pz l [] (by simpa using h)
 ·rw[oV h]
  cases hb:(Ua l ([],true)).2 with
  |false=>rfl
  |true=>
   have:=Ms (l:=l) (m:=([],true)) Zi hb;exact absurd (by simpa using this.2.2) h
end
def Ut (p:Pr)(f:Fu)(s:Tx):Int×Int:=match I4 (bI f) s with
 |some k=>(1,k)
 |none=>match I4 (Us p) s with
  |none=>(0,-1)
  |some k=>if k<p.vars.length then(2,k) else if k - p.vars.length<p.arrays.length then(3,((k - p.vars.length:Nat):Int)) else(4,((k - p.vars.length - p.arrays.length:Nat):Int))
theorem KN (f:Fu)(s:Tx):look (inL f) s=(I4 (bI f) s).map fun(k:Nat)=>((1:Int),(k:Int)):=by
 have h1:=Fv (fun s:Tx=>s) 1 s f.params 0;have h2:=Fv (fun s:Tx=>s) 1 s f.locals f.params.length;simp only[Ac6] at h1 h2;unfold inL bI;rw[Cj,h1,h2,Dl]
 cases I4 f.params s with
 |some k=>simp
 |none=>
  cases I4 f.locals s with
  |none=>rfl
  |some k=>simp;omega
theorem Hoa (p:Pr)(s:Tx):look (vH p) s=(I4 (Us p) s).map fun(k:Nat)=>if k<p.vars.length then((2:Int),(k:Int)) else if k - p.vars.length<p.arrays.length then(3,((k - p.vars.length:Nat):Int)) else(4,((k - p.vars.length - p.arrays.length:Nat):Int)):=by
 have h1:=Fv (fun s:Tx=>s) 2 s p.vars 0;have h2:=Fv (fun a:Tx×Int=>a.1) 3 s p.arrays 0;have h3:=Fv (fun f:Fu=>f.name) 4 s p.funcs 0;simp only[Ac6] at h1;unfold vH Us;rw[Cj,Cj,h1,h2,h3,Dl,Dl]
 cases ha:I4 p.vars s with
 |some k=>
  have:=Cw ha;simp[this]
 |none=>
  cases hb:I4 (p.arrays.map (·.1)) s with
  |some k=>
   have:=Cw hb;simp only[Aco] at this;simp[this]
  |none=>
   cases I4 (p.funcs.map (·.name)) s with
   |none=>rfl
   |some k=>
    have a1: ¬k+p.arrays.length+p.vars.length<p.vars.length:=Zo;have a2: ¬k+p.arrays.length<p.arrays.length:=Zo;simp[a1,a2]
theorem J1a (p:Pr)(f:Fu)(s:Tx):cC (wW f).1 (lS p).1 s=Ut p f s:=by
 unfold cC wW lS Ut;rw[Fg,Fg];show((look (inL f) s)).getD ((look (vH p) s).getD (0,-1))=_;rw[KN,Hoa]
 cases I4 (bI f) s with
 |some k=>rfl
 |none=>
  cases I4 (Us p) s with
  |none=>rfl
  |some k=>rfl
def bH (l:List Tx):Bool:=(List.range l.length).all fun i=>decide (I4 l (l.getD i gD)=some i)
theorem Mh : ∀{l:List Tx},l.Nodup-> ∀i (h:i<l.length),I4 l l[i]=some i
 |x::l,hn,0,h=>by simp[I4]
 |x::l,hn,i+1,h=>by
  simp only[List.nodup_cons] at hn;have hi:i<l.length:=by simpa using h
  have:x≠l[i]:=fun e=>hn.1 (e▸oY hi)
  simp only[List.getElem_cons_succ,I4];rw[Jx this,Mh hn.2 i hi];rfl
theorem F5 (l:List Tx):bH l=decide l.Nodup:=by
 by_cases h:l.Nodup
 ·rw[sK h]
  refine nU.2 fun i hi=>?_
  have hi':=sJ.1 hi;rw[FL,Bs hi',X1,Mh h i hi'];simp
 ·rw[oV h]
  cases hb:bH l with
  |false=>rfl
  |true=>
   refine absurd (List.pairwise_iff_getElem.2 fun i j hi hj xG e=>?_) h;have ha:=nU.1 hb;have h1:=GP (ha i (sJ.2 hi));have h2:=GP (ha j (sJ.2 hj));rw[FL,Bs hi,X1] at h1;rw[FL,Bs hj,X1] at h2;rw[e,h2] at h1;simp at h1;omega
def bG (i:Nat)(fd:Tx->Int×Int)(u:qV):Bool:=if u.kind=2 then decide ((fd u.name).1=1)||decide ((fd u.name).1=2) else if u.kind=3 then decide ((fd u.name).1=3) else if u.kind=4 then decide ((fd u.name).1=4/\(fd u.name).2<i) else true
def eZ (fs:List Fu)(fd:Tx->Int×Int)(u:qV):Bool:=if u.kind=4 then(match fs[(fd u.name).2.toNat]? with|some f=>decide ((f.params.length:Int)=u.args)|none=>true) else true
theorem Yo (fs:List Fu)(fd:Tx->Int×Int)(i:Nat)(s:Bool×Bool)(u:qV):(cO fs fd i s u).1=(s.1&&bG i fd u)/\(bG i fd u=true->(cO fs fd i s u).2=(s.2&&eZ fs fd u)):=by
 unfold cO bG eZ;by_cases k2:u.kind=2
 ·simp[k2]
 by_cases k3:u.kind=3
 ·simp[k2,k3]
 by_cases k4:u.kind=4
 ·by_cases h:(fd u.name).1=4/\(fd u.name).2<i
  ·simp only[k4,Ka h,sK h]
   cases fs[(fd u.name).2.toNat]? with
   |none=>simp
   |some f=>
    by_cases e:(f.params.length:Int)=u.args<;>simp[e]
  ·simp[k4,h]
 ·simp[k2,k3,k4]
theorem Qh (fs:List Fu)(fd:Tx->Int×Int)(i:Nat): ∀(l:List qV) (s:Bool×Bool),(aQ fs fd i l s).1=(s.1&&l.all (bG i fd))/\(l.all (bG i fd)=true->(aQ fs fd i l s).2=(s.2&&l.all (eZ fs fd)))
 |[],s=>by simp[aQ]
 |u::l,s=>by
  have h1:=Yo fs fd i s u;have h2:=Qh fs fd i l (cO fs fd i s u);have e:aQ fs fd i (u::l) s=aQ fs fd i l (cO fs fd i s u):=rfl;rw[e];refine⟨by rw[h2.1,h1.1,uZ,yZ],fun h=>?_⟩;rw[uZ,Ed] at h;rw[h2.2 h.2,h1.2 h.1,uZ,yZ]
def tE (p:Pr)(i:Nat)(f:Fu):Bool:=bH (bI f)&&(I9 f.body).all (bG i (Ut p f))
def gK (p:Pr)(f:Fu):Bool:=(I9 f.body).all (eZ p.funcs (Ut p f))
def cY (p:Pr):Nat->List Fu->Bool
 |_,[]=>true
 |i,f::l=>tE p i f&&cY p (i+1) l
theorem Jba (f:Fu):(inL f).map (·.1)=bI f:=by
 unfold inL bI;rw[zA,Dc,Dc];have h: ∀(n:Nat) (l:List Tx),num (fun(i:Int) (a:Tx)=>a) n l=l:=by
  intro n l
  induction l generalizing n with
  |nil=>rfl
  |cons a l ih=>simp[num,ih]
 rw[h,h]
theorem Dta (p:Pr):(vH p).map (·.1)=Us p:=by
 unfold vH Us;rw[zA,zA,Dc,Dc,Dc,tI];have h: ∀{α:Type} (g:α->Tx) (n:Nat) (l:List α),num (fun(i:Int) (a:α)=>g a) n l=l.map g:=by
  intro α g n l
  induction l generalizing n with
  |nil=>rfl
  |cons a l ih=>simp[num,ih]
 rw[h (fun s:Tx=>s),h (fun a:Tx×Int=>a.1),h (fun f:Fu=>f.name),Ac6]
theorem Era (p:Pr)(i:Nat)(f:Fu)(s:Bool×Bool):(kZ p i f s).1=(s.1&&tE p i f)/\(tE p i f=true->(kZ p i f s).2=(s.2&&gK p f)):=by
 have hf:cC (wW f).1 (lS p).1=Ut p f:=funext fun s=>J1a p f s
 have hu:(wW f).2=bH (bI f):=by
  unfold wW;rw[Cqa,Jba,F5]
 unfold kZ tE gK;rw[hf,hu];have h:=Qh p.funcs (Ut p f) i (I9 f.body) (s.1&&bH (bI f),s.2);refine⟨by rw[h.1,yZ],fun h1=>?_⟩;rw[Ed] at h1;exact h.2 h1.2
theorem Pc (p:Pr): ∀(l:List Fu) (i:Nat) (s:Bool×Bool),(bQ p i l s).1=(s.1&&cY p i l)/\(cY p i l=true->(bQ p i l s).2=(s.2&&l.all (gK p)))
 |[],i,s=>by simp[bQ,cY]
 |f::l,i,s=>by
  have h1:=Era p i f s;have h2:=Pc p l (i+1) (kZ p i f s);have e:bQ p i (f::l) s=bQ p (i+1) l (kZ p i f s):=rfl;rw[e];refine⟨by rw[h2.1,h1.1,cY,yZ],fun h=>?_⟩;rw[cY,Ed] at h;rw[h2.2 h.2,h1.2 h.1,uZ,yZ]
def kQ (p:Pr):Int:=
 if (bH (Us p)&&cY p 0 p.funcs)=false then 4
 else if (p.funcs.all (gK p)&&(match p.funcs.getLast? with|some f=>Fk f|none=>false))=false then 1 else 0
theorem Qn (p:Pr):kQ p=lQ p:=by
 have h:=Pc p p.funcs 0 ((lS p).2,true);have ho:(lS p).2=bH (Us p):=by
  unfold lS;rw[Cqa,Dta,F5]
 unfold kQ lQ;rw[h.1,ho]
 cases hb:bH (Us p)&&cY p 0 p.funcs with
 |false=>rfl
 |true=>
  rw[Ed] at hb;have h2:=h.2 hb.2;rw[ho] at h2;rw[h2]
  cases p.funcs.all (gK p) with
  |false=>simp
  |true=>first|(simp;done)|(simp;congr)
end
section
variable {T:List Tok}{n m:Nat}
def e0 :Tx:=⟨⟨#[]⟩,Zd⟩
def Ig (T:List Tok)(n:Nat):ByteArray:=match T[n]? with
 |some t=>if t.kind=3\/t.kind=4 then t.text.1 else⟨#[]⟩
 |none=>⟨#[]⟩
def cG (T:List Tok)(n:Nat):Int:=match T[n]? with
 |some t=>t.kind
 |none=>0
def bW (T:List Tok)(k:Int)(n:Nat):Option (Tok×Nat):=match T[n]? with
 |some t=>if t.kind=k then some (t,n+1) else none
 |none=>none
def I6 (T:List Tok)(s:ByteArray)(n:Nat):Option Nat:=if Ig T n=s then some (n+1) else none
def cH :ByteArray:=⟨#[103,101,116]⟩
def Up :ByteArray:=⟨#[40]⟩
def Uo :ByteArray:=⟨#[41]⟩
def cM :ByteArray:=⟨#[33]⟩
def fO :ByteArray:=⟨#[91]⟩
def bU :ByteArray:=⟨#[93]⟩
def Ug :ByteArray:=⟨#[44]⟩
def eL (s:ByteArray):(Int×Int)×Nat:=
 if s=⟨#[124,124]⟩ then((9,0),1) else if s=⟨#[38,38]⟩ then((8,0),2) else if s=⟨#[61,61]⟩ then((6,15),3)
 else if s=⟨#[60]⟩ then((6,14),4) else if s=⟨#[124]⟩ then((6,10),5) else if s=⟨#[94]⟩ then((6,11),5)
 else if s=⟨#[38]⟩ then((6,9),6) else if s=⟨#[60,60]⟩ then((6,12),7) else if s=⟨#[62,62]⟩ then((6,13),7)
 else if s=⟨#[43]⟩ then((6,4),8) else if s=⟨#[45]⟩ then((6,5),8) else if s=⟨#[42]⟩ then((6,6),9)
 else if s=⟨#[47]⟩ then((6,7),9) else if s=⟨#[37]⟩ then((6,8),9) else((0,0),0)
def cZ (s:ByteArray):Nat:=(eL s).2
def vJ (s:ByteArray)(a b:Ex):Ex:= .mk (eL s).1.1 (eL s).1.2 0 e0 [a,b]
theorem le_ite {c:Prop}[Decidable c]{a b k:Nat}(h1:a<=k)(h2:b<=k):(if c then a else b)<=k:=by
 split
 ·exact h1
 ·exact h2
theorem Bea (s:ByteArray):cZ s<=9:=by
 simp only[cZ,eL,apply_ite Prod.snd]
 iterate 14 refine le_ite Zd ?_
 decide
theorem F1a :cZ ⟨#[]⟩=0:=Zd
theorem Bt(h:Ig T n≠⟨#[]⟩):n<T.length:=by
 unfold Ig at h;by_cases hn:n<T.length
 ·exact hn
 ·rw[Ace Zo] at h
  exact absurd rfl h
theorem Am{s:ByteArray}(hs:s≠⟨#[]⟩)(h:I6 T s n=some m):m=n+1/\n<T.length:=by
 unfold I6 at h
 split at h
 ·rename_i e
  cases h
  exact⟨rfl,Bt (by rw[e];exact hs)⟩
 ·cases h
theorem At{k:Int}{t:Tok}(h:bW T k n=some (t,m)):m=n+1/\n<T.length:=by
 unfold bW at h
 split at h
 ·rename_i t' ht
  split at h
  ·cases h
   exact⟨rfl,(Oh.1 ht).1⟩
  ·cases h
 ·cases h
mutual
def fC (T:List Tok):Nat->Nat->Option (Ex×Nat)
 |0,_=>none
 |f+1,n=>
  if cG T n=2 then(bW T 2 n).map fun p=>(.mk 1 0 p.1.num e0 [],p.2)
  else if Ig T n=cH then((I6 T Up (n+1)).bind fun m=>I6 T Uo m).map fun m=>(.mk 5 0 0 e0 [],m)
  else if Ig T n=Up then(cS T f 1 (n+1)).bind fun p=>(I6 T Uo p.2).map fun m=>(p.1,m)
  else if Ig T n=cM then(fC T f (n+1)).map fun p=>(.mk 7 0 0 e0 [p.1],p.2)
  else(bW T 1 n).bind fun p=>
   if Ig T p.2=fO then(cS T f 1 (p.2+1)).bind fun q=>(I6 T bU q.2).map fun m=>(.mk 3 0 0 p.1.text [q.1],m)
   else if Ig T p.2=Up then(gM T f (p.2+1)).map fun q=>(.mk 4 0 0 p.1.text q.1,q.2)
   else some (.mk 2 0 0 p.1.text [],p.2)
def cS (T:List Tok):Nat->Nat->Nat->Option (Ex×Nat)
 |0,_,_=>none
 |f+1,kH,n=>(fC T f n).bind fun p=>bZ T f kH p.1 p.2
def bZ (T:List Tok):Nat->Nat->Ex->Nat->Option (Ex×Nat)
 |0,_,_,_=>none
 |f+1,kH,x,n=>
  if cZ (Ig T n)<kH then some (x,n)
  else(cS T f (cZ (Ig T n)+1) (n+1)).bind fun p=>bZ T f kH (vJ (Ig T n) x p.1) p.2
def gM (T:List Tok):Nat->Nat->Option (List Ex×Nat)
 |0,_=>none
 |f+1,n=>
  if Ig T n=Uo then some ([],n+1)
  else(cS T f 1 n).bind fun p=>fY T f [p.1] p.2
def fY (T:List Tok):Nat->List Ex->Nat->Option (List Ex×Nat)
 |0,_,_=>none
 |f+1,l,n=>
  if Ig T n=Ug then(cS T f 1 (n+1)).bind fun p=>fY T f (l++[p.1]) p.2
  else(I6 T Uo n).map fun m=>(l,m)
end
theorem Ch (T:List Tok): ∀f,
  (∀n x m,fC T f n=some (x,m)->n<m/\m<=T.length)/\(∀l n x m,cS T f l n=some (x,m)->n<m/\m<=T.length)/\
  (∀l y n x m,n<=T.length->bZ T f l y n=some (x,m)->n<=m/\m<=T.length)/\(∀n x m,gM T f n=some (x,m)->n<m/\m<=T.length)/\
  (∀l n x m,fY T f l n=some (x,m)->n<m/\m<=T.length):=by
 intro f
 induction f with
 |zero=>exact⟨fun _ _ _ h=>by simp[fC] at h,fun _ _ _ _ h=>by simp[cS] at h,fun _ _ _ _ _ _ h=>by simp[bZ] at h,fun _ _ _ h=>by simp[gM] at h,fun _ _ _ _ h=>by simp[fY] at h⟩
 |succ f ih=>
  obtain⟨hA,hE,hL,hG,hM⟩:=ih;refine⟨fun n x m h=>?_,fun l n x m h=>?_,fun l y n x m hn h=>?_,fun n x m h=>?_,fun l n x m h=>?_⟩
  ·rw[fC] at h
   split at h
   ·obtain⟨p,h1,h2⟩:=Ma.1 h
    cases h2
    have:=At (t:=p.1) (m:=p.2) h1;omega
   split at h
   ·obtain⟨p,h1,h2⟩:=Ma.1 h
    cases h2
    obtain⟨q,h3,h4⟩:=Ja.1 h1;have a:=Am Zd h3;have b:=Am Zd h4;omega
   split at h
   ·obtain⟨p,h1,h2⟩:=Ja.1 h
    obtain⟨q,h3,h4⟩:=Ma.1 h2
    cases h4
    have a:=hE _ _ p.1 p.2 h1;have b:=Am Zd h3;omega
   split at h
   ·obtain⟨p,h1,h2⟩:=Ma.1 h
    cases h2
    have a:=hA _ p.1 p.2 h1;omega
   ·obtain⟨p,h1,h2⟩:=Ja.1 h
    have a:=At (t:=p.1) (m:=p.2) h1
    split at h2
    ·obtain⟨q,h3,h4⟩:=Ja.1 h2
     obtain⟨r,h5,h6⟩:=Ma.1 h4
     cases h6
     have b:=hE _ _ q.1 q.2 h3;have c:=Am Zd h5;omega
    split at h2
    ·obtain⟨q,h3,h4⟩:=Ma.1 h2
     cases h4
     have b:=hG _ q.1 q.2 h3;omega
    ·cases h2
     omega
  ·rw[cS] at h
   obtain⟨p,h1,h2⟩:=Ja.1 h;have a:=hA _ p.1 p.2 h1;have b:=hL _ _ _ _ _ a.2 h2;omega
  ·rw[bZ] at h
   split at h
   ·cases h;omega
   ·obtain⟨p,h1,h2⟩:=Ja.1 h
    have a:=hE _ _ p.1 p.2 h1;have b:=hL _ _ _ _ _ a.2 h2;omega
  ·rw[gM] at h
   split at h
   ·rename_i e
    cases h
    have:=Bt (T:=T) (n:=n) (by rw[e];decide);omega
   ·obtain⟨p,h1,h2⟩:=Ja.1 h
    have a:=hE _ _ p.1 p.2 h1;have b:=hM _ _ _ _ h2;omega
  ·rw[fY] at h
   split at h
   ·obtain⟨p,h1,h2⟩:=Ja.1 h
    have a:=hE _ _ p.1 p.2 h1;have b:=hM _ _ _ _ h2;omega
   ·obtain⟨p,h1,h2⟩:=Ma.1 h
    cases h2
    have:=Am Zd h1;omega
end
section
variable {T:List Tok}{l n f g:Nat}{α:Type}
theorem Az {β:Type}{x:Option α}{f g:α->Option β}(h: ∀a,x=some a->f a=g a):x.bind f=x.bind g:=by
 cases x with
 |none=>rfl
 |some a=>exact h a rfl
theorem F9(hl:1<=l)(h: ¬cZ (Ig T n)<l):n<T.length:=by
 refine Bt fun e=>h ?_
 rw[e,F1a];omega
theorem nZ (T:List Tok): ∀f,
  (∀n,5*(T.length - n)+2<=f->fC T f n=fC T (f+1) n)/\(∀l n,1<=l->5*(T.length - n)+3<=f->cS T f l n=cS T (f+1) l n)/\
  (∀l x n,1<=l->5*(T.length - n)+2<=f->bZ T f l x n=bZ T (f+1) l x n)/\(∀n,5*(T.length - n)+4<=f->gM T f n=gM T (f+1) n)/\
  (∀l n,5*(T.length - n)+2<=f->fY T f l n=fY T (f+1) l n):=by
 intro f
 induction f with
 |zero=>exact⟨fun n h=>Zo,fun l n _ h=>Zo,fun l x n _ h=>Zo,fun n h=>Zo,fun l n h=>Zo⟩
 |succ f ih=>
  obtain⟨hA,hE,hL,hG,hM⟩:=ih;have rd:=Ch T f;refine⟨fun n h=>?_,fun l n hl h=>?_,fun l x n hl h=>?_,fun n h=>?_,fun l n h=>?_⟩
  ·rw[fC,fC]
   by_cases h1:cG T n=2
   ·rw[Ka h1,Ka h1]
   rw[Jx h1,Jx h1];by_cases h2:Ig T n=cH
   ·rw[Ka h2,Ka h2]
   rw[Jx h2,Jx h2];by_cases h3:Ig T n=Up
   ·have hn:n<T.length:=Bt (by rw[h3];decide)
    rw[Ka h3,Ka h3,hE 1 (n+1) Zo Zo]
   rw[Jx h3,Jx h3];by_cases h4:Ig T n=cM
   ·have hn:n<T.length:=Bt (by rw[h4];decide)
    rw[Ka h4,Ka h4,hA (n+1) Zo]
   rw[Jx h4,Jx h4];refine Az fun p hp=>?_
   have a:=At (t:=p.1) (m:=p.2) hp;by_cases h5:Ig T p.2=fO
   ·rw[Ka h5,Ka h5,hE 1 (p.2+1) Zo Zo]
   rw[Jx h5,Jx h5];by_cases h6:Ig T p.2=Up
   ·have hn:p.2<T.length:=Bt (by rw[h6];decide)
    rw[Ka h6,Ka h6,hG (p.2+1) Zo]
   rw[Jx h6,Jx h6]
  ·rw[cS,cS,hA n Zo]
   refine Az fun p hp=>?_
   have a:=(Ch T (f+1)).1 _ p.1 p.2 hp;exact hL l p.1 p.2 hl Zo
  ·rw[bZ,bZ]
   by_cases h1:cZ (Ig T n)<l
   ·rw[Ka h1,Ka h1]
   have hn:=F9 hl h1;rw[Jx h1,Jx h1,hE _ (n+1) Zo Zo];refine Az fun p hp=>?_
   have a:=(Ch T (f+1)).2.1 _ _ p.1 p.2 hp;exact hL l _ p.2 hl Zo
  ·rw[gM,gM]
   by_cases h1:Ig T n=Uo
   ·rw[Ka h1,Ka h1]
   rw[Jx h1,Jx h1,hE 1 n Zo Zo];refine Az fun p hp=>?_
   have a:=(Ch T (f+1)).2.1 _ _ p.1 p.2 hp;exact hM _ p.2 Zo
  ·rw[fY,fY]
   by_cases h1:Ig T n=Ug
   ·have hn:n<T.length:=Bt (by rw[h1];decide)
    rw[Ka h1,Ka h1,hE 1 (n+1) Zo Zo];refine Az fun p hp=>?_
    have a:=(Ch T (f+1)).2.1 _ _ p.1 p.2 hp;exact hM _ p.2 Zo
   rw[Jx h1,Jx h1]
theorem lD{F:Nat->α}{b:Nat}(h: ∀f,b<=f->F f=F (f+1)): ∀f g,b<=f->b<=g->F f=F g:=by
 have up: ∀d f,b<=f->F f=F (f+d):=by
  intro d
  induction d with
  |zero=>intro f _;rfl
  |succ d ih=>intro f hf;rw[ih f hf,h (f+d) Zo];rfl
 intro f g hf hg;by_cases hl:f<=g
 ·have:=up (g - f) f hf
  rwa [Ad5 hl] at this
 ·have:=up (f - g) g hg
  rw[Ad5 Zo] at this;exact this.symm
theorem Lv(hl:1<=l)(hf:5*(T.length - n)+3<=f)(hg:5*(T.length - n)+3<=g):cS T f l n=cS T g l n:=
 lD (F:=fun f=>cS T f l n) (fun f h=>(nZ T f).2.1 l n hl h) f g hf hg
theorem L1(hf:5*(T.length - n)+2<=f)(hg:5*(T.length - n)+2<=g):fC T f n=fC T g n:=
 lD (F:=fun f=>fC T f n) (fun f h=>(nZ T f).1 n h) f g hf hg
theorem D5a{x:Ex}(hl:1<=l)(hf:5*(T.length - n)+2<=f)(hg:5*(T.length - n)+2<=g):bZ T f l x n=bZ T g l x n:=
 lD (F:=fun f=>bZ T f l x n) (fun f h=>(nZ T f).2.2.1 l x n hl h) f g hf hg
theorem E8a(hf:5*(T.length - n)+4<=f)(hg:5*(T.length - n)+4<=g):gM T f n=gM T g n:=
 lD (F:=fun f=>gM T f n) (fun f h=>(nZ T f).2.2.2.1 n h) f g hf hg
theorem E9a{l:List Ex}(hf:5*(T.length - n)+2<=f)(hg:5*(T.length - n)+2<=g):fY T f l n=fY T g l n:=
 lD (F:=fun f=>fY T f l n) (fun f h=>(nZ T f).2.2.2.2 l n h) f g hf hg
theorem Rc (T:List Tok)(l:Nat): ∀f x n y m,bZ T f l x n=some (y,m)->cZ (Ig T m)<l
 |0,x,n,y,m,h=>by simp[bZ] at h
 |f+1,x,n,y,m,h=>by
  rw[bZ] at h
  split at h
  ·rename_i h1
   cases h
   exact h1
  ·obtain⟨p,h1,h2⟩:=Ja.1 h
   exact Rc T l f _ _ y m h2
theorem Exa (T:List Tok)(l f n:Nat)(y:Ex)(m:Nat)(h:cS T f l n=some (y,m)):cZ (Ig T m)<l:=by
 cases f with
 |zero=>simp[cS] at h
 |succ f=>
  rw[cS] at h;obtain⟨p,h1,h2⟩:=Ja.1 h;exact Rc T l f _ _ y m h2
def dZ (T:List Tok):Nat->Nat->Ex->Nat->Option (Ex×Nat)
 |0,_,_,_=>none
 |f+1,l,x,n=>if cZ (Ig T n)=l then(cS T f (l+1) (n+1)).bind fun p=>dZ T f l (vJ (Ig T n) x p.1) p.2 else some (x,n)
theorem Aaa (T:List Tok)(l:Nat)(hl:1<=l): ∀r n x f g h,T.length - n<=r->5*(T.length - n)+2<=f->5*(T.length - n)+2<=g->5*(T.length - n)+2<=h->bZ T f l x n=(bZ T g (l+1) x n).bind fun p=>dZ T h l p.1 p.2:=by
 intro r
 induction r with
 |zero=>
  intro n x f g h hr hf hg hh;obtain⟨f,rfl⟩: ∃k,f=k+1:=⟨f - 1,Zo⟩;obtain⟨g,rfl⟩: ∃k,g=k+1:=⟨g - 1,Zo⟩;obtain⟨h,rfl⟩: ∃k,h=k+1:=⟨h - 1,Zo⟩;have hs:cZ (Ig T n)<l:=by
   by_cases hs:cZ (Ig T n)<l
   ·exact hs
   ·have:=F9 hl hs;omega
  rw[bZ,bZ,Ka hs,Ka Zo];show _=dZ T (h+1) l x n;rw[dZ,Jx Zo]
 |succ r ih=>
  intro n x f g h hr hf hg hh;obtain⟨f,rfl⟩: ∃k,f=k+1:=⟨f - 1,Zo⟩;obtain⟨g,rfl⟩: ∃k,g=k+1:=⟨g - 1,Zo⟩;by_cases hs:cZ (Ig T n)<l
  ·obtain⟨h,rfl⟩: ∃k,h=k+1:=⟨h - 1,Zo⟩
   rw[bZ,bZ,Ka hs,Ka Zo];show _=dZ T (h+1) l x n;rw[dZ,Jx Zo]
  have hn:=F9 hl hs;by_cases he:cZ (Ig T n)=l
  ·obtain⟨h,rfl⟩: ∃k,h=k+1:=⟨h - 1,Zo⟩
   rw[bZ,bZ,Jx hs,Ka Zo];show _=dZ T (h+1) l x n;rw[dZ,Ka he,he,Lv (T:=T) (l:=l+1) (n:=n+1) (f:=f) (g:=h) Zo Zo Zo];refine Az fun p hp=>?_
   have a:=(Ch T h).2.1 _ _ p.1 p.2 hp;have b:=Exa T (l+1) h (n+1) p.1 p.2 hp;rw[ih p.2 _ f (5*(T.length - p.2)+3) h Zo Zo Zo Zo,bZ,Ka b];rfl
  ·rw[bZ,bZ,Jx hs,Jx Zo,Lv (T:=T) (l:=cZ (Ig T n)+1) (n:=n+1) (f:=f) (g:=g) Zo Zo Zo,Acl]
   refine Az fun p hp=>?_
   have a:=(Ch T g).2.1 _ _ p.1 p.2 hp;exact ih p.2 _ f g h Zo Zo Zo Zo
theorem Aoa{h:Nat}(hl:1<=l)(hf:5*(T.length - n)+3<=f)(hg:5*(T.length - n)+3<=g)(hh:5*(T.length - n)+2<=h):cS T f l n=(cS T g (l+1) n).bind fun p=>dZ T h l p.1 p.2:=by
 obtain⟨f,rfl⟩: ∃k,f=k+1:=⟨f - 1,Zo⟩;obtain⟨g,rfl⟩: ∃k,g=k+1:=⟨g - 1,Zo⟩;rw[cS,cS,L1 (T:=T) (n:=n) (f:=f) (g:=g) Zo Zo,Acl];refine Az fun p hp=>?_
 have a:=(Ch T g).1 _ p.1 p.2 hp;exact Aaa T l hl _ p.2 p.1 f g h (D5 _) Zo Zo Zo
theorem J3a(hf:5*(T.length - n)+3<=f)(hg:5*(T.length - n)+2<=g):cS T f 10 n=fC T g n:=by
 obtain⟨f,rfl⟩: ∃k,f=k+1:=⟨f - 1,Zo⟩;obtain⟨f,rfl⟩: ∃k,f=k+1:=⟨f - 1,Zo⟩;rw[cS,L1 (T:=T) (n:=n) (f:=f+1) (g:=g) Zo Zo]
 cases fC T g n with
 |none=>rfl
 |some p=>
  show bZ T (f+1) 10 p.1 p.2=_;rw[bZ,Ka (by have:=Bea (Ig T p.2);omega)]
end
section
variable {x:Ex}{T:List Tok}{l n f m:Nat}
def fL :ByteArray:=⟨#[112,117,116]⟩
def aA :ByteArray:=⟨#[114,101,116,117,114,110]⟩
def nV :ByteArray:=⟨#[105,102]⟩
def dI :ByteArray:=⟨#[101,108,115,101]⟩
def bE :ByteArray:=⟨#[119,104,105,108,101]⟩
def dP :ByteArray:=⟨#[118,97,114]⟩
def aT :ByteArray:=⟨#[97,114,114,97,121]⟩
def cR :ByteArray:=⟨#[102,117,110,99]⟩
def bN :ByteArray:=⟨#[119,111,114,100]⟩
def aJ :ByteArray:=⟨#[59]⟩
def lK :ByteArray:=⟨#[61]⟩
def aH :ByteArray:=⟨#[123]⟩
def eH :ByteArray:=⟨#[125]⟩
def Uu (T:List Tok)(l n:Nat):Option (Ex×Nat):=cS T (5*(T.length - n)+3) l n
def eG (T:List Tok)(n:Nat):Option (List Ex×Nat):=gM T (5*(T.length - n)+4) n
theorem Dv(hl:1<=l)(hf:5*(T.length - n)+3<=f):cS T f l n=Uu T l n:=Lv hl hf (D5 _)
theorem Kza(hf:5*(T.length - n)+4<=f):gM T f n=eG T n:=E8a hf (D5 _)
theorem Cm(h:Uu T l n=some (x,m)):n<m/\m<=T.length:=(Ch T _).2.1 _ _ x m h
theorem Kya{x:List Ex}(h:eG T n=some (x,m)):n<m/\m<=T.length:=(Ch T _).2.2.2.1 _ x m h
def fF (T:List Tok)(n:Nat):Option (Ex×Nat):=(I6 T Up n).bind fun m=>(Uu T 1 m).bind fun p=>(I6 T Uo p.2).map fun m=>(p.1,m)
theorem Dk(h:fF T n=some (x,m)):n<m/\m<=T.length:=by
 obtain⟨a,h1,h2⟩:=Ja.1 h;obtain⟨p,h3,h4⟩:=Ja.1 h2;obtain⟨q,h5,h6⟩:=Ma.1 h4
 cases h6
 have:=Am Zd h1;have:=Cm (x:=p.1) (m:=p.2) h3;have:=Am Zd h5;omega
def jX (T:List Tok)(n:Nat):Option (St×Nat):=(bW T 1 n).bind fun p=>
 (if Ig T p.2=lK then(Uu T 1 (p.2+1)).map fun q=>(St.mk 1 p.1.text [q.1] [] [],q.2)
 else if Ig T p.2=fO then(Uu T 1 (p.2+1)).bind fun q=>(I6 T bU q.2).bind fun m=>(I6 T lK m).bind fun m=>(Uu T 1 m).map fun r=>(St.mk 2 p.1.text [q.1,r.1] [] [],r.2)
 else if Ig T p.2=Up then(eG T (p.2+1)).map fun q=>(St.mk 6 p.1.text q.1 [] [],q.2)
 else none).bind fun q=>(I6 T aJ q.2).map fun m=>(q.1,m)
theorem Dza{x:St}(h:jX T n=some (x,m)):n<m/\m<=T.length:=by
 obtain⟨p,h1,h2⟩:=Ja.1 h;obtain⟨q,h3,h4⟩:=Ja.1 h2;obtain⟨r,h5,h6⟩:=Ma.1 h4
 cases h6
 have a:=At (t:=p.1) (m:=p.2) h1;have b:=Am Zd h5;have c:p.2<=q.2:=by
  split at h3
  ·obtain⟨y,h7,h8⟩:=Ma.1 h3
   cases h8
   have:=Cm (x:=y.1) (m:=y.2) h7;show p.2<=y.2;omega
  split at h3
  ·obtain⟨y,h7,h8⟩:=Ja.1 h3
   obtain⟨m1,h9,lC⟩:=Ja.1 h8;obtain⟨m2,yR,MF⟩:=Ja.1 lC;obtain⟨z,h13,h14⟩:=Ma.1 MF
   cases h14
   have:=Cm (x:=y.1) (m:=y.2) h7;have:=Am Zd h9;have:=Am Zd yR;have:=Cm (x:=z.1) (m:=z.2) h13;show p.2<=z.2;omega
  split at h3
  ·obtain⟨y,h7,h8⟩:=Ma.1 h3
   cases h8
   have:=Kya (x:=y.1) (m:=y.2) h7;show p.2<=y.2;omega
  ·cases h3
 omega
mutual
def iI (T:List Tok):Nat->Nat->Option (St×Nat)
 |0,_=>none
 |f+1,n=>
  if Ig T n=fL then(fF T (n+1)).bind fun p=>(I6 T aJ p.2).map fun m=>(.mk 3 e0 [p.1] [] [],m)
  else if Ig T n=aA then
   if Ig T (n+1)=aJ then some (.mk 7 e0 [] [] [],n+2)
   else(Uu T 1 (n+1)).bind fun p=>(I6 T aJ p.2).map fun m=>(.mk 7 e0 [p.1] [] [],m)
  else if Ig T n=nV then(fF T (n+1)).bind fun p=>(gL T f p.2).bind fun q=>
   if Ig T q.2=dI then(gL T f (q.2+1)).map fun r=>(.mk 4 e0 [p.1] q.1 r.1,r.2)
   else some (.mk 4 e0 [p.1] q.1 [],q.2)
  else if Ig T n=bE then(fF T (n+1)).bind fun p=>(gL T f p.2).map fun q=>(.mk 5 e0 [p.1] q.1 [],q.2)
  else jX T n
def gL (T:List Tok):Nat->Nat->Option (List St×Nat)
 |0,_=>none
 |f+1,n=>(I6 T aH n).bind fun m=>eJ T f [] m
def eJ (T:List Tok):Nat->List St->Nat->Option (List St×Nat)
 |0,_,_=>none
 |f+1,l,n=>if Ig T n=eH then some (l,n+1) else(iI T f n).bind fun p=>eJ T f (l++[p.1]) p.2
end
theorem Fs (T:List Tok): ∀f,
  (∀n x m,iI T f n=some (x,m)->n<m/\m<=T.length)/\(∀n x m,gL T f n=some (x,m)->n<m/\m<=T.length)/\(∀l n x m,eJ T f l n=some (x,m)->n<m/\m<=T.length):=by
 intro f
 induction f with
 |zero=>exact⟨fun _ _ _ h=>by simp[iI] at h,fun _ _ _ h=>by simp[gL] at h,fun _ _ _ _ h=>by simp[eJ] at h⟩
 |succ f ih=>
  obtain⟨hS,hB,hL⟩:=ih;refine⟨fun n x m h=>?_,fun n x m h=>?_,fun l n x m h=>?_⟩
  ·rw[iI] at h
   split at h
   ·obtain⟨p,h1,h2⟩:=Ja.1 h
    obtain⟨q,h3,h4⟩:=Ma.1 h2
    cases h4
    have:=Dk (x:=p.1) (m:=p.2) h1;have:=Am Zd h3;omega
   split at h
   ·rename_i e
    split at h
    ·rename_i e2
     cases h
     have:=Bt (T:=T) (n:=n+1) (by rw[e2];decide);omega
    ·obtain⟨p,h1,h2⟩:=Ja.1 h
     obtain⟨q,h3,h4⟩:=Ma.1 h2
     cases h4
     have:=Cm (x:=p.1) (m:=p.2) h1;have:=Am Zd h3;omega
   split at h
   ·obtain⟨p,h1,h2⟩:=Ja.1 h
    obtain⟨q,h3,h4⟩:=Ja.1 h2;have:=Dk (x:=p.1) (m:=p.2) h1;have:=hB _ q.1 q.2 h3
    split at h4
    ·obtain⟨r,h5,h6⟩:=Ma.1 h4
     cases h6
     have:=hB _ r.1 r.2 h5;omega
    ·cases h4
     omega
   split at h
   ·obtain⟨p,h1,h2⟩:=Ja.1 h
    obtain⟨q,h3,h4⟩:=Ma.1 h2
    cases h4
    have:=Dk (x:=p.1) (m:=p.2) h1;have:=hB _ q.1 q.2 h3;omega
   ·exact Dza h
  ·rw[gL] at h
   obtain⟨p,h1,h2⟩:=Ja.1 h;have:=Am Zd h1;have:=hL _ _ _ _ h2;omega
  ·rw[eJ] at h
   split at h
   ·rename_i e
    cases h
    have:=Bt (T:=T) (n:=n) (by rw[e];decide);omega
   ·obtain⟨p,h1,h2⟩:=Ja.1 h
    have:=hS _ p.1 p.2 h1;have:=hL _ _ _ _ h2;omega
theorem rI (T:List Tok): ∀f,
  (∀n,5*(T.length - n)+2<=f->iI T f n=iI T (f+1) n)/\(∀n,5*(T.length - n)+4<=f->gL T f n=gL T (f+1) n)/\(∀l n,5*(T.length - n)+3<=f->eJ T f l n=eJ T (f+1) l n):=by
 intro f
 induction f with
 |zero=>exact⟨fun n h=>Zo,fun n h=>Zo,fun l n h=>Zo⟩
 |succ f ih=>
  obtain⟨hS,hB,hL⟩:=ih;refine⟨fun n h=>?_,fun n h=>?_,fun l n h=>?_⟩
  ·rw[iI,iI]
   by_cases h1:Ig T n=fL
   ·rw[Ka h1,Ka h1]
   rw[Jx h1,Jx h1];by_cases h2:Ig T n=aA
   ·rw[Ka h2,Ka h2]
   rw[Jx h2,Jx h2];by_cases h3:Ig T n=nV
   ·have hn:n<T.length:=Bt (by rw[h3];decide)
    rw[Ka h3,Ka h3];refine Az fun p hp=>?_
    have a:=Dk (x:=p.1) (m:=p.2) hp;rw[hB p.2 Zo];refine Az fun q hq=>?_
    have b:=(Fs T (f+1)).2.1 _ q.1 q.2 hq;rw[hB (q.2+1) Zo]
   rw[Jx h3,Jx h3];by_cases h4:Ig T n=bE
   ·have hn:n<T.length:=Bt (by rw[h4];decide)
    rw[Ka h4,Ka h4];refine Az fun p hp=>?_
    have a:=Dk (x:=p.1) (m:=p.2) hp;rw[hB p.2 Zo]
   rw[Jx h4,Jx h4]
  ·rw[gL,gL]
   refine Az fun m hm=>?_
   have a:=Am Zd hm;exact hL _ m Zo
  ·rw[eJ,eJ]
   by_cases h1:Ig T n=eH
   ·rw[Ka h1,Ka h1]
   rw[Jx h1,Jx h1,hS n Zo];refine Az fun p hp=>?_
   have a:=(Fs T (f+1)).1 _ p.1 p.2 hp;exact hL _ p.2 Zo
def fG (T:List Tok)(n:Nat):Option (St×Nat):=iI T (5*(T.length - n)+2) n
def gY (T:List Tok)(n:Nat):Option (List St×Nat):=gL T (5*(T.length - n)+4) n
def cP (T:List Tok)(l:List St)(n:Nat):Option (List St×Nat):=eJ T (5*(T.length - n)+3) l n
theorem F5a(hf:5*(T.length - n)+2<=f):iI T f n=fG T n:=lD (F:=fun f=>iI T f n) (fun f h=>(rI T f).1 n h) f _ hf (D5 _)
theorem Pn(hf:5*(T.length - n)+4<=f):gL T f n=gY T n:=lD (F:=fun f=>gL T f n) (fun f h=>(rI T f).2.1 n h) f _ hf (D5 _)
theorem Qm{l:List St}(hf:5*(T.length - n)+3<=f):eJ T f l n=cP T l n:=lD (F:=fun f=>eJ T f l n) (fun f h=>(rI T f).2.2 l n h) f _ hf (D5 _)
end
section
variable {T:List Tok}{x:List Tx}{n m:Nat}
def Dd (T:List Tok):Nat->List Tx->Nat->Option (List Tx×Nat)
 |0,_,_=>none
 |f+1,l,n=>if Ig T n=Ug then(bW T 1 (n+1)).bind fun p=>Dd T f (l++[p.1.text]) p.2 else some (l,n)
def eA (T:List Tok)(n:Nat):Option (List Tx×Nat):=(bW T 1 n).bind fun p=>Dd T (T.length - p.2+1) [p.1.text] p.2
theorem Q3 (T:List Tok): ∀f l n x m,n<=T.length->Dd T f l n=some (x,m)->n<=m/\m<=T.length
 |0,l,n,x,m,_,h=>by simp[Dd] at h
 |f+1,l,n,x,m,hn,h=>by
  rw[Dd] at h
  split at h
  ·obtain⟨p,h1,h2⟩:=Ja.1 h
   have a:=At (t:=p.1) (m:=p.2) h1;have b:=Q3 T f _ p.2 x m Zo h2;omega
  ·cases h
   omega
theorem Eh(h:eA T n=some (x,m)):n<m/\m<=T.length:=by
 obtain⟨p,h1,h2⟩:=Ja.1 h;have a:=At (t:=p.1) (m:=p.2) h1;have b:=Q3 T _ _ p.2 x m Zo h2;omega
theorem Q1 (T:List Tok): ∀f l n,T.length - n<f->Dd T f l n=Dd T (f+1) l n
 |0,l,n,h=>Zo
 |f+1,l,n,h=>by
  rw[Dd,Dd];by_cases h1:Ig T n=Ug
  ·rw[Ka h1,Ka h1]
   refine Az fun p hp=>?_
   have a:=At (t:=p.1) (m:=p.2) hp;exact Q1 T f _ p.2 Zo
  ·rw[Jx h1,Jx h1]
theorem Zy{l:List Tx}{f g:Nat}(hf:T.length - n<f)(hg:T.length - n<g):Dd T f l n=Dd T g l n:=
 lD (b:=T.length - n+1) (F:=fun f=>Dd T f l n) (fun f h=>Q1 T f l n Zo) f g Zo Zo
def C1 (T:List Tok):Nat->List Tx->Nat->Option (List Tx×Nat)
 |0,_,_=>none
 |f+1,l,n=>if Ig T n=dP then(eA T (n+1)).bind fun p=>(I6 T aJ p.2).bind fun m=>C1 T f (l++p.1) m else some (l,n)
def yE (T:List Tok)(n:Nat):Option (List Tx×Nat):=C1 T (T.length - n+1) [] n
theorem Oz (T:List Tok): ∀f l n x m,n<=T.length->C1 T f l n=some (x,m)->n<=m/\m<=T.length
 |0,l,n,x,m,_,h=>by simp[C1] at h
 |f+1,l,n,x,m,hn,h=>by
  rw[C1] at h
  split at h
  ·obtain⟨p,h1,h2⟩:=Ja.1 h
   obtain⟨q,h3,h4⟩:=Ja.1 h2;have a:=Eh (x:=p.1) (m:=p.2) h1;have b:=Am Zd h3;have c:=Oz T f _ q x m Zo h4;omega
  ·cases h
   omega
def dQ (T:List Tok)(n:Nat):Option (List Tx×Nat):=if cG T n=1 then(eA T n).bind fun p=>(I6 T Uo p.2).map fun m=>(p.1,m) else(I6 T Uo n).map fun m=>([],m)
theorem Og (T:List Tok)(n:Nat):dQ T n=if Ig T n=Uo then some ([],n+1) else(eA T n).bind fun p=>(I6 T Uo p.2).map fun m=>(p.1,m):=by
 unfold dQ;by_cases h1:cG T n=1
 ·have hp:Ig T n≠Uo:=by
   unfold cG at h1;unfold Ig
   cases h:T[n]? with
   |none=>simp only;decide
   |some t=>
    rw[h] at h1;simp only at h1⊢;rw[Jx Zo];decide
  rw[Ka h1,Jx hp]
 ·rw[Jx h1]
  by_cases h2:Ig T n=Uo
  ·rw[Ka h2]
   unfold I6;rw[Ka h2];rfl
  ·rw[Jx h2]
   have ht:bW T 1 n=none:=by
    unfold cG at h1;unfold bW
    cases h:T[n]? with
    |none=>rfl
    |some t=>
     rw[h] at h1;simp only at h1⊢;rw[Jx h1]
   unfold eA I6;rw[ht,Jx h2];rfl
def kK (T:List Tok)(n:Nat):Option (Fu×Nat):=(bW T 1 n).bind fun p=>(I6 T Up p.2).bind fun m=>(dQ T m).bind fun q=>
 (I6 T aH (if Ig T q.2=bN then q.2+1 else q.2)).bind fun m=>(yE T m).bind fun r=>(cP T [] r.2).map fun s=>
  (⟨p.1.text,q.1,r.1,decide (Ig T q.2=bN),s.1⟩,s.2)
theorem Ze(h:dQ T n=some (x,m)):n<m/\m<=T.length:=by
 unfold dQ at h
 split at h
 ·obtain⟨p,h1,h2⟩:=Ja.1 h
  obtain⟨q,h3,h4⟩:=Ma.1 h2
  cases h4
  have a:=Eh (x:=p.1) (m:=p.2) h1;have b:=Am Zd h3;omega
 ·obtain⟨q,h3,h4⟩:=Ma.1 h
  cases h4
  have b:=Am Zd h3;omega
theorem Dea{l:List St}{x:List St}(h:cP T l n=some (x,m)):n<m/\m<=T.length:=(Fs T _).2.2 _ _ x m h
theorem Kta{x:List St}(h:gY T n=some (x,m)):n<m/\m<=T.length:=(Fs T _).2.1 _ x m h
theorem Nu{x:St}(h:fG T n=some (x,m)):n<m/\m<=T.length:=(Fs T _).1 _ x m h
theorem Ts{x:Fu}(h:kK T n=some (x,m)):n<m/\m<=T.length:=by
 obtain⟨p,h1,h2⟩:=Ja.1 h;obtain⟨q,h3,h4⟩:=Ja.1 h2;obtain⟨r,h5,h6⟩:=Ja.1 h4;obtain⟨u,h7,h8⟩:=Ja.1 h6;obtain⟨v,h9,lC⟩:=Ja.1 h8;obtain⟨w,yR,MF⟩:=Ma.1 lC
 cases MF
 have a:=At (t:=p.1) (m:=p.2) h1;have b:=Am Zd h3;have c:=Ze (x:=r.1) (m:=r.2) h5;have d:=Am Zd h7;have e:=Oz T _ _ u v.1 v.2 Zo h9;have f:=Dea (x:=w.1) (m:=w.2) yR;have g:r.2<=(if Ig T r.2=bN then r.2+1 else r.2):=by split<;>omega
 omega
def lX (T:List Tok):Nat->List Tx->List (Tx×Int)->Nat->Option ((List Tx×List (Tx×Int))×Nat)
 |0,_,_,_=>none
 |f+1,v,a,n=>
  if Ig T n=dP then(eA T (n+1)).bind fun p=>(I6 T aJ p.2).bind fun m=>lX T f (v++p.1) a m
  else if Ig T n=aT then(bW T 1 (n+1)).bind fun p=>(I6 T fO p.2).bind fun m=>(bW T 2 m).bind fun q=>(I6 T bU q.2).bind fun m=>(I6 T aJ m).bind fun m=>lX T f v (a++[(p.1.text,IntKind.i64.wrap q.1.num)]) m
  else some ((v,a),n)
def kJ (T:List Tok):Nat->List Fu->Nat->Option (List Fu)
 |0,_,_=>none
 |f+1,l,n=>(I6 T cR n).bind fun m=>(kK T m).bind fun p=>if p.2<T.length then kJ T f (l++[p.1]) p.2 else some (l++[p.1])
def iY (T:List Tok):Option Pr:=(lX T (T.length+1) [] [] 0).bind fun p=>(kJ T (T.length+1) [] p.2).map fun l=>⟨p.1.1,p.1.2,l⟩
end
end Go.Ab.Sy
