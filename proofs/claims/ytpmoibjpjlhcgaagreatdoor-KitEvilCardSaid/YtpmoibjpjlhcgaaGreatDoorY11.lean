/- A part of the proof: Ya, Yc, Yd, Ye. -/
import Derived.Test.YtpmoibjpjlhcgaaGreatDoorY01
set_option linter.unusedSimpArgs false
set_option linter.unusedVariables false
namespace Go.Ab.Sy
open Go Go.Ab
abbrev iz (n:Int):AV:= .sc (.int .i64 n)
abbrev uz (n:Int):AV:= .sc (.int .u32 n)
abbrev tz (s:ByteArray):AV:= .sc (.string s)
abbrev bz (b:Bool):AV:= .sc (.bool b)
@[ext] structure Tx where
 val:ByteArray
 le:val.size<=20000
deriving DecidableEq
instance:Coe Tx ByteArray:=⟨Tx.val⟩
abbrev tx0 :Tx:=⟨⟨#[]⟩,by decide⟩
structure Tok where
 kind:Int
 text:Tx
 num:Int
 at_:Int
def Tok.row (t:Tok):List AV:=[iz t.kind,tz t.text.1,uz t.num,iz t.at_]
inductive Ex where
 |mk (kind op num:Int) (name:Tx) (kids:List Ex)
namespace Ex
def kind :Ex->Int| .mk k _ _ _ _=>k
def op :Ex->Int| .mk _ o _ _ _=>o
def num :Ex->Int| .mk _ _ n _ _=>n
def name :Ex->Tx| .mk _ _ _ s _=>s
def kids :Ex->List Ex| .mk _ _ _ _ l=>l
end Ex
mutual
def Ex.row :Ex->List AV
 | .mk k o n s l=>[iz k,iz o,uz n,tz s.1,.sl false 5 (exRows l)]
def exRows :List Ex->List (List AV)
 |[]=>[]
 |e::l=>e.row::exRows l
end
mutual
def Ex.size :Ex->Nat
 | .mk _ _ _ _ l=>exSize l+1
def exSize :List Ex->Nat
 |[]=>0
 |e::l=>e.size+exSize l
end
@[simp] theorem T9 :exRows []=[]:=by rw[exRows]
@[simp] theorem exRows_cons (e:Ex)(l:List Ex):exRows (e::l)=e.row::exRows l:=by rw[exRows]
theorem Gx : ∀l,exRows l=l.map Ex.row
 |[]=>rfl
 |e::l=>by simp[Gx l]
@[simp] theorem exRows_length (l:List Ex):(exRows l).length=l.length:=by simp[Gx]
@[simp] theorem exRows_app (l m:List Ex):exRows (l++m)=exRows l++exRows m:=by simp[Gx]
theorem Ex.row_eq (e:Ex):e.row=[iz e.kind,iz e.op,uz e.num,tz e.name.1,.sl false 5 (exRows e.kids)]:=by
 cases e;rw[Ex.row];rfl
@[simp] theorem exSize_nil :exSize []=0:=by rw[exSize]
@[simp] theorem exSize_cons (e:Ex)(l:List Ex):exSize (e::l)=e.size+exSize l:=by rw[exSize]
@[simp] theorem T8 : ∀l m:List Ex,exSize (l++m)=exSize l+exSize m
 |[],m=>by simp
 |e::l,m=>by simp[T8 l m,Nat.add_assoc]
theorem Ex.size_eq (e:Ex):e.size=exSize e.kids+1:=by cases e;rw[Ex.size];rfl
theorem Ex.size_pos (e:Ex):1<=e.size:=by rw[Ex.size_eq];omega
theorem Bv : ∀l:List Ex,l.length<=exSize l
 |[]=>by simp
 |e::l=>by have:=Bv l;have:=e.size_pos;simp;omega
theorem Mw {e:Ex}: ∀{l:List Ex},e∈l->e.size<=exSize l
 |x::l,h=>by
  rcases List.mem_cons.1 h with rfl|h
  ·simp
  ·have:=Mw h;simp;omega
theorem B5 {l:List Ex}{i:Nat}{e:Ex}(h:l[i]?=some e):e.size<=exSize l:=Mw (List.mem_of_getElem? h)
inductive St where
 |mk (kind:Int) (name:Tx) (e:List Ex) (th el:List St)
namespace St
def kind :St->Int| .mk k _ _ _ _=>k
def name :St->Tx| .mk _ s _ _ _=>s
def e :St->List Ex| .mk _ _ e _ _=>e
def th :St->List St| .mk _ _ _ t _=>t
def el :St->List St| .mk _ _ _ _ t=>t
end St
mutual
def St.row :St->List AV
 | .mk k s e t f=>[iz k,tz s.1,.sl false 5 (exRows e),.sl false 5 (stRows t),.sl false 5 (stRows f)]
def stRows :List St->List (List AV)
 |[]=>[]
 |e::l=>e.row::stRows l
end
mutual
def St.size :St->Nat
 | .mk _ _ e t f=>exSize e+stSize t+stSize f+1
def stSize :List St->Nat
 |[]=>0
 |e::l=>e.size+stSize l
end
@[simp] theorem stRows_nil :stRows []=[]:=by rw[stRows]
@[simp] theorem stRows_cons (e:St)(l:List St):stRows (e::l)=e.row::stRows l:=by rw[stRows]
theorem Gt : ∀l,stRows l=l.map St.row
 |[]=>rfl
 |e::l=>by simp[Gt l]
@[simp] theorem stRows_length (l:List St):(stRows l).length=l.length:=by simp[Gt]
@[simp] theorem stRows_app (l m:List St):stRows (l++m)=stRows l++stRows m:=by simp[Gt]
theorem St.row_eq (s:St):s.row=[iz s.kind,tz s.name.1,.sl false 5 (exRows s.e),.sl false 5 (stRows s.th),.sl false 5 (stRows s.el)]:=by
 cases s;rw[St.row];rfl
@[simp] theorem stSize_nil :stSize []=0:=by rw[stSize]
@[simp] theorem stSize_cons (e:St)(l:List St):stSize (e::l)=e.size+stSize l:=by rw[stSize]
@[simp] theorem Tf : ∀l m:List St,stSize (l++m)=stSize l+stSize m
 |[],m=>by simp
 |e::l,m=>by simp[Tf l m,Nat.add_assoc]
theorem St.size_eq (s:St):s.size=exSize s.e+stSize s.th+stSize s.el+1:=by cases s;rw[St.size];rfl
theorem St.size_pos (e:St):1<=e.size:=by rw[St.size_eq];omega
theorem Cj : ∀l:List St,l.length<=stSize l
 |[]=>by simp
 |e::l=>by have:=Cj l;have:=e.size_pos;simp;omega
theorem L2 {e:St}: ∀{l:List St},e∈l->e.size<=stSize l
 |x::l,h=>by
  rcases List.mem_cons.1 h with rfl|h
  ·simp
  ·have:=L2 h;simp;omega
theorem Dt {l:List St}{i:Nat}{e:St}(h:l[i]?=some e):e.size<=stSize l:=L2 (List.mem_of_getElem? h)
abbrev txRows (l:List Tx):List (List AV):=l.map fun s=>[tz s.1]
abbrev tbRows (l:List ByteArray):List (List AV):=l.map fun s=>[tz s]
structure Fu where
 name:Tx
 params:List Tx
 locals:List Tx
 word:Bool
 body:List St
def Fu.row (f:Fu):List AV:=[tz f.name.1,.sl false 1 (txRows f.params),.sl false 1 (txRows f.locals),bz f.word,.sl false 5 (stRows f.body)]
def Fu.size (f:Fu):Nat:=f.params.length+f.locals.length+stSize f.body+1
structure Pr where
 vars:List Tx
 arrays:List (Tx×Int)
 funcs:List Fu
def arRows (l:List (Tx×Int)):List (List AV):=l.map fun a=>[tz a.1.1,iz a.2]
def Pr.row (p:Pr):List AV:=[.sl false 1 (txRows p.vars),.sl false 2 (arRows p.arrays),.sl false 5 (p.funcs.map Fu.row)]
def fuSize :List Fu->Nat
 |[]=>0
 |f::l=>f.size+fuSize l
def Pr.size (p:Pr):Nat:=p.vars.length+p.arrays.length+fuSize p.funcs
@[simp] theorem T6 :fuSize []=0:=rfl
@[simp] theorem Ky (f:Fu)(l:List Fu):fuSize (f::l)=f.size+fuSize l:=rfl
@[simp] theorem Hl : ∀l m:List Fu,fuSize (l++m)=fuSize l+fuSize m
 |[],m=>by simp
 |e::l,m=>by simp[Hl l m,Nat.add_assoc]
theorem Bq : ∀l:List Fu,l.length<=fuSize l
 |[]=>by simp
 |e::l=>by have:=Bq l;simp[Fu.size];omega
theorem Fd {f:Fu}: ∀{l:List Fu},f∈l->f.size<=fuSize l
 |x::l,h=>by
  rcases List.mem_cons.1 h with rfl|h
  ·simp
  ·have:=Fd h;simp;omega
inductive Cx where
 |mk (kind op num slot size:Int) (kids:List Cx)
namespace Cx
def kind :Cx->Int| .mk k _ _ _ _ _=>k
def kids :Cx->List Cx| .mk _ _ _ _ _ l=>l
end Cx
mutual
def Cx.row :Cx->List AV
 | .mk k o n s z l=>[iz k,iz o,uz n,iz s,iz z,.sl false 6 (cxRows l)]
def cxRows :List Cx->List (List AV)
 |[]=>[]
 |e::l=>e.row::cxRows l
end
mutual
def Cx.size :Cx->Nat
 | .mk _ _ _ _ _ l=>cxSize l+1
def cxSize :List Cx->Nat
 |[]=>0
 |e::l=>e.size+cxSize l
end
@[simp] theorem Fg :cxRows []=[]:=by rw[cxRows]
@[simp] theorem Gh (e:Cx)(l:List Cx):cxRows (e::l)=e.row::cxRows l:=by rw[cxRows]
theorem Gy : ∀l,cxRows l=l.map Cx.row
 |[]=>rfl
 |e::l=>by simp[Gy l]
@[simp] theorem cxRows_length (l:List Cx):(cxRows l).length=l.length:=by simp[Gy]
@[simp] theorem cxRows_app (l m:List Cx):cxRows (l++m)=cxRows l++cxRows m:=by simp[Gy]
@[simp] theorem Ho :cxSize []=0:=by rw[cxSize]
@[simp] theorem C8 (e:Cx)(l:List Cx):cxSize (e::l)=e.size+cxSize l:=by rw[cxSize]
@[simp] theorem M2 : ∀l m:List Cx,cxSize (l++m)=cxSize l+cxSize m
 |[],m=>by simp
 |e::l,m=>by simp[M2 l m,Nat.add_assoc]
theorem Cx.size_eq (e:Cx):e.size=cxSize e.kids+1:=by cases e;rw[Cx.size];rfl
theorem Cx.size_pos (e:Cx):1<=e.size:=by rw[Cx.size_eq];omega
theorem Hq : ∀l:List Cx,l.length<=cxSize l
 |[]=>by simp
 |e::l=>by have:=Hq l;have:=e.size_pos;simp;omega
inductive Cs where
 |mk (kind slot size:Int) (e:List Cx) (th el:List Cs)
namespace Cs
def kind :Cs->Int| .mk k _ _ _ _ _=>k
def e :Cs->List Cx| .mk _ _ _ e _ _=>e
def th :Cs->List Cs| .mk _ _ _ _ t _=>t
def el :Cs->List Cs| .mk _ _ _ _ _ t=>t
end Cs
mutual
def Cs.row :Cs->List AV
 | .mk k s z e t f=>[iz k,iz s,iz z,.sl false 6 (cxRows e),.sl false 6 (csRows t),.sl false 6 (csRows f)]
def csRows :List Cs->List (List AV)
 |[]=>[]
 |e::l=>e.row::csRows l
end
mutual
def Cs.size :Cs->Nat
 | .mk _ _ _ e t f=>cxSize e+csSize t+csSize f+1
def csSize :List Cs->Nat
 |[]=>0
 |e::l=>e.size+csSize l
end
@[simp] theorem Vc :csRows []=[]:=by rw[csRows]
@[simp] theorem csRows_cons (e:Cs)(l:List Cs):csRows (e::l)=e.row::csRows l:=by rw[csRows]
theorem Gz : ∀l,csRows l=l.map Cs.row
 |[]=>rfl
 |e::l=>by simp[Gz l]
@[simp] theorem csRows_length (l:List Cs):(csRows l).length=l.length:=by simp[Gz]
@[simp] theorem csRows_app (l m:List Cs):csRows (l++m)=csRows l++csRows m:=by simp[Gz]
@[simp] theorem csSize_nil :csSize []=0:=by rw[csSize]
@[simp] theorem Sb (e:Cs)(l:List Cs):csSize (e::l)=e.size+csSize l:=by rw[csSize]
@[simp] theorem M5 : ∀l m:List Cs,csSize (l++m)=csSize l+csSize m
 |[],m=>by simp
 |e::l,m=>by simp[M5 l m,Nat.add_assoc]
theorem Cs.size_eq (s:Cs):s.size=cxSize s.e+csSize s.th+csSize s.el+1:=by cases s;rw[Cs.size];rfl
theorem Cs.size_pos (e:Cs):1<=e.size:=by rw[Cs.size_eq];omega
theorem M4 : ∀l:List Cs,l.length<=csSize l
 |[]=>by simp
 |e::l=>by have:=M4 l;have:=e.size_pos;simp;omega
theorem M3 {e:Cs}: ∀{l:List Cs},e∈l->e.size<=csSize l
 |x::l,h=>by
  rcases List.mem_cons.1 h with rfl|h
  ·simp
  ·have:=M3 h;simp;omega
theorem Vb {l:List Cs}{i:Nat}{e:Cs}(h:l[i]?=some e):e.size<=csSize l:=M3 (List.mem_of_getElem? h)
structure Cf where
 params:Int
 slots:Int
 first:Int
 word:Bool
 body:List Cs
def Cf.row (f:Cf):List AV:=[iz f.params,iz f.slots,iz f.first,bz f.word,.sl false 6 (csRows f.body)]
structure Co where
 words:Int
 funcs:List Cf
structure Si where
 op:Int
 a:Int
 b:Int
 n:Int
deriving DecidableEq
def Si.row (s:Si):List AV:=[iz s.op,iz s.a,iz s.b,uz s.n]
structure Sf where
 params:Int
 slots:Int
 first:Int
 word:Bool
 code:List Si
def Sf.row (f:Sf):List AV:=[iz f.params,iz f.slots,iz f.first,bz f.word,.sl false 4 (f.code.map Si.row)]
end Go.Ab.Sy
namespace Go.Ab.Sy
open Go Go.Ab
/-! ### the code -/
def sNot :Si:=⟨7,0,0,0⟩
def tailE (k o n s z:Int):List Si:=
 if k=1 then[⟨1,0,0,n⟩] else if k=2 then[⟨2,s,0,0⟩] else if k=3 then[⟨4,s,z,0⟩] else if k=4 then[⟨10,s,0,0⟩]
 else if k=5 then[⟨12,0,0,0⟩] else if k=6 then[⟨6,o,0,0⟩] else if k=7 then[sNot] else[]
mutual
def lE (p:Nat):Cx->List Si
 | .mk k o n s z l=>if k=8\/k=9 then lB p k l else lEs p l++tailE k o n s z
def lEs (p:Nat):List Cx->List Si
 |[]=>[]
 |e::l=>lE p e++lEs (p+(lE p e).length) l
def lB (p:Nat) (k:Int):List Cx->List Si
 |[]=>[]
 |a::l=>(lE p a++if k=8 then[sNot] else[])++(⟨9,((p+(lE p a++if k=8 then[sNot] else[]).length+3:Nat):Int),0,0⟩::
   ⟨1,0,0,if k=8 then 0 else 1⟩::⟨8,((p+(lE p a++if k=8 then[sNot] else[]).length+5+(lR (p+(lE p a++if k=8 then[sNot] else[]).length+3) l).length:Nat):Int),0,0⟩::
   (lR (p+(lE p a++if k=8 then[sNot] else[]).length+3) l++[sNot,sNot]))
def lR (p:Nat):List Cx->List Si
 |[]=>[]
 |b::_=>lE p b
end
def leave (w:Bool):List Si:=if w then[⟨1,0,0,0⟩,⟨11,0,0,0⟩] else[⟨11,0,0,0⟩]
def tailS (w:Bool)(k s z:Int)(e:List Cx):List Si:=
 if k=1 then[⟨3,s,0,0⟩] else if k=2 then[⟨5,s,z,0⟩] else if k=3 then[⟨13,0,0,0⟩] else if k=6 then[⟨10,s,0,0⟩]
 else if k=7 then(if 0<e.length then[⟨11,0,0,0⟩] else leave w) else[]
mutual
def lS (w:Bool) (p:Nat):Cs->List Si
 | .mk k s z e t f=>
  if k=5 then lEs p e++(⟨9,((p+(lEs p e).length+2+(lSs w (p+(lEs p e).length+1) t).length:Nat):Int),0,0⟩::(lSs w (p+(lEs p e).length+1) t++[⟨8,(p:Int),0,0⟩]))
  else if k=4 then lEs p e++(if f.length=0 then⟨9,((p+(lEs p e).length+1+(lSs w (p+(lEs p e).length+1) t).length:Nat):Int),0,0⟩::lSs w (p+(lEs p e).length+1) t
   else⟨9,((p+(lEs p e).length+2+(lSs w (p+(lEs p e).length+1) t).length:Nat):Int),0,0⟩::(lSs w (p+(lEs p e).length+1) t++
    (⟨8,((p+(lEs p e).length+2+(lSs w (p+(lEs p e).length+1) t).length+(lSs w (p+(lEs p e).length+2+(lSs w (p+(lEs p e).length+1) t).length) f).length:Nat):Int),0,0⟩::lSs w (p+(lEs p e).length+2+(lSs w (p+(lEs p e).length+1) t).length) f)))
  else lEs p e++tailS w k s z e
def lSs (w:Bool) (p:Nat):List Cs->List Si
 |[]=>[]
 |s::l=>lS w p s++lSs w (p+(lS w p s).length) l
end
def lF (f:Cf):List Si:=lSs f.word 0 f.body++leave f.word
@[simp] theorem lEs_nil (p:Nat):lEs p []=[]:=by rw[lEs]
@[simp] theorem Rr (p:Nat)(e:Cx)(l:List Cx):lEs p (e::l)=lE p e++lEs (p+(lE p e).length) l:=by rw[lEs]
@[simp] theorem lSs_nil (w:Bool)(p:Nat):lSs w p []=[]:=by rw[lSs]
@[simp] theorem Rn (w:Bool)(p:Nat)(e:Cs)(l:List Cs):lSs w p (e::l)=lS w p e++lSs w (p+(lS w p e).length) l:=by rw[lSs]
theorem Zw (p:Nat): ∀l m:List Cx,lEs p (l++m)=lEs p l++lEs (p+(lEs p l).length) m
 |[],m=>by simp
 |e::l,m=>by simp[Zw _ l m,Nat.add_assoc]
theorem Zv (w:Bool)(p:Nat): ∀l m:List Cs,lSs w p (l++m)=lSs w p l++lSs w (p+(lSs w p l).length) m
 |[],m=>by simp
 |e::l,m=>by simp[Zv w _ l m,Nat.add_assoc]
/-! ### how long it is -/
mutual
theorem Tz (p:Nat): ∀e:Cx,(lE p e).length<=6*e.size
 | .mk k o n s z l=>by
  rw[lE,Cx.size]
  split
  ·have:=lB_len p k l;omega
  ·have:=Py p l
   have h:(tailE k o n s z).length<=1:=by unfold tailE;(repeat' split)<;>simp
   simp only[List.length_append];omega
theorem Py (p:Nat): ∀l:List Cx,(lEs p l).length<=6*cxSize l
 |[]=>by simp
 |e::l=>by
  have:=Tz p e
  have:=Py (p+(lE p e).length) l
  simp only[Rr,List.length_append,C8];omega
theorem lB_len (p:Nat) (k:Int): ∀l:List Cx,(lB p k l).length<=6*cxSize l+6
 |[]=>by rw[lB];simp
 |a::l=>by
  rw[lB]
  have h1:=Tz p a
  have h2:=lR_len (p+(lE p a++if k=8 then[sNot] else[]).length+3) l
  have h3:(if k=8 then[sNot] else[]).length<=1:=by split<;>simp
  simp only[List.length_append,List.length_cons,List.length_nil,C8] at*
  omega
theorem lR_len (p:Nat): ∀l:List Cx,(lR p l).length<=6*cxSize l
 |[]=>by rw[lR];simp
 |b::l=>by rw[lR];have:=Tz p b;simp only[C8];omega
end
mutual
theorem lS_len (w:Bool) (p:Nat): ∀s:Cs,(lS w p s).length<=6*s.size
 | .mk k s z e t f=>by
  rw[lS,Cs.size]
  have h0:=Py p e
  have h1:=Le w (p+(lEs p e).length+1) t
  split
  ·simp only[List.length_append,List.length_cons,List.length_nil];omega
  ·split
   ·split
    ·simp only[List.length_append,List.length_cons];omega
    ·have h2:=Le w (p+(lEs p e).length+2+(lSs w (p+(lEs p e).length+1) t).length) f
     simp only[List.length_append,List.length_cons];omega
   ·have h:(tailS w k s z e).length<=2:=by unfold tailS leave;(repeat' split)<;>simp
    simp only[List.length_append];omega
theorem Le (w:Bool) (p:Nat): ∀l:List Cs,(lSs w p l).length<=6*csSize l
 |[]=>by simp
 |e::l=>by
  have:=lS_len w p e
  have:=Le w (p+(lS w p e).length) l
  simp only[Rn,List.length_append,Sb];omega
end
theorem J4 (w:Bool):(leave w).length<=2:=by cases w<;>simp[leave]
theorem lF_len (f:Cf):(lF f).length<=6*csSize f.body+2:=by
 have:=Le f.word 0 f.body;have:=J4 f.word;simp only[lF,List.length_append];omega
/-! ### what lies on the stack -/
def cnt (w:Bool):Nat:=if w then 1 else 0
def stepD (fs:List (Nat×Bool))(w:Bool)(c:Si)(d:Nat):Option Nat:=
 if c.op=1\/c.op=2\/c.op=12 then some (d+1)
 else if c.op=3\/c.op=9\/c.op=13 then(if 1<=d then some (d - 1) else none)
 else if c.op=4\/c.op=7 then(if 1<=d then some d else none)
 else if c.op=5 then(if 2<=d then some (d - 2) else none)
 else if c.op=6 then(if 2<=d then some (d - 1) else none)
 else if c.op=8 then some d
 else if c.op=10 then(if 0<=c.a then match fs[c.a.toNat]? with
  |some (ps,v)=>if ps<=d then some (d - ps+cnt v) else none
  |none=>none else none)
 else if c.op=11 then(if d=cnt w then some 0 else none)
 else none
def succs (c:Si)(p:Nat):List Int:=if c.op=8 then[c.a] else if c.op=9 then[(p:Int)+1,c.a] else if c.op=11 then[] else[(p:Int)+1]
section
variable (fs:List (Nat×Bool))(w:Bool)
def OkAt (D:Nat->Nat)(c:Si)(p lo hi:Nat):Prop:= ∃d',stepD fs w c (D p)=some d'/\ ∀j∈succs c p,∃q:Nat,j=q/\lo<=q/\q<=hi/\D q=d'
def Seg (D:Nat->Nat)(code:List Si)(p lo hi:Nat):Prop:= ∀i c,code[i]?=some c->OkAt fs w D c (p+i) lo hi
def Typed (code:List Si)(p d0 d1:Nat):Prop:= ∃D:Nat->Nat,D p=d0/\D (p+code.length)=d1/\Seg fs w D code p p (p+code.length)
variable {fs w}
theorem OkAt.mono {D:Nat->Nat}{c:Si}{p lo hi lo' hi':Nat}(h:OkAt fs w D c p lo hi)(h1:lo'<=lo)(h2:hi<=hi'):OkAt fs w D c p lo' hi':=by
 obtain⟨d,hd,h⟩:=h
 exact⟨d,hd,fun j hj=>let ⟨q,e,a,b,r⟩:=h j hj;⟨q,e,by omega,by omega,r⟩⟩
theorem Seg.mono {D:Nat->Nat}{code:List Si}{p lo hi lo' hi':Nat}(h:Seg fs w D code p lo hi)(h1:lo'<=lo)(h2:hi<=hi'):Seg fs w D code p lo' hi':=
 fun i c hc=>(h i c hc).mono h1 h2
theorem Seg.congr {D D':Nat->Nat}{code:List Si}{p lo hi:Nat}(h:Seg fs w D code p lo hi)(hl:lo<=p)(hh:p+code.length<=hi)(he: ∀x,lo<=x->x<=hi->D' x=D x):Seg fs w D' code p lo hi:=by
 intro i c hc
 have hi:=(List.getElem?_eq_some_iff.1 hc).1
 obtain⟨d,hd,h⟩:=h i c hc
 exact⟨d,by rw[he _ (by omega) (by omega)];exact hd,fun j hj=>let ⟨q,e,a,b,r⟩:=h j hj;⟨q,e,a,b,by rw[he _ a b];exact r⟩⟩
theorem Seg.app {D:Nat->Nat}{c0 c1:List Si}{p lo hi:Nat}(h0:Seg fs w D c0 p lo hi)(h1:Seg fs w D c1 (p+c0.length) lo hi):Seg fs w D (c0++c1) p lo hi:=by
 intro i c hc
 by_cases h:i<c0.length
 ·rw[List.getElem?_append_left h] at hc;exact h0 i c hc
 ·rw[List.getElem?_append_right (by omega)] at hc
  have:=h1 _ c hc
  rwa [show p+c0.length+(i - c0.length)=p+i from by omega] at this
theorem Seg.nil {D:Nat->Nat}{p lo hi:Nat}:Seg fs w D [] p lo hi:=fun i c hc=>by simp at hc
theorem Seg.cons {D:Nat->Nat}{c:Si}{l:List Si}{p lo hi:Nat}(h0:OkAt fs w D c p lo hi)(h1:Seg fs w D l (p+1) lo hi):Seg fs w D (c::l) p lo hi:=by
 intro i x hx
 cases i with
 |zero=>simp only[List.getElem?_cons_zero,Option.some.injEq] at hx;subst hx;exact h0
 |succ i=>rw[List.getElem?_cons_succ] at hx;have:=h1 i x hx;rwa [show p+1+i=p+(i+1) from by omega] at this
theorem Typed.nil {p d:Nat}:Typed fs w [] p d d:=⟨fun _=>d,rfl,rfl,.nil⟩
theorem Typed.one {c:Si}{p d d':Nat}(h:stepD fs w c d=some d')(hs:succs c p=[(p:Int)+1]):Typed fs w [c] p d d':=by
 refine⟨fun x=>if x=p then d else d',by simp,by simp,.cons ?_ .nil⟩
 refine⟨d',by simpa using h,?_⟩
 rw[hs]
 intro j hj
 simp only[List.mem_singleton] at hj
 exact⟨p+1,by rw[hj];rfl,by omega,by simp,by simp⟩
theorem Typed.app {c0 c1:List Si}{p d0 d1 d2:Nat}(h0:Typed fs w c0 p d0 d1)(h1:Typed fs w c1 (p+c0.length) d1 d2):Typed fs w (c0++c1) p d0 d2:=by
 obtain⟨D0,a0,a1,s0⟩:=h0
 obtain⟨D1,b0,b1,s1⟩:=h1
 refine⟨fun x=>if x<p+c0.length then D0 x else D1 x,?_,?_,.app ?_ ?_⟩
 ·simp only
  split
  ·exact a0
  ·have:c0.length=0:=by omega
   rw[show p=p+c0.length from by omega] at a0
   rw[show p=p+c0.length from by omega,b0,<-a1,a0]
 ·simp only[List.length_append]
  rw[if_neg (by omega),<-Nat.add_assoc];exact b1
 ·refine Seg.mono (Seg.congr s0 (Nat.le_refl _) (Nat.le_refl _) fun x h1 h2=>?_) (Nat.le_refl _) (by simp)
  try simp only
  split
  ·rfl
  ·rw[show x=p+c0.length from by omega,b0,a1]
 ·refine Seg.mono (Seg.congr s1 (Nat.le_refl _) (Nat.le_refl _) fun x h1 h2=>?_) (by omega) (by simp;omega)
  try simp only
  rw[if_neg (by omega)]
theorem Typed.ifS {c1:List Si}{p d:Nat}(h:Typed fs w c1 (p+1) d d):Typed fs w (⟨9,((p+1+c1.length:Nat):Int),0,0⟩::c1) p (d+1) d:=by
 obtain⟨D1,b0,b1,s1⟩:=h
 refine⟨fun x=>if x=p then d+1 else D1 x,by simp,?_,.cons ?_ ?_⟩
 ·simp only[List.length_cons]
  rw[if_neg (by omega),show p+(c1.length+1)=p+1+c1.length from by omega];exact b1
 ·refine⟨d,by simp[stepD],fun j hj=>?_⟩
  simp only[succs,Int.reduceEq,if_true,if_false,List.mem_cons,List.not_mem_nil,or_false] at hj
  rcases hj with rfl|rfl
  ·exact⟨p+1,rfl,by omega,by simp,by simp[b0]⟩
  ·exact⟨p+1+c1.length,rfl,by omega,by simp;omega,by(try simp only);rw[if_neg (by omega)];exact b1⟩
 ·refine Seg.mono (Seg.congr s1 (Nat.le_refl _) (Nat.le_refl _) fun x h1 h2=>?_) (by omega) (by simp;omega)
  try simp only
  rw[if_neg (by omega)]
theorem Typed.ifE {c1 c2:List Si}{p d d':Nat}(h1:Typed fs w c1 (p+1) d d')(h2:Typed fs w c2 (p+2+c1.length) d d'):
  Typed fs w (⟨9,((p+2+c1.length:Nat):Int),0,0⟩::(c1++(⟨8,((p+2+c1.length+c2.length:Nat):Int),0,0⟩::c2))) p (d+1) d':=by
 obtain⟨D1,b0,b1,s1⟩:=h1
 obtain⟨D2,e0,e1,s2⟩:=h2
 have hlen:p+(⟨9,((p+2+c1.length:Nat):Int),0,0⟩::(c1++(⟨8,((p+2+c1.length+c2.length:Nat):Int),0,0⟩::c2)):List Si).length=p+2+c1.length+c2.length:=by simp;omega
 refine⟨fun x=>if x=p then d+1 else if x<=p+1+c1.length then D1 x else D2 x,by simp,?_,?_⟩
 ·rw[hlen]
  try simp only
  rw[if_neg (by omega),if_neg (by omega)];exact e1
 rw[hlen]
 refine .cons ?_ (.app ?_ (.cons ?_ ?_))
 ·refine⟨d,by simp[stepD],fun j hj=>?_⟩
  simp only[succs,Int.reduceEq,if_true,if_false,List.mem_cons,List.not_mem_nil,or_false] at hj
  rcases hj with rfl|rfl
  ·exact⟨p+1,rfl,by omega,by omega,by(try simp only);rw[if_neg (by omega),if_pos (by omega)];exact b0⟩
  ·exact⟨p+2+c1.length,rfl,by omega,by omega,by(try simp only);rw[if_neg (by omega),if_neg (by omega)];exact e0⟩
 ·refine Seg.mono (Seg.congr s1 (Nat.le_refl _) (Nat.le_refl _) fun x h1 h2=>?_) (by omega) (by omega)
  try simp only
  rw[if_neg (by omega),if_pos (by omega)]
 ·refine⟨d',?_,fun j hj=>?_⟩
  ·simp only
   rw[if_neg (by omega),if_pos (by omega),b1];rfl
  ·simp only[succs,if_true,List.mem_singleton] at hj
   subst hj
   exact⟨_,rfl,by omega,by omega,by(try simp only);rw[if_neg (by omega),if_neg (by omega)];exact e1⟩
 ·rw[show p+1+c1.length+1=p+2+c1.length from by omega]
  refine Seg.mono (Seg.congr s2 (Nat.le_refl _) (Nat.le_refl _) fun x h1 h2=>?_) (by omega) (by omega)
  try simp only
  rw[if_neg (by omega),if_neg (by omega)]
theorem Typed.loop {c0 c1:List Si}{p d:Nat}(h0:Typed fs w c0 p d (d+1))(h1:Typed fs w c1 (p+c0.length+1) d d):
  Typed fs w (c0++(⟨9,((p+c0.length+2+c1.length:Nat):Int),0,0⟩::(c1++[⟨8,(p:Int),0,0⟩]))) p d d:=by
 obtain⟨D0,a0,a1,s0⟩:=h0
 obtain⟨D1,b0,b1,s1⟩:=h1
 have hlen:p+(c0++(⟨9,((p+c0.length+2+c1.length:Nat):Int),0,0⟩::(c1++[⟨8,(p:Int),0,0⟩])):List Si).length=p+c0.length+2+c1.length:=by simp;omega
 refine⟨fun x=>if x<=p+c0.length then D0 x else if x<=p+c0.length+1+c1.length then D1 x else d,?_,?_,?_⟩
 ·(try simp only);rw[if_pos (by omega)];exact a0
 ·rw[hlen];(try simp only);rw[if_neg (by omega),if_neg (by omega)]
 rw[hlen]
 refine .app ?_ (.cons ?_ (.app ?_ (.cons ?_ .nil)))
 ·refine Seg.mono (Seg.congr s0 (Nat.le_refl _) (Nat.le_refl _) fun x h1 h2=>?_) (by omega) (by omega)
  try simp only
  rw[if_pos (by omega)]
 ·refine⟨d,?_,fun j hj=>?_⟩
  ·(try simp only);rw[if_pos (by omega),a1];simp[stepD]
  simp only[succs,Int.reduceEq,if_true,if_false,List.mem_cons,List.not_mem_nil,or_false] at hj
  rcases hj with rfl|rfl
  ·exact⟨p+c0.length+1,rfl,by omega,by omega,by(try simp only);rw[if_neg (by omega),if_pos (by omega)];exact b0⟩
  ·exact⟨p+c0.length+2+c1.length,rfl,by omega,by omega,by(try simp only);rw[if_neg (by omega),if_neg (by omega)]⟩
 ·refine Seg.mono (Seg.congr s1 (Nat.le_refl _) (Nat.le_refl _) fun x h1 h2=>?_) (by omega) (by omega)
  try simp only
  rw[if_neg (by omega),if_pos (by omega)]
 ·refine⟨d,?_,fun j hj=>?_⟩
  ·simp only
   rw[if_neg (by omega),if_pos (by omega),b1];rfl
  ·simp only[succs,if_true,List.mem_singleton] at hj
   subst hj
   exact⟨p,rfl,by omega,by omega,by(try simp only);rw[if_pos (by omega)];exact a0⟩
/-! ### programs that are in order -/
def Gj (fs:List (Nat×Bool))(s:Int)(n:Nat)(v:Bool):Bool:=decide (0<=s)&&(match fs[s.toNat]? with|some (ps,v')=>ps==n&&v'==v|none=>false)
mutual
def gE (fs:List (Nat×Bool)):Cx->Bool
 | .mk k _ _ s _ l=>gEs fs l&&(if k=1\/k=2\/k=5 then l.length==0 else if k=3\/k=7 then l.length==1 else if k=6\/k=8\/k=9 then l.length==2
   else if k=4 then Gj fs s l.length true else false)
def gEs (fs:List (Nat×Bool)):List Cx->Bool
 |[]=>true
 |e::l=>gE fs e&&gEs fs l
end
mutual
def gS (fs:List (Nat×Bool)) (w:Bool):Cs->Bool
 | .mk k s _ e t f=>gEs fs e&&gSs fs w t&&gSs fs w f&&(if k=1\/k=3\/k=4\/k=5 then e.length==1 else if k=2 then e.length==2 else if k=6 then Gj fs s e.length false
   else if k=7 then e.length==0||e.length==1&&w else false)
def gSs (fs:List (Nat×Bool)) (w:Bool):List Cs->Bool
 |[]=>true
 |e::l=>gS fs w e&&gSs fs w l
end
@[simp] theorem Z8 (fs:List (Nat×Bool)):gEs fs []=true:=by rw[gEs]
@[simp] theorem C6 (fs:List (Nat×Bool))(e:Cx)(l:List Cx):gEs fs (e::l)=(gE fs e&&gEs fs l):=by rw[gEs]
@[simp] theorem gSs_nil (fs:List (Nat×Bool))(w:Bool):gSs fs w []=true:=by rw[gSs]
@[simp] theorem Jm (fs:List (Nat×Bool))(w:Bool)(e:Cs)(l:List Cs):gSs fs w (e::l)=(gS fs w e&&gSs fs w l):=by rw[gSs]
theorem Typed.call {s:Int}{n p d:Nat}{v:Bool}(h:Gj fs s n v=true):Typed fs w [⟨10,s,0,0⟩] p (d+n) (d+cnt v):=by
 unfold Gj at h
 simp only[Bool.and_eq_true,decide_eq_true_eq] at h
 obtain⟨h0,h⟩:=h
 split at h
 ·rename_i ps v' hf
  simp only[Bool.and_eq_true,beq_iff_eq] at h
  obtain⟨rfl,rfl⟩:=h
  exact .one (by simp[stepD,h0,hf]) (by simp[succs])
 ·cases h
theorem two_of {α:Type}: ∀{l:List α},l.length=2-> ∃a b,l=[a,b]
 |[a,b],_=>⟨a,b,rfl⟩
theorem one_of {α:Type}: ∀{l:List α},l.length=1-> ∃a,l=[a]
 |[a],_=>⟨a,rfl⟩
mutual
theorem Tc : ∀(e:Cx) (p d:Nat),gE fs e=true->Typed fs w (lE p e) p d (d+1)
 | .mk k o n s z l,p,d,h=>by
  rw[gE] at h
  simp only[Bool.and_eq_true] at h
  obtain⟨hl,h⟩:=h
  rw[lE]
  by_cases h89:k=8\/k=9
  ·rw[if_pos h89]
   have h2:l.length=2:=by rcases h89 with rfl|rfl<;>simpa using h
   exact typedB l p k d hl h2
  rw[if_neg h89]
  have h0:=Pj l p d hl
  refine h0.app ?_
  by_cases h1:k=1\/k=2\/k=5
  ·rw[if_pos h1] at h
   have:l.length=0:=by simpa using h
   rw[this]
   rcases h1 with rfl|rfl|rfl<;>exact .one (by simp[stepD]) (by simp[succs])
  rw[if_neg h1] at h
  by_cases h3:k=3\/k=7
  ·rw[if_pos h3] at h
   have:l.length=1:=by simpa using h
   rw[this]
   rcases h3 with rfl|rfl<;>exact .one (by simp[stepD,sNot]) (by simp[succs,sNot])
  rw[if_neg h3] at h
  by_cases h6:k=6
  ·subst h6
   have:l.length=2:=by simpa using h
   rw[this]
   exact .one (by simp[stepD]) (by simp[succs])
  rw[if_neg (by omega)] at h
  by_cases h4:k=4
  ·subst h4
   exact Typed.call (v:=true) (by simpa using h)
  ·rw[if_neg h4] at h;cases h
theorem Pj : ∀(l:List Cx) (p d:Nat),gEs fs l=true->Typed fs w (lEs p l) p d (d+l.length)
 |[],p,d,_=>by simpa using Typed.nil
 |e::l,p,d,h=>by
  simp only[C6,Bool.and_eq_true] at h
  rw[Rr,List.length_cons]
  have h1:=Tc e p d h.1
  have h2:=Pj l (p+(lE p e).length) (d+1) h.2
  rw[show d+(l.length+1)=d+1+l.length from by omega]
  exact h1.app h2
theorem typedB : ∀(l:List Cx) (p:Nat) (k:Int) (d:Nat),gEs fs l=true->l.length=2->Typed fs w (lB p k l) p d (d+1)
 |[],_,_,_,_,h=>by simp at h
 |a::l,p,k,d,h,h2=>by
  simp only[C6,Bool.and_eq_true] at h
  rw[lB]
  have ha:=Tc a p d h.1
  have h1:Typed fs w (lE p a++if k=8 then[sNot] else[]) p d (d+1):=by
   refine ha.app ?_
   split
   ·exact .one (by simp[stepD,sNot]) (by simp[succs,sNot])
   ·exact .nil
  refine h1.app ?_
  generalize hq:p+(lE p a++if k=8 then[sNot] else[]).length=q
  have hb:=typedR l (q+3) d h.2 (by simpa using h2)
  have hb':Typed fs w (lR (q+3) l++[sNot,sNot]) (q+2+[(⟨1,0,0,if k=8 then 0 else 1⟩:Si)].length) d (d+1):=by
   rw[show q+2+[(⟨1,0,0,if k=8 then 0 else 1⟩:Si)].length=q+3 from rfl]
   refine hb.app ?_
   exact Typed.app (c0:=[sNot]) (c1:=[sNot]) (d1:=d+1) (.one (by simp[stepD,sNot]) (by simp[succs,sNot])) (.one (by simp[stepD,sNot]) (by simp[succs,sNot]))
  have h1:Typed fs w [(⟨1,0,0,if k=8 then 0 else 1⟩:Si)] (q+1) d (d+1):= .one (by simp[stepD]) (by simp[succs])
  have:=Typed.ifE h1 hb'
  simp only[List.length_cons,List.length_nil,List.length_append,List.cons_append,List.nil_append] at this
  rw[show q+2+(0+1)=q+3 from rfl,show q+3+((lR (q+3) l).length+(0+1+1))=q+5+(lR (q+3) l).length from by omega] at this
  exact this
theorem typedR : ∀(l:List Cx) (p d:Nat),gEs fs l=true->l.length=1->Typed fs w (lR p l) p d (d+1)
 |[],_,_,_,h=>by simp at h
 |b::l,p,d,h,_=>by
  simp only[C6,Bool.and_eq_true] at h
  rw[lR]
  exact Tc b p d h.1
end
theorem Typed.ret {c:Si}{p d d':Nat}(h:stepD fs w c d=some d')(hs:succs c p=[])(e:Nat):Typed fs w [c] p d e:=by
 refine⟨fun x=>if x=p then d else e,by simp,by simp,.cons ⟨d',by simpa using h,?_⟩ .nil⟩
 rw[hs]
 intro j hj
 cases hj
theorem Tb (p e:Nat):Typed fs w (leave w) p 0 e:=by
 unfold leave
 split
 ·rename_i hw
  exact Typed.app (c0:=[⟨1,0,0,0⟩]) (c1:=[⟨11,0,0,0⟩]) (d1:=1) (.one (by simp[stepD]) (by simp[succs])) (.ret (d':=0) (by simp[stepD,cnt,hw]) (by simp[succs]) e)
 ·rename_i hw
  exact .ret (d':=0) (by simp[stepD,cnt,hw]) (by simp[succs]) e
mutual
theorem typedS : ∀(s:Cs) (p:Nat),gS fs w s=true->Typed fs w (lS w p s) p 0 0
 | .mk k s z e t f,p,h=>by
  rw[gS] at h
  simp only[Bool.and_eq_true] at h
  obtain⟨⟨⟨he,ht⟩,hf⟩,h⟩:=h
  rw[lS]
  have h0:=Pj (w:=w) e p 0 he
  rw[Nat.zero_add] at h0
  by_cases h5:k=5
  ·subst h5
   have:e.length=1:=by simpa using h
   rw[this] at h0
   rw[if_pos rfl]
   exact Typed.loop h0 (typedSs t _ ht)
  rw[if_neg h5]
  by_cases h4:k=4
  ·subst h4
   have:e.length=1:=by simpa using h
   rw[this] at h0
   rw[if_pos rfl]
   refine h0.app ?_
   split
   ·exact Typed.ifS (typedSs t _ ht)
   ·exact Typed.ifE (typedSs t _ ht) (typedSs f _ hf)
  rw[if_neg h4]
  refine h0.app ?_
  by_cases h1:k=1\/k=3
  ·have:e.length=1:=by rcases h1 with rfl|rfl<;>simpa using h
   rw[this]
   rcases h1 with rfl|rfl<;>exact .one (by simp[stepD]) (by simp[succs])
  by_cases h2:k=2
  ·subst h2
   have:e.length=2:=by simpa using h
   rw[this]
   exact .one (by simp[stepD]) (by simp[succs])
  by_cases h6:k=6
  ·subst h6
   have:=Typed.call (fs:=fs) (w:=w) (p:=p+(lEs p e).length) (d:=0) (v:=false) (by simpa using h)
   rw[Nat.zero_add] at this
   simpa[cnt,tailS] using this
  by_cases h7:k=7
  ·subst h7
   have h7':e.length=0\/e.length=1/\w=true:=by simpa using h
   unfold tailS
   rw[if_neg (by omega),if_neg (by omega),if_neg (by omega),if_neg (by omega),if_pos rfl]
   rcases h7' with h7'|⟨h7',hw⟩
   ·rw[if_neg (by omega),h7'];exact Tb _ _
   ·rw[if_pos (by omega),h7']
    exact .ret (d':=0) (by simp[stepD,cnt,hw]) (by simp[succs]) _
  ·rw[if_neg (by omega),if_neg (by omega),if_neg h6,if_neg h7] at h
   cases h
theorem typedSs : ∀(l:List Cs) (p:Nat),gSs fs w l=true->Typed fs w (lSs w p l) p 0 0
 |[],p,_=>by simpa using Typed.nil
 |e::l,p,h=>by
  simp only[Jm,Bool.and_eq_true] at h
  rw[Rn]
  exact(typedS e p h.1).app (typedSs l _ h.2)
end
end
theorem depthF {fs:List (Nat×Bool)}{f:Cf}(h:gSs fs f.word f.body=true): ∃D:Nat->Nat,D 0=0/\ ∀i c,(lF f)[i]?=some c-> ∃d',stepD fs f.word c (D i)=some d'/\ ∀j∈succs c i,∃q:Nat,j=q/\q<(lF f).length/\D q=d':=by
 obtain⟨D,h0,hb,hs⟩:=typedSs (fs:=fs) f.body 0 h
 generalize hc:lSs f.word 0 f.body=cb at hb hs
 rw[Nat.zero_add] at hb
 have hlt:cb.length<(lF f).length:=by unfold lF leave;rw[hc];split<;>simp
 refine⟨fun x=>if x<=cb.length then D x else 1,by simpa using h0,fun i c hi=>?_⟩
 unfold lF at hi
 rw[hc] at hi
 by_cases hib:i<cb.length
 ·rw[List.getElem?_append_left hib] at hi
  obtain⟨d',h1,h2⟩:=hs i c hi
  rw[Nat.zero_add] at h1 h2
  refine⟨d',by(try simp only);rw[if_pos (by omega)];exact h1,fun j hj=>?_⟩
  obtain⟨q,e,a,b,r⟩:=h2 j hj
  exact⟨q,e,by omega,by(try simp only);rw[if_pos (by omega)];exact r⟩
 ·rw[List.getElem?_append_right (by omega)] at hi
  unfold leave at hi
  split at hi
  ·rename_i hw
   obtain⟨n,rfl⟩: ∃n,i=cb.length+n:=⟨i - cb.length,by omega⟩
   rw[Nat.add_sub_cancel_left] at hi
   match n,hi with
   |0,hi=>
    simp only[List.getElem?_cons_zero,Option.some.injEq] at hi
    subst hi
    refine⟨1,by simp[stepD,hb],fun j hj=>?_⟩
    simp only[succs] at hj
    simp only[Int.reduceEq,if_false,List.mem_singleton,Nat.add_zero] at hj
    exact⟨cb.length+1,by rw[hj];rfl,by unfold lF leave;rw[hc,hw];simp,by(try simp only);rw[if_neg (by omega)]⟩
   |1,hi=>
    simp only[List.getElem?_cons_succ,List.getElem?_cons_zero,Option.some.injEq] at hi
    subst hi
    refine⟨0,by(try simp only);rw[if_neg (by omega)];simp[stepD,cnt,hw],fun j hj=>?_⟩
    simp[succs] at hj
   |n+2,hi=>simp at hi
  ·rename_i hw
   obtain⟨n,rfl⟩: ∃n,i=cb.length+n:=⟨i - cb.length,by omega⟩
   rw[Nat.add_sub_cancel_left] at hi
   match n,hi with
   |0,hi=>
    simp only[List.getElem?_cons_zero,Option.some.injEq] at hi
    subst hi
    refine⟨0,by simp[stepD,cnt,hw,hb],fun j hj=>?_⟩
    simp[succs] at hj
   |n+1,hi=>simp at hi
end Go.Ab.Sy
namespace Go.Ab.Sy
open Go Go.Ab
/-! ### forms -/
section
variable (nb:Tx->Bool)
def nameF (s:Tx)(named:Bool):Bool:=if named then nb s else decide (s=tx0)
def formE (e:Ex):Bool:=
 if e.kind=1 then decide (e.op=0)&&nameF nb e.name false&&e.kids.length==0
 else if e.kind=2 then decide (e.op=0)&&decide (e.num=0)&&nameF nb e.name true&&e.kids.length==0
 else if e.kind=3 then decide (e.op=0)&&decide (e.num=0)&&nameF nb e.name true&&e.kids.length==1
 else if e.kind=4 then decide (e.op=0)&&decide (e.num=0)&&nameF nb e.name true&&decide (e.kids.length<=6)
 else if e.kind=5 then decide (e.op=0)&&decide (e.num=0)&&nameF nb e.name false&&e.kids.length==0
 else if e.kind=6 then decide (4<=e.op)&&decide (e.op<=15)&&decide (e.num=0)&&nameF nb e.name false&&e.kids.length==2
 else if e.kind=7 then decide (e.op=0)&&decide (e.num=0)&&nameF nb e.name false&&e.kids.length==1
 else if e.kind=8\/e.kind=9 then decide (e.op=0)&&decide (e.num=0)&&nameF nb e.name false&&e.kids.length==2
 else false
def formS (s:St):Bool:=
 if s.kind=1 then nameF nb s.name true&&s.e.length==1&&s.th.length==0&&s.el.length==0
 else if s.kind=2 then nameF nb s.name true&&s.e.length==2&&s.th.length==0&&s.el.length==0
 else if s.kind=3 then nameF nb s.name false&&s.e.length==1&&s.th.length==0&&s.el.length==0
 else if s.kind=4 then nameF nb s.name false&&s.e.length==1
 else if s.kind=5 then nameF nb s.name false&&s.e.length==1&&s.el.length==0
 else if s.kind=6 then nameF nb s.name true&&decide (s.e.length<=6)&&s.th.length==0&&s.el.length==0
 else if s.kind=7 then nameF nb s.name false&&decide (s.e.length<=1)&&s.th.length==0&&s.el.length==0
 else false
mutual
def rE (v:Nat):Ex->Bool
 | .mk k o n s l=>formE nb (.mk k o n s l)&&((l.length==0||decide (v+1<=24))&&rEs (v+1) l)
def rEs (v:Nat):List Ex->Bool
 |[]=>true
 |e::l=>rE v e&&rEs v l
end
def rL (v:Nat)(l:List Ex):Bool:=(l.length==0||decide (v<=24))&&rEs nb v l
mutual
def rS (v:Nat):St->Bool
 | .mk k s e t f=>formS nb (.mk k s e t f)&&rL nb (v+1) e&&((t.length==0||decide (v+1<=24))&&rSs (v+1) t)&&((f.length==0||decide (v+1<=24))&&rSs (v+1) f)
def rSs (v:Nat):List St->Bool
 |[]=>true
 |e::l=>rS v e&&rSs v l
end
def rB (v:Nat)(l:List St):Bool:=(l.length==0||decide (v<=24))&&rSs nb v l
@[simp] theorem rEs_nil (v:Nat):rEs nb v []=true:=by rw[rEs]
@[simp] theorem Gia (v:Nat)(e:Ex)(l:List Ex):rEs nb v (e::l)=(rE nb v e&&rEs nb v l):=by rw[rEs]
@[simp] theorem rSs_nil (v:Nat):rSs nb v []=true:=by rw[rSs]
@[simp] theorem Gga (v:Nat)(e:St)(l:List St):rSs nb v (e::l)=(rS nb v e&&rSs nb v l):=by rw[rSs]
def rF (f:Fu):Bool:=nb f.name&&decide (f.params.length<=6)&&f.params.all nb&&f.locals.all nb&&rB nb 1 f.body
def rA (a:Tx×Int):Bool:=nb a.1&&decide (1<=a.2)&&decide (a.2<=4096)
def rP (p:Pr):Bool:=decide (1<=p.funcs.length)&&decide (p.funcs.length<=64)&&p.vars.all nb&&p.arrays.all rA'&&p.funcs.all (rF nb)
where rA':=rA nb
end
/-! ### names -/
section
variable {T:Type}
def look (m:List (Tx×T))(s:Tx):Option T:=(m.find? fun x=>decide (x.1=s)).map (·.2)
def addM (m:List (Tx×T)×Bool)(x:Tx×T):List (Tx×T)×Bool:=if (look m.1 x.1).isSome then(m.1,false) else(m.1++[x],m.2)
def setM (m:List (Tx×T))(x:Tx×T):List (Tx×T):=if (look m x.1).isSome then m.map fun y=>if y.1=x.1 then x else y else m++[x]
theorem J3 {m:List (Tx×T)}{s:Tx}(h:look m s=none):s∉m.map (·.1):=by
 intro hs
 obtain⟨x,hx,rfl⟩:=List.mem_map.1 hs
 simp only[look,Option.map_eq_none_iff,List.find?_eq_none,decide_eq_true_eq] at h
 exact h x hx rfl
theorem D3 {m:List (Tx×T)}{s:Tx}{t:T}(h:look m s=some t):(s,t)∈m:=by
 unfold look at h
 cases hf:m.find? fun x=>decide (x.1=s) with
 |none=>rw[hf] at h;cases h
 |some x=>
  rw[hf] at h
  simp only[Option.map_some,Option.some.injEq] at h
  have h1:=List.find?_some hf
  have h2:=List.mem_of_find?_eq_some hf
  simp only[decide_eq_true_eq] at h1
  subst h1 h
  exact h2
theorem Zo {m:List (Tx×T)}{s:Tx}{t:T}(hn:(m.map (·.1)).Nodup)(h:(s,t)∈m):look m s=some t:=by
 induction m with
 |nil=>cases h
 |cons x m ih=>
  simp only[List.map_cons,List.nodup_cons] at hn
  unfold look
  rw[List.find?_cons]
  rcases List.mem_cons.1 h with rfl|h
  ·simp
  ·have:x.1≠s:=by rintro rfl;exact hn.1 (List.mem_map.2 ⟨_,h,rfl⟩)
   simp only[this,decide_false]
   exact ih hn.2 h
def addAll (l:List (Tx×T))(m:List (Tx×T)×Bool):List (Tx×T)×Bool:=l.foldl addM m
def setAll (l:List (Tx×T))(m:List (Tx×T)):List (Tx×T):=l.foldl setM m
theorem Da : ∀{l:List (Tx×T)} {m:List (Tx×T)×Bool},(m.1.map (·.1)).Nodup->(addAll l m).2=true->m.2=true/\(addAll l m).1=m.1++l/\((m.1++l).map (·.1)).Nodup
 |[],m,hn,h=>⟨h,by simp[addAll],by simpa using hn⟩
 |x::l,m,hn,h=>by
  have e:addAll (x::l) m=addAll l (addM m x):=rfl
  rw[e] at h⊢
  have hf: ∀(l:List (Tx×T)) (m:List (Tx×T)),(addAll l (m,false)).2=false:=by
   intro l
   induction l with
   |nil=>intro m;rfl
   |cons y l ih=>
    intro m
    show(addAll l (addM (m,false) y)).2=false
    unfold addM
    split<;>exact ih _
  unfold addM at h⊢
  split at h
  ·rw[hf] at h;cases h
  ·rename_i hs
   rw[if_neg hs]
   have hs':=J3 (by simpa using hs)
   have hn':((m.1++[x]).map (·.1)).Nodup:=by
    rw[List.map_append,List.nodup_append]
    refine⟨hn,by simp,?_⟩
    intro a ha b hb
    simp only[List.map_cons,List.map_nil,List.mem_singleton] at hb
    subst hb
    rintro rfl
    exact hs' ha
   obtain⟨h1,h2,h3⟩:=Da hn' h
   refine⟨h1,by rw[h2];simp,by simpa using h3⟩
theorem Hv : ∀{l:List (Tx×T)} {m:List (Tx×T)×Bool} {x:Tx×T},x∈(addAll l m).1->x∈m.1\/x∈l
 |[],m,x,h=> .inl h
 |y::l,m,x,h=>by
  rcases Hv (l:=l) (m:=addM m y) h with h|h
  ·unfold addM at h
   split at h
   ·exact .inl h
   ·rcases List.mem_append.1 h with h|h
    ·exact .inl h
    ·simp only[List.mem_singleton] at h;subst h;exact .inr (List.mem_cons_self ..)
  ·exact .inr (List.mem_cons_of_mem _ h)
theorem Dk : ∀{l m:List (Tx×T)},((m++l).map (·.1)).Nodup->setAll l m=m++l
 |[],m,_=>by simp[setAll]
 |x::l,m,h=>by
  have hx:look m x.1=none:=by
   cases hl:look m x.1 with
   |none=>rfl
   |some t=>
    rw[List.map_append,List.nodup_append] at h
    exact(h.2.2 x.1 (List.mem_map.2 ⟨_,D3 hl,rfl⟩) x.1 (by simp) rfl).elim
  show setAll l (setM m x)=_
  unfold setM
  rw[hx]
  simp only[Option.isSome_none,Bool.false_eq_true,if_false]
  rw[Dk (by simpa using h)]
  simp
end
section
variable {α β γ:Type}
def num (f:Int->α->β):Nat->List α->List β
 |_,[]=>[]
 |n,a::l=>f n a::num f (n+1) l
theorem Ct {f:Int->α->β}{b:β}: ∀{n:Nat} {l:List α},b∈num f n l-> ∃i a,l[i]?=some a/\b=f ((n+i:Nat):Int) a
 |n,a::l,h=>by
  rcases List.mem_cons.1 h with rfl|h
  ·exact⟨0,a,rfl,rfl⟩
  ·obtain⟨i,a,h1,h2⟩:=Ct h
   exact⟨i+1,a,by simpa using h1,by rw[h2];congr 1;omega⟩
theorem Zm {f:Int->α->β}{a:α}: ∀{n i:Nat} {l:List α},l[i]?=some a->f ((n+i:Nat):Int) a∈num f n l
 |n,0,x::l,h=>by simp only[List.getElem?_cons_zero,Option.some.injEq] at h;subst h;exact List.mem_cons_self ..
 |n,i+1,x::l,h=>by
  have:=Zm (f:=f) (n:=n+1) (i:=i) (l:=l) (by simpa using h)
  rw[show n+1+i=n+(i+1) from by omega] at this
  exact List.mem_cons_of_mem _ this
theorem Jf {f:Int->α->β}: ∀{n:Nat} {l m:List α},num f n (l++m)=num f n l++num f (n+l.length) m
 |n,[],m=>by simp[num]
 |n,a::l,m=>by simp only[List.cons_append,num,Jf (l:=l),List.length_cons];rw[show n+1+l.length=n+(l.length+1) from by omega]
end
abbrev Th :=Int×Int
def outL (p:Pr):List (Tx×Th):=num (fun i s=>(s,(2,i))) 0 p.vars++num (fun i (a:Tx×Int)=>(a.1,(3,i))) 0 p.arrays++num (fun i (f:Fu)=>(f.name,(4,i))) 0 p.funcs
def inL (f:Fu):List (Tx×Th):=num (fun i s=>(s,(1,i))) 0 f.params++num (fun i s=>(s,(1,i))) f.params.length f.locals
def findT (a b:List (Tx×Th))(s:Tx):Th:=(look a s).getD ((look b s).getD (0,-1))
structure Use where
 kind:Int
 name:Tx
 args:Int
def ownE (e:Ex):List Use:=if e.kind=2 then[⟨2,e.name,0⟩] else if e.kind=3 then[⟨3,e.name,0⟩] else if e.kind=4 then[⟨4,e.name,e.kids.length⟩] else[]
def ownS (s:St):List Use:=if s.kind=1 then[⟨2,s.name,0⟩] else if s.kind=2 then[⟨3,s.name,0⟩] else if s.kind=6 then[⟨4,s.name,s.e.length⟩] else[]
mutual
def useE :Ex->List Use
 | .mk k o n s l=>ownE (.mk k o n s l)++useEs l
def useEs :List Ex->List Use
 |[]=>[]
 |e::l=>useE e++useEs l
end
mutual
def useS :St->List Use
 | .mk k s e t f=>ownS (.mk k s e t f)++(useEs e++(useSs t++useSs f))
def useSs :List St->List Use
 |[]=>[]
 |e::l=>useS e++useSs l
end
@[simp] theorem useEs_nil :useEs []=[]:=by rw[useEs]
@[simp] theorem Ta (e:Ex)(l:List Ex):useEs (e::l)=useE e++useEs l:=by rw[useEs]
theorem useE_eq (e:Ex):useE e=ownE e++useEs e.kids:=by cases e;rw[useE];rfl
@[simp] theorem useSs_nil :useSs []=[]:=by rw[useSs]
@[simp] theorem S7 (e:St)(l:List St):useSs (e::l)=useS e++useSs l:=by rw[useSs]
theorem useS_eq (s:St):useS s=ownS s++(useEs s.e++(useSs s.th++useSs s.el)):=by cases s;rw[useS];rfl
theorem N1 : ∀l m,useEs (l++m)=useEs l++useEs m
 |[],m=>by simp
 |e::l,m=>by simp[N1 l m]
theorem N0 : ∀l m,useSs (l++m)=useSs l++useSs m
 |[],m=>by simp
 |e::l,m=>by simp[N0 l m]
def useStep (fs:List Fu)(fd:Tx->Th)(i:Nat)(s:Bool×Bool)(u:Use):Bool×Bool:=
 if u.kind=2 then(s.1&&(decide ((fd u.name).1=1)||decide ((fd u.name).1=2)),s.2)
 else if u.kind=3 then(s.1&&decide ((fd u.name).1=3),s.2)
 else if u.kind=4 then(if (fd u.name).1=4/\(fd u.name).2<i then(match fs[(fd u.name).2.toNat]? with|some f=>(s.1,if (f.params.length:Int)=u.args then s.2 else false)|none=>s) else(false,s.2))
 else s
def useAll (fs:List Fu)(fd:Tx->Th)(i:Nat)(l:List Use)(s:Bool×Bool):Bool×Bool:=l.foldl (useStep fs fd i) s
def outM (p:Pr):List (Tx×Th)×Bool:=addAll (outL p) ([],true)
def inM (f:Fu):List (Tx×Th)×Bool:=addAll (inL f) ([],true)
def fnStep (p:Pr)(i:Nat)(f:Fu)(s:Bool×Bool):Bool×Bool:=useAll p.funcs (findT (inM f).1 (outM p).1) i (useSs f.body) (s.1&&(inM f).2,s.2)
def fnsStep (p:Pr):Nat->List Fu->Bool×Bool->Bool×Bool
 |_,[],s=>s
 |i,f::l,s=>fnsStep p (i+1) l (fnStep p i f s)
def Mq (f:Fu):Bool:=decide (f.name.1= "main".toUTF8)&&f.params.length==0&& !f.word
def scopeS (p:Pr):Int:=if (fnsStep p 0 p.funcs ((outM p).2,true)).1=false then 4 else if (fnsStep p 0 p.funcs ((outM p).2,true)).2=false\/(match p.funcs.getLast? with|some f=>Mq f|none=>false)=false then 1 else 0
theorem useStep_mono {fs:List Fu}{fd:Tx->Th}{i:Nat}{s:Bool×Bool}{u:Use}:((useStep fs fd i s u).1=true->s.1=true)/\((useStep fs fd i s u).2=true->s.2=true):=by
 unfold useStep
 repeat' split
 all_goals (first|exact⟨fun h=>h,fun h=>h⟩|(simp only[Bool.and_eq_true];exact⟨fun h=>h.1,fun h=>h⟩)|(constructor<;>simp)|skip)
theorem useAll_mono {fs:List Fu}{fd:Tx->Th}{i:Nat}: ∀{l:List Use} {s:Bool×Bool},((useAll fs fd i l s).1=true->s.1=true)/\((useAll fs fd i l s).2=true->s.2=true)
 |[],s=>⟨fun h=>h,fun h=>h⟩
 |u::l,s=>by
  have h1:=useAll_mono (fs:=fs) (fd:=fd) (i:=i) (l:=l) (s:=useStep fs fd i s u)
  exact⟨fun h=>useStep_mono.1 (h1.1 h),fun h=>useStep_mono.2 (h1.2 h)⟩
theorem Ls {fs:List Fu}{fd:Tx->Th}{i:Nat}: ∀{l:List Use} {s:Bool×Bool} {u:Use},u∈l->(useAll fs fd i l s).1=true->(useAll fs fd i l s).2=true-> ∃s',(useStep fs fd i s' u).1=true/\(useStep fs fd i s' u).2=true
 |v::l,s,u,hu,h1,h2=>by
  have hm:=useAll_mono (fs:=fs) (fd:=fd) (i:=i) (l:=l) (s:=useStep fs fd i s v)
  rcases List.mem_cons.1 hu with rfl|hu
  ·exact⟨s,hm.1 h1,hm.2 h2⟩
  ·exact Ls (l:=l) hu h1 h2
theorem Gb {p:Pr}: ∀{l:List Fu} {n:Nat} {s:Bool×Bool},(fnsStep p n l s).1=true->(fnsStep p n l s).2=true->(s.1=true/\s.2=true)/\ ∀i f,l[i]?=some f-> ∃s',(fnStep p (n+i) f s').1=true/\(fnStep p (n+i) f s').2=true
 |[],n,s,h1,h2=>⟨⟨h1,h2⟩,fun i f h=>by simp at h⟩
 |g::l,n,s,h1,h2=>by
  obtain⟨⟨a1,a2⟩,h⟩:=Gb (l:=l) h1 h2
  refine⟨⟨?_,?_⟩,fun i f hf=>?_⟩
  ·have:=useAll_mono.1 a1
   simp only[Bool.and_eq_true] at this
   exact this.1
  ·exact(useAll_mono (s:=(s.1&&(inM g).2,s.2))).2 a2
  ·cases i with
   |zero=>
    simp only[List.getElem?_cons_zero,Option.some.injEq] at hf
    subst hf
    exact⟨s,a1,a2⟩
   |succ i=>
    have:=h i f (by simpa using hf)
    rwa [show n+1+i=n+(i+1) from by omega] at this
/-! ### types -/
def funM (fs:List Fu):List (Tx×Fu):=(addAll (fs.map fun f=>(f.name,f)) ([],true)).1
def Dh (m:List (Tx×Fu))(s:Tx):Bool:=match look m s with|some f=>f.word|none=>false
section
variable (m:List (Tx×Fu))
mutual
def tyE :Ex->Int
 | .mk k o _ s l=>if k=1\/k=2\/k=5 then 1 else if k=3 then(if tyAll l 1 then 1 else 0) else if k=4 then(if Dh m s=true/\tyAll l 1=true then 1 else 0)
   else if k=6 then(if tyAll l 1 then(if o=14\/o=15 then 2 else 1) else 0) else if k=7\/k=8\/k=9 then(if tyAll l 2 then 2 else 0) else 0
def tyAll :List Ex->Int->Bool
 |[],_=>true
 |e::l,t=>decide (tyE e=t)&&tyAll l t
end
mutual
def knE :Ex->Bool
 | .mk k _ _ s l=>(decide (k≠4)||(look m s).isSome)&&knEs l
def knEs :List Ex->Bool
 |[]=>true
 |e::l=>knE e&&knEs l
end
mutual
def knS :St->Bool
 | .mk k s e t f=>(decide (k≠6)||(look m s).isSome)&&knEs m e&&knSs t&&knSs f
def knSs :List St->Bool
 |[]=>true
 |e::l=>knS e&&knSs l
end
mutual
def tyS (w:Bool):St->Bool
 | .mk k s e t f=>(decide (k≠6)|| !Dh m s)&&(decide (k≠7)||(e.length==0||w))&&tyAll m e (if k=4\/k=5 then 2 else 1)&&tySs w t&&tySs w f
def tySs (w:Bool):List St->Bool
 |[]=>true
 |e::l=>tyS w e&&tySs w l
end
@[simp] theorem tyAll_nil (t:Int):tyAll m [] t=true:=by rw[tyAll]
@[simp] theorem Lu (e:Ex)(l:List Ex)(t:Int):tyAll m (e::l) t=(decide (tyE m e=t)&&tyAll m l t):=by rw[tyAll]
@[simp] theorem knEs_nil :knEs m []=true:=by rw[knEs]
@[simp] theorem knEs_cons (e:Ex)(l:List Ex):knEs m (e::l)=(knE m e&&knEs m l):=by rw[knEs]
@[simp] theorem knSs_nil :knSs m []=true:=by rw[knSs]
@[simp] theorem knSs_cons (e:St)(l:List St):knSs m (e::l)=(knS m e&&knSs m l):=by rw[knSs]
@[simp] theorem tySs_nil (w:Bool):tySs m w []=true:=by rw[tySs]
@[simp] theorem A0a (w:Bool)(e:St)(l:List St):tySs m w (e::l)=(tyS m w e&&tySs m w l):=by rw[tySs]
end
def typingS (p:Pr):Int:=if p.funcs.all (fun f=>knSs (funM p.funcs) f.body)=false then 4 else if p.funcs.all (fun f=>tySs (funM p.funcs) f.word f.body)=false then 5 else 0
def soundS (nb:Tx->Bool)(p:Pr):Int:=if rP nb p=false then 7 else if scopeS p≠0 then scopeS p else typingS p
/-! ### without names -/
def coFind (a b:List (Tx×Th))(s:Tx):Th:=(look a s).getD ((look b s).getD (0,0))
mutual
def coE (fd:Tx->Th):Ex->Cx
 | .mk k o n s l=> .mk k o n (fd s).1 (fd s).2 (coEs fd l)
def coEs (fd:Tx->Th):List Ex->List Cx
 |[]=>[]
 |e::l=>coE fd e::coEs fd l
end
mutual
def coS (fd:Tx->Th):St->Cs
 | .mk k s e t f=> .mk k (fd s).1 (fd s).2 (coEs fd e) (coSs fd t) (coSs fd f)
def coSs (fd:Tx->Th):List St->List Cs
 |[]=>[]
 |e::l=>coS fd e::coSs fd l
end
@[simp] theorem coEs_nil (fd:Tx->Th):coEs fd []=[]:=by rw[coEs]
@[simp] theorem Cja (fd:Tx->Th)(e:Ex)(l:List Ex):coEs fd (e::l)=coE fd e::coEs fd l:=by rw[coEs]
@[simp] theorem coSs_nil (fd:Tx->Th):coSs fd []=[]:=by rw[coSs]
@[simp] theorem Cfa (fd:Tx->Th)(e:St)(l:List St):coSs fd (e::l)=coS fd e::coSs fd l:=by rw[coSs]
theorem Qb (fd:Tx->Th): ∀l,coEs fd l=l.map (coE fd)
 |[]=>by simp
 |e::l=>by simp[Qb fd l]
theorem Qa (fd:Tx->Th): ∀l,coSs fd l=l.map (coS fd)
 |[]=>by simp
 |e::l=>by simp[Qa fd l]
@[simp] theorem K4 (fd:Tx->Th)(l:List Ex):(coEs fd l).length=l.length:=by simp[Qb]
@[simp] theorem coSs_length (fd:Tx->Th)(l:List St):(coSs fd l).length=l.length:=by simp[Qa]
mutual
theorem Jka (fd:Tx->Th): ∀e:Ex,(coE fd e).size=e.size
 | .mk k o n s l=>by rw[coE,Cx.size,Ex.size,Ka]
theorem Ka (fd:Tx->Th): ∀l:List Ex,cxSize (coEs fd l)=exSize l
 |[]=>by simp
 |e::l=>by simp[Jka fd e,Ka fd l]
end
mutual
theorem Jia (fd:Tx->Th): ∀e:St,(coS fd e).size=e.size
 | .mk k s e t f=>by rw[coS,Cs.size,St.size,Ka,G0,G0]
theorem G0 (fd:Tx->Th): ∀l:List St,csSize (coSs fd l)=stSize l
 |[]=>by simp
 |e::l=>by simp[Jia fd e,G0 fd l]
end
def arL :Int->List (Tx×Int)->List (Tx×Th)
 |_,[]=>[]
 |w,a::l=>(a.1,(w,a.2))::arL (w+a.2) l
def arW :List (Tx×Int)->Int
 |[]=>0
 |a::l=>a.2+arW l
def coOutL (p:Pr):List (Tx×Th):=num (fun i s=>(s,(i,0))) 0 p.vars++arL p.vars.length p.arrays++num (fun i (f:Fu)=>(f.name,(i,0))) 0 p.funcs
def coOutW (p:Pr):Int:=p.vars.length+arW p.arrays
def coInL (w:Int)(f:Fu):List (Tx×Th):=num (fun i s=>(s,(w+i,0))) 0 (f.params++f.locals)
def slotsOf (f:Fu):Nat:=f.params.length+f.locals.length
def coF (out:List (Tx×Th))(w:Int)(f:Fu):Cf:=⟨f.params.length,slotsOf f,w,f.word,coSs (coFind (setAll (coInL w f) []) out) f.body⟩
def coFs (out:List (Tx×Th)):Int->List Fu->List Cf
 |_,[]=>[]
 |w,f::l=>coF out w f::coFs out (w+slotsOf f) l
def coW :List Fu->Int
 |[]=>0
 |f::l=>slotsOf f+coW l
def coWords (p:Pr):Int:=coOutW p+coW p.funcs
def coreS (p:Pr):Co:=⟨coWords p,coFs (setAll (coOutL p) []) (coOutW p) p.funcs⟩
def sigs (fs:List Fu):List (Nat×Bool):=fs.map fun f=>(f.params.length,f.word)
end Go.Ab.Sy
namespace Go.Ab.Sy
open Go Go.Ab
theorem Hg {T:Type}{m:List (Tx×T)}{s:Tx}:look m s=none↔s∉m.map (·.1):=by
 refine⟨J3,fun h=>?_⟩
 cases hl:look m s with
 |none=>rfl
 |some t=>exact(h (List.mem_map.2 ⟨_,D3 hl,rfl⟩)).elim
theorem Jt {T:Type}: ∀{l m:List (Tx×T)} {b:Bool},((m++l).map (·.1)).Nodup->addAll l (m,b)=(m++l,b)
 |[],m,b,_=>by simp[addAll]
 |x::l,m,b,h=>by
  have hx:look m x.1=none:=by
   rw[Hg]
   intro hx
   rw[List.map_append,List.nodup_append] at h
   exact h.2.2 x.1 hx x.1 (by simp) rfl
  show addAll l (addM (m,b) x)=_
  unfold addM
  simp only[hx,Option.isSome_none,Bool.false_eq_true,if_false]
  rw[Jt (by simpa using h)]
  simp
theorem Pb : ∀(w:Int) (l:List (Tx×Int)),(arL w l).map (·.1)=l.map (·.1)
 |_,[]=>rfl
 |w,a::l=>by simp[arL,Pb _ l]
theorem Dl {α T:Type}{g:α->Tx}{h:Int->α->T}: ∀{n:Nat} {l:List α},(num (fun i a=>(g a,h i a)) n l).map (·.1)=l.map g
 |_,[]=>rfl
 |n,a::l=>by simp[num,Dl]
theorem Dw (p:Pr):(outL p).map (·.1)=p.vars++p.arrays.map (·.1)++p.funcs.map (·.name):=by
 simp only[outL,List.map_append]
 rw[Dl (g:=fun s=>s),Dl (g:=fun a:Tx×Int=>a.1),Dl (g:=fun f:Fu=>f.name)];simp
theorem Fh (p:Pr):(coOutL p).map (·.1)=p.vars++p.arrays.map (·.1)++p.funcs.map (·.name):=by
 simp only[coOutL,List.map_append,Pb]
 rw[Dl (g:=fun s=>s),Dl (g:=fun f:Fu=>f.name)];simp
theorem J6 (f:Fu):(inL f).map (·.1)=f.params++f.locals:=by
 simp only[inL,List.map_append]
 rw[Dl (g:=fun s=>s),Dl (g:=fun s=>s)];simp
theorem Gi (w:Int)(f:Fu):(coInL w f).map (·.1)=f.params++f.locals:=by
 simp only[coInL]
 rw[Dl (g:=fun s=>s)];simp
def Ph (p:Pr)(fd:Tx->Th)(u:Use):Prop:=u.kind=4-> ∃(j:Nat) (g:Fu),fd u.name=((j:Int),0)/\p.funcs[j]?=some g/\(g.params.length:Int)=u.args/\Dh (funM p.funcs) u.name=g.word
section
variable {nb:Tx->Bool}{p:Pr}{fd:Tx->Th}
theorem O4 {s:Tx}{n:Nat}{v:Bool}(h:Ph p fd ⟨4,s,n⟩)(hv:Dh (funM p.funcs) s=v):Gj (sigs p.funcs) (fd s).1 n v=true:=by
 obtain⟨j,g,h1,h2,h3,h4⟩:=h rfl
 have hp:(p.funcs.map fun f=>(f.params.length,f.word))[j]?=some (g.params.length,g.word):=by rw[List.getElem?_map,h2];rfl
 simp only at h1 h3 h4
 rw[h1]
 unfold Gj sigs
 simp only[Int.toNat_natCast,hp]
 have:g.params.length=n:=by omega
 subst this
 rw[<-hv,h4]
 simp
mutual
theorem goodE : ∀(e:Ex) (v:Nat),rE nb v e=true->(∀u∈useE e,Ph p fd u)->tyE (funM p.funcs) e≠0->gE (sigs p.funcs) (coE fd e)=true
 | .mk k o n s l,v,hr,hu,ht=>by
  rw[rE] at hr
  rw[tyE] at ht
  rw[useE] at hu
  rw[coE,gE]
  simp only[Bool.and_eq_true] at hr
  have hkids:tyAll (funM p.funcs) l 1=true\/tyAll (funM p.funcs) l 2=true\/l=[]->gEs (sigs p.funcs) (coEs fd l)=true:=fun h=>by
   rcases h with h|h|h
   ·exact goodEs l _ 1 hr.2.2 (fun u h=>hu u (List.mem_append_right _ h)) h (by omega)
   ·exact goodEs l _ 2 hr.2.2 (fun u h=>hu u (List.mem_append_right _ h)) h (by omega)
   ·subst h;simp
  have hf:=hr.1
  simp only[formE,Ex.kind,Ex.op,Ex.num,Ex.name,Ex.kids] at hf
  simp only[K4]
  by_cases h1:k=1\/k=2\/k=5
  ·have hl:l.length=0:=by rcases h1 with rfl|rfl|rfl<;>simp at hf<;>simp[hf]
   rw[hkids (.inr (.inr (List.eq_nil_of_length_eq_zero hl)))]
   simp[h1,hl]
  rw[if_neg h1] at ht⊢
  by_cases h3:k=3
  ·subst h3
   have hl:l.length=1:=by simp at hf;exact hf.2
   rw[hkids (.inl (by simpa using ht))]
   simp[hl]
  rw[if_neg h3] at ht
  by_cases h4:k=4
  ·subst h4
   rw[if_pos rfl] at ht
   obtain⟨hw,ht⟩:Dh (funM p.funcs) s=true/\tyAll (funM p.funcs) l 1=true:=by
    by_cases hq:Dh (funM p.funcs) s=true/\tyAll (funM p.funcs) l 1=true
    ·exact hq
    ·rw[if_neg hq] at ht;exact(ht rfl).elim
   rw[hkids (.inl ht)]
   have:=O4 (v:=true) (hu ⟨4,s,l.length⟩ (List.mem_append_left _ (by simp[ownE,Ex.kind,Ex.name,Ex.kids]))) hw
   simpa using this
  rw[if_neg h4] at ht
  by_cases h6:k=6
  ·subst h6
   have hl:l.length=2:=by simp at hf;exact hf.2
   rw[if_pos rfl] at ht
   have ht':tyAll (funM p.funcs) l 1=true:=by
    cases h:tyAll (funM p.funcs) l 1
    ·rw[h] at ht;simp at ht
    ·rfl
   rw[hkids (.inl ht')]
   simp[hl]
  rw[if_neg h6] at ht
  by_cases h7:k=7\/k=8\/k=9
  ·rw[if_pos h7] at ht
   rw[hkids (.inr (.inl (by simpa using ht)))]
   rcases h7 with rfl|rfl|rfl
   ·have hl:l.length=1:=by simp at hf;exact hf.2
    simp[hl]
   ·have hl:l.length=2:=by simp at hf;exact hf.2
    simp[hl]
   ·have hl:l.length=2:=by simp at hf;exact hf.2
    simp[hl]
  ·rw[if_neg h7] at ht;exact(ht rfl).elim
theorem goodEs : ∀(l:List Ex) (v:Nat) (t:Int),rEs nb v l=true->(∀u∈useEs l,Ph p fd u)->tyAll (funM p.funcs) l t=true->t≠0->gEs (sigs p.funcs) (coEs fd l)=true
 |[],_,_,_,_,_,_=>by simp
 |e::l,v,t,hr,hu,ht,h0=>by
  simp only[Gia,Lu,Bool.and_eq_true,decide_eq_true_eq,Ta] at hr hu ht
  simp only[Cja,C6,Bool.and_eq_true]
  exact⟨goodE e v hr.1 (fun u h=>hu u (List.mem_append_left _ h)) (by rw[ht.1];exact h0),goodEs l v t hr.2 (fun u h=>hu u (List.mem_append_right _ h)) ht.2 h0⟩
end
mutual
theorem goodS {w:Bool}: ∀(e:St) (v:Nat),rS nb v e=true->(∀u∈useS e,Ph p fd u)->tyS (funM p.funcs) w e=true->gS (sigs p.funcs) w (coS fd e)=true
 | .mk k s e t f,v,hr,hu,ht=>by
  rw[rS] at hr
  rw[tyS] at ht
  rw[useS] at hu
  rw[coS,gS]
  simp only[Bool.and_eq_true,rL] at hr ht
  obtain⟨⟨⟨⟨h6,h7⟩,hte⟩,htt⟩,htf⟩:=ht
  obtain⟨⟨⟨hf,hre⟩,hrt⟩,hrf⟩:=hr
  have ge:gEs (sigs p.funcs) (coEs fd e)=true:=by
   refine goodEs e _ _ hre.2 (fun u h=>hu u ?_) hte (by split<;>omega)
   exact List.mem_append_right _ (List.mem_append_left _ h)
  have gt:gSs (sigs p.funcs) w (coSs fd t)=true:=goodSs t _ hrt.2 (fun u h=>hu u (List.mem_append_right _ (List.mem_append_right _ (List.mem_append_left _ h)))) htt
  have gf:gSs (sigs p.funcs) w (coSs fd f)=true:=goodSs f _ hrf.2 (fun u h=>hu u (List.mem_append_right _ (List.mem_append_right _ (List.mem_append_right _ h)))) htf
  rw[ge,gt,gf]
  simp only[formS,St.kind,St.name,St.e,St.th,St.el] at hf
  simp only[K4,Bool.true_and]
  by_cases h1:k=1\/k=3\/k=4\/k=5
  ·have hl:e.length=1:=by rcases h1 with rfl|rfl|rfl|rfl<;>simp at hf<;>simp[hf]
   simp[h1,hl]
  rw[if_neg h1]
  by_cases h2:k=2
  ·subst h2
   have hl:e.length=2:=by simp at hf;simp[hf]
   simp[hl]
  rw[if_neg h2]
  by_cases h66:k=6
  ·subst h66
   have:=O4 (v:=false) (hu ⟨4,s,e.length⟩ (List.mem_append_left _ (by simp[ownS,St.kind,St.name,St.e]))) (by simpa using h6)
   simpa using this
  rw[if_neg h66]
  by_cases h77:k=7
  ·subst h77
   have hl:e.length<=1:=by simp at hf;exact of_decide_eq_true hf.1.1.2
   have h7':e.length=0\/w=true:=by simpa using h7
   simp only[if_true,Bool.or_eq_true,beq_iff_eq,Bool.and_eq_true]
   rcases h7' with h|h
   ·exact .inl h
   ·by_cases h0:e.length=0
    ·exact .inl h0
    ·exact .inr ⟨by omega,h⟩
  ·exfalso
   have e1:k≠1:=by omega
   have e3:k≠3:=by omega
   have e4:k≠4:=by omega
   have e5:k≠5:=by omega
   simp[e1,h2,e3,e4,e5,h66,h77] at hf
theorem goodSs {w:Bool}: ∀(l:List St) (v:Nat),rSs nb v l=true->(∀u∈useSs l,Ph p fd u)->tySs (funM p.funcs) w l=true->gSs (sigs p.funcs) w (coSs fd l)=true
 |[],_,_,_,_=>by simp
 |e::l,v,hr,hu,ht=>by
  simp only[Gga,A0a,Bool.and_eq_true,S7] at hr hu ht
  simp only[Cfa,Jm,Bool.and_eq_true]
  exact⟨goodS e v hr.1 (fun u h=>hu u (List.mem_append_left _ h)) ht.1,goodSs l v hr.2 (fun u h=>hu u (List.mem_append_right _ h)) ht.2⟩
end
theorem Ef (h:soundS nb p=0):rP nb p=true/\scopeS p=0/\typingS p=0:=by
 unfold soundS at h
 split at h
 ·cases h
 ·rename_i h1
  split at h
  ·rename_i h2;exact(h2 h).elim
  ·rename_i h2;exact⟨by simpa using h1,by simpa using h2,h⟩
theorem Caa (h:soundS nb p=0){i:Nat}{f:Fu}(hf:p.funcs[i]?=some f)(w:Int):gSs (sigs p.funcs) f.word (coF (setAll (coOutL p) []) w f).body=true:=by
 obtain⟨hr,hs,ht⟩:=Ef h
 have hfm:=List.mem_of_getElem? hf
 unfold scopeS at hs
 have hs1:(fnsStep p 0 p.funcs ((outM p).2,true)).1=true:=by
  cases hq:(fnsStep p 0 p.funcs ((outM p).2,true)).1
  ·rw[if_pos hq] at hs;cases hs
  ·rfl
 rw[if_neg (by rw[hs1];simp)] at hs
 have hs2:(fnsStep p 0 p.funcs ((outM p).2,true)).2=true:=by
  cases hq:(fnsStep p 0 p.funcs ((outM p).2,true)).2
  ·rw[if_pos (.inl hq)] at hs;cases hs
  ·rfl
 obtain⟨⟨o1,_⟩,hfn⟩:=Gb hs1 hs2
 obtain⟨_,oM,oN⟩:=Da (l:=outL p) (m:=([],true)) (by simp) o1
 simp only[List.nil_append] at oM oN
 obtain⟨s',n1,n2⟩:=hfn i f hf
 rw[Nat.zero_add] at n1 n2
 have hin:(inM f).2=true:=by
  have:=useAll_mono.1 n1
  simp only[Bool.and_eq_true] at this
  exact this.2
 obtain⟨_,iM,iN⟩:=Da (l:=inL f) (m:=([],true)) (by simp) hin
 simp only[List.nil_append] at iM iN
 have e1:setAll (coOutL p) []=coOutL p:=by
  have:=Dk (l:=coOutL p) (m:=[]) (by rw[List.nil_append,Fh,<-Dw];exact oN)
  simpa using this
 have e2:setAll (coInL w f) []=coInL w f:=by
  have:=Dk (l:=coInL w f) (m:=[]) (by rw[List.nil_append,Gi,<-J6];exact iN)
  simpa using this
 have e3:funM p.funcs=p.funcs.map fun f=>(f.name,f):=by
  unfold funM
  rw[Jt]
  ·simp
  ·rw[Dw,List.nodup_append] at oN
   simpa[List.map_map,Function.comp_def] using oN.2.1
 have hcall: ∀u∈useSs f.body,Ph p (coFind (coInL w f) (coOutL p)) u:=by
  intro u hu hk
  obtain⟨s'',u1,u2⟩:=Ls hu n1 n2
  have iM':(inM f).1=inL f:=iM
  have oM':(outM p).1=outL p:=oM
  rw[iM',oM'] at u1 u2
  unfold useStep at u1 u2
  simp only[hk,Int.reduceEq,if_false,if_true] at u1 u2
  split at u1
  case isFalse=>cases u1
  rename_i hc
  rw[if_pos hc] at u2
  have hni:look (inL f) u.name=none:=by
   cases hl:look (inL f) u.name with
   |none=>rfl
   |some t=>
    exfalso
    have hm:=D3 hl
    simp only[findT,hl,Option.getD_some] at hc
    simp only[inL,List.mem_append] at hm
    rcases hm with hm|hm
    ·obtain⟨i',a,_,e⟩:=Ct hm
     simp only[Prod.mk.injEq] at e
     rw[e.2] at hc;simp at hc
    ·obtain⟨i',a,_,e⟩:=Ct hm
     simp only[Prod.mk.injEq] at e
     rw[e.2] at hc;simp at hc
  cases hlo:look (outL p) u.name with
  |none=>simp[findT,hni,hlo] at hc
  |some t=>
   have hfd:findT (inL f) (outL p) u.name=t:=by simp[findT,hni,hlo]
   rw[hfd] at hc u2
   have hm:=D3 hlo
   obtain⟨j,g,hj,hname,htj⟩: ∃(j:Nat) (g:Fu),p.funcs[j]?=some g/\g.name=u.name/\t=(4,(j:Int)):=by
    simp only[outL,List.mem_append] at hm
    rcases hm with(hm|hm)|hm
    ·obtain⟨i',a,_,e⟩:=Ct hm
     simp only[Prod.mk.injEq] at e
     rw[e.2] at hc;simp at hc
    ·obtain⟨i',a,_,e⟩:=Ct hm
     simp only[Prod.mk.injEq] at e
     rw[e.2] at hc;simp at hc
    ·obtain⟨i',a,ha,e⟩:=Ct hm
     simp only[Prod.mk.injEq,Nat.zero_add] at e
     exact⟨i',a,ha,e.1.symm,e.2⟩
   subst htj
   simp only[Int.toNat_natCast,hj] at u2
   refine⟨j,g,?_,hj,?_,?_⟩
   ·have h1:look (coInL w f) u.name=none:=by
     rw[Hg,Gi,<-J6]
     exact J3 hni
    have h2:look (coOutL p) u.name=some ((j:Int),0):=by
     refine Zo (by rw[Fh,<-Dw];exact oN) ?_
     have:=Zm (f:=fun i (f:Fu)=>(f.name,((i,0):Th))) (n:=0) hj
     rw[Nat.zero_add,hname] at this
     exact List.mem_append_right _ this
    simp[coFind,h1,h2]
   ·by_cases hp:(g.params.length:Int)=u.args
    ·exact hp
    ·rw[if_neg hp] at u2;cases u2
   ·have:look (funM p.funcs) u.name=some g:=by
     rw[e3]
     refine Zo ?_ (List.mem_map.2 ⟨g,List.mem_of_getElem? hj,by rw[hname]⟩)
     rw[Dw,List.nodup_append] at oN
     simpa[List.map_map,Function.comp_def] using oN.2.1
    simp[Dh,this]
 have hrf:rB nb 1 f.body=true:=by
  unfold rP at hr
  simp only[Bool.and_eq_true,List.all_eq_true] at hr
  have:=hr.2 f hfm
  unfold rF at this
  simp only[Bool.and_eq_true] at this
  exact this.2
 unfold rB at hrf
 simp only[Bool.and_eq_true] at hrf
 have htf:tySs (funM p.funcs) f.word f.body=true:=by
  unfold typingS at ht
  split at ht
  ·cases ht
  split at ht
  ·cases ht
  rename_i h2
  simp only[Bool.not_eq_false,List.all_eq_true] at h2
  exact h2 f hfm
 have:=goodSs (fd:=coFind (coInL w f) (coOutL p)) f.body 1 hrf.2 hcall htf
 simpa[coF,e1,e2] using this
end
end Go.Ab.Sy
