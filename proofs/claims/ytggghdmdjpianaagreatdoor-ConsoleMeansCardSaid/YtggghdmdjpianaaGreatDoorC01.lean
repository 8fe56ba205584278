/- A part of the proof: Ab9, Ab10, Ab11, Ab12, Ab13, Ab35, Ab29, Ab31, Ab14, Ab15, Ab16, Ab17, Ab18. -/
import Derived.Test.YtggghdmdjpianaaGreatDoorC00
import Derived.Laws.IdiomStrings
import Derived.RangeFuncRecord
import Derived.Laws.StructEq
import Derived.ChangeKeysEq
import Derived.DeepKeys3
import Derived.Scope
set_option linter.unusedSimpArgs false
set_option linter.unusedVariables false
namespace Go.Ab
section
open Go
variable {a v i x:AV}{f:Nat}{t ty:TypeId}{u ui:Value}
section
variable {P:Program}{I K:Nat->Prop}{m:Mp}{hp hp':Hp}{w:World}{k:Nat}
/-! ### addresses -/
theorem Ny {n:Nat}(hr:Ie k I m hp w a u)(h:(kP n a).run hp=some (v,hp')):
  hp'=hp/\ ∃b o,u= .pointer (some ⟨b,o,none⟩)/\Ie k I m hp w v (.pointer (some ⟨b,o+n,none⟩)):=by
 cases a with
 |ptr x g off=>
  simp only[kP,Ia.run] at h
  cases hx:hp x with
  |no g'=>rw[hx] at h;simp[Ia.run,It.head] at h
  |map _ _ _ _ _=>rw[hx] at h;simp[Ia.run,It.head] at h
  |arr g' sz e rows f=>rw[hx] at h;simp[Ia.run,It.head] at h
  |box g' cells f=>
   rw[hx] at h;simp only[It.head] at h
   split at h
   ·rename_i hg
    subst hg;simp only[Ia.run,Bc,Br] at h;obtain⟨rfl,rfl⟩:=h;simp only[Ie] at hr⊢;obtain⟨h1,h2,h3⟩:=hr;obtain⟨b,c,hm,rfl⟩:=h3 cells f hx;exact⟨trivial,b,off,rfl,h1,h2,fun cells fz hx=>⟨b,c,hm,rfl⟩⟩
   ·simp[Ia.run] at h
 |eptr x g i off=>
  simp only[kP,Ia.run] at h
  cases hx:hp x with
  |no g'=>rw[hx] at h;simp[Ia.run,It.head] at h
  |map _ _ _ _ _=>rw[hx] at h;simp[Ia.run,It.head] at h
  |box g' cells f=>rw[hx] at h;simp[Ia.run,It.head] at h
  |arr g' sz e rows f=>
   rw[hx] at h;simp only[It.head] at h
   split at h
   ·rename_i hg
    subst hg;simp only[Ia.run,Bc,Br] at h;obtain⟨rfl,rfl⟩:=h;simp only[Ie] at hr⊢;obtain⟨h1,h2,h3⟩:=hr;obtain⟨b,c,hm,rfl⟩:=h3 sz e rows f hx;refine⟨trivial,b,_,rfl,h1,h2,fun sz' e' rows' fz' rO=>⟨b,c,hm,?_⟩⟩;rw[hx] at rO;cases rO;rw[tJ]
   ·simp[Ia.run] at h
 |dp cells off=>
  simp only[kP,Ia.run,Bc,Br] at h;obtain⟨rfl,rfl⟩:=h;refine⟨rfl,?_⟩;simp only[Ie,Iq] at hr⊢;obtain⟨b,o,us,rfl,hb,hc,hl⟩:=hr;exact⟨b,_,rfl,b,o,us,by rw[tJ],hb,hc,hl⟩
 |any|sc|sl|own|agg|tup|vec|fn|bsl|mp|dmp=>simp[kP,Ia.run] at h
theorem P9(h:P.cellsOf t≠0): ∃i,P.info? t=some i/\P.cellsOf t=i.size:=by
 unfold Program.cellsOf at h
 cases hi:P.info? t with
 |none=>simp[hi] at h
 |some i=>exact⟨i,rfl,by simp[Program.cellsOf,hi]⟩
theorem J2a {s:TypeId}(hr:Ie k I m hp w a u)(h:(uL P s a f).run hp=some (v,hp')):
  hp'=hp/\ ∃u',(Instr.fieldAt s u f).run P w= .ok u' w/\Ie k I m hp w v u':=by
 unfold uL at h
 split at h
 ·rename_i off sz ft hf
  split at h
  ·simp[Ia.run] at h
  ·rename_i hz
   obtain⟨e1,b,o,rfl,h2⟩:=Ny hr h;refine⟨e1,_,?_,h2⟩;unfold eU at hf
   split at hf
   ·rename_i fs hu
    rw[qY] at hf
    cases FX:fs.toList[f]? with
    |none=>rw[FX] at hf;cases hf
    |some fl=>
     rw[FX] at hf;simp only[wD,Bc,Br] at hf;obtain⟨rfl,rfl,rfl⟩:=hf;obtain⟨i,hi,hs⟩:=P9 hz;have hfs':fs[f]?=some fl:=by simpa using FX
     rw[hs] at hz;simp[Instr.fieldAt,Qi hu,hfs',Instr.sureAddr,fieldPlace,sizeOf,typeInfo,hi,hz,Bh]
   ·simp at hf
 ·simp[Ia.run] at h
theorem Jaa(hr:Ie k I m hp w a u)(yH:Ie k I m hp w i ui)(h:(pG P t a i).run hp=some (v,hp')):
  hp'=hp/\ ∃u',(Instr.indexAt t u ui).run P w= .ok u' w/\Ie k I m hp w v u':=by
 cases i with
 |sc vi=>
  cases vi with
  |int kd n=>
   simp only[Ie] at yH;subst yH;simp only[pG] at h
   split at h
   case isFalse=>simp[Ia.run] at h
   rename_i hn
   split at h
   · -- data
    rename_i f sz rows
    split at h
    ·rename_i e he
     have ht:=Bj he
     split at h
     case isFalse=>simp[Ia.run] at h
     rename_i hc;obtain⟨rfl,fA⟩:=hc;simp only[kB,Ed] at fA;obtain⟨i,hi⟩:=X2.1 fA.1
     split at h
     ·rename_i r iP
      simp only[Ia.run,Bc,Br] at h;obtain⟨rfl,rfl⟩:=h;refine⟨rfl,?_⟩;simp only[Ie,Iq] at hr;obtain⟨A,cap,rfl,h1,h2,h3,h4⟩:=hr;have Ii:n.toNat<rows.length:=(Oh.1 iP).1;rcases h4 with rfl|⟨b,o,us,rfl,hb,GB,hrr⟩
      ·simp at Ii
      ·obtain⟨gE,uW⟩:=(Ai _ _).1 hrr
       refine⟨.pointer (some ⟨b,o+n.toNat*P.cellsOf e,none⟩),?_,?_⟩
       ·have eQ:n<(rows.length:Int):=Zo
        simp[Instr.indexAt,Qi ht,asIntOf,sizeOf,typeInfo,hi,hn,eQ,Bh,Program.cellsOf]
       ·simp only[Ie,Iq]
        refine⟨b,o+n.toNat*P.cellsOf e,(us.drop (n.toNat*P.cellsOf e)).take (P.cellsOf e),rfl,hb,fun j v hv=>?_,?_⟩
        ·rw[xZ] at hv
         split at hv
         ·rw[zD] at hv
          have:=GB _ v hv;rwa [<-tJ] at this
         ·cases hv
        ·rw[Ax]
         have:=(uW.drop (n.toNat*P.cellsOf e)).take (P.cellsOf e);rwa [gE.row iP] at this
     ·simp[Ia.run] at h
    ·simp[Ia.run] at h
   · -- what is owned
    rename_i x g len
    split at h
    ·rename_i e he
     have ht:=Bj he;simp only[Ia.run] at h
     cases hx:hp x with
     |no g'=>rw[hx] at h;simp[Ia.run,It.head] at h
     |map _ _ _ _ _=>rw[hx] at h;simp[Ia.run,It.head] at h
     |box g' c f=>rw[hx] at h;simp[Ia.run,It.head] at h
     |arr g' sz e' rows f=>
      rw[hx] at h;simp only[It.head] at h
      split at h
      case isFalse=>simp[Ia.run] at h
      rename_i hc;obtain⟨rfl,rfl,fA,Ii⟩:=hc;simp only[kB,Ed] at fA;obtain⟨i,hi⟩:=X2.1 fA.1;simp only[Ia.run,Bc,Br] at h;obtain⟨rfl,rfl⟩:=h;refine⟨rfl,?_⟩;simp only[Ie] at hr;obtain⟨h1,h2,h3⟩:=hr;obtain⟨h4,h5⟩:=h3 _ e' rows f hx;rcases h5 with⟨_,_,h0⟩|⟨b,cap,hm,rfl⟩
      ·omega
      ·refine⟨.pointer (some ⟨b,n.toNat*P.cellsOf e,none⟩),?_,?_⟩
       ·have eQ:n<(len:Int):=Zo
        simp[Instr.indexAt,Qi ht,asIntOf,sizeOf,typeInfo,hi,hn,eQ,Bh,Program.cellsOf]
       ·simp only[Ie]
        refine⟨h1,h2,fun sz e rows fz rO=>⟨b,cap,hm,?_⟩⟩;rw[hx] at rO;cases rO;rfl
    ·simp[Ia.run] at h
   · -- a box's part
    rename_i x g sz off len
    split at h
    ·rename_i e he
     have ht:=Bj he;simp only[Ia.run] at h
     cases hx:hp x with
     |no g'=>rw[hx] at h;simp[Ia.run,It.head] at h
     |map _ _ _ _ _=>rw[hx] at h;simp[Ia.run,It.head] at h
     |arr g' sz e' rows f=>rw[hx] at h;simp[Ia.run,It.head] at h
     |box g' c f=>
      rw[hx] at h;simp only[It.head] at h
      split at h
      case isFalse=>simp[Ia.run] at h
      rename_i hc;obtain⟨rfl,rfl,fA,Ii⟩:=hc;simp only[kB,Ed] at fA;obtain⟨i,hi⟩:=X2.1 fA.1;simp only[Ia.run,Bc,Br] at h;obtain⟨rfl,rfl⟩:=h;refine⟨rfl,?_⟩;simp only[Ie] at hr;obtain⟨h1,h2,h3⟩:=hr;obtain⟨b,c',cap,hm,h4,h5,rfl⟩:=h3 _ f hx;refine⟨.pointer (some ⟨b,off+n.toNat*P.cellsOf e,none⟩),?_,?_⟩
      ·have eQ:n<(len:Int):=Zo
       simp[Instr.indexAt,Qi ht,asIntOf,sizeOf,typeInfo,hi,hn,eQ,Bh,Program.cellsOf]
      ·simp only[Ie]
       exact⟨h1,h2,fun cells fz rO=>⟨b,c',hm,rfl⟩⟩
    ·simp[Ia.run] at h
   ·split at h
    ·rename_i len e he
     split at h
     case isFalse=>simp[Ia.run] at h
     rename_i hc;obtain⟨Ii,fA⟩:=hc;simp only[kB,Ed] at fA;obtain⟨i,hi⟩:=X2.1 fA.1;obtain⟨e1,b,o,rfl,h2⟩:=Ny hr h;refine⟨e1,_,?_,h2⟩;have ht:P.underlying t=some (.array len e):=by
      unfold A5 at he
      split at he
      ·rename_i n' e' DB;cases he;exact DB
      ·cases he
     have eQ:n<(len:Int):=Zo;simp[Instr.indexAt,Qi ht,asIntOf,Instr.sureAddr,sizeOf,typeInfo,hi,hn,eQ,Bh,Program.cellsOf]
    ·simp[Ia.run] at h
  |_=>simp[pG,Ia.run] at h
 |any|sl|dp|own|ptr|eptr|agg|tup|vec|fn|bsl|mp|dmp=>simp[pG,Ia.run] at h
/-! ### parts of a value -/
theorem Bsa{cs:List AV}{us:List Value}{off:Nat}(hr:Ue (Ie k I m hp w) cs us)(h:(vF P t cs off).run hp=some (v,hp')):
  hp'=hp/\ ∃u',(part t ⟨us⟩ off).run P w= .ok u' w/\Ie k I m hp w v u':=by
 unfold vF at h
 split at h
 ·simp[Ia.run] at h
 rename_i CJ;simp only[Ac2,Bool.not_eq_false',kB,Ed] at CJ;obtain⟨fA,hu⟩:=CJ;obtain⟨i,hi⟩:=X2.1 fA;obtain⟨d,hd⟩:=X2.1 hu
 split at h
 ·rename_i iH
  split at h
  ·rename_i aI
   simp only[Ia.run,Bc,Br] at h;obtain⟨rfl,rfl⟩:=h;refine⟨rfl,.agg ⟨(us.drop off).take (P.cellsOf t)⟩,?_,?_⟩
   ·have Uk:(isAgg t).run P w= .ok true w:=by
     unfold Iu at iH;rw[hd] at iH;unfold isAgg;rw[mG,Qi hd]
     cases d<;>simp at iH<;>rfl
    have e:(#[].extract 0 0:Array Value)= #[]:=rfl;simp only[part,mG,Uk,tH,iW,sizeOf,typeInfo,run_program,hi,Adi];congr 2;apply sI;simp[Program.cellsOf,hi,List.take_drop]
   ·simp only[Ie]
    exact⟨_,rfl,(Ae _ _).2 ((hr.drop off).take _)⟩
  ·simp[Ia.run] at h
 ·rename_i iH
  split at h
  ·rename_i v' hv
   simp only[Ia.run,Bc,Br] at h;obtain⟨rfl,rfl⟩:=h;obtain⟨u',hu',h1⟩:=hr.get hv;refine⟨rfl,u',?_,h1⟩;have Uk:(isAgg t).run P w= .ok false w:=by
    unfold Iu at iH;rw[hd] at iH;unfold isAgg;rw[mG,Qi hd]
    cases d<;>simp at iH<;>rfl
   have uP:(⟨us⟩:Array Value)[off]?=some u':=by simpa using hu'
   simp[part,mG,Uk,uP]
  ·simp[Ia.run] at h
theorem Eua(hr:Ie k I m hp w x u)(h:(qQ P t x f).run hp=some (v,hp')):
  hp'=hp/\ ∃u',(Instr.field t u f).run P w= .ok u' w/\Ie k I m hp w v u':=by
 unfold qQ at h
 split at h
 ·rename_i off sz ft cs hf
  simp only[Ie] at hr;obtain⟨us,rfl,hr⟩:=hr;obtain⟨e1,u',h3,h4⟩:=Bsa ((Ae _ _).1 hr) h;refine⟨e1,u',?_,h4⟩;unfold eU at hf
  split at hf
  ·rename_i fs hu
   rw[qY] at hf
   cases FX:fs.toList[f]? with
   |none=>rw[FX] at hf;cases hf
   |some fl=>
    rw[FX] at hf;simp only[wD,Bc,Br] at hf;obtain⟨rfl,rfl,rfl⟩:=hf;have hfs':fs[f]?=some fl:=by simpa using FX
    simp[Instr.field,Qi hu,hfs',asAgg,h3]
  ·simp at hf
 ·simp[Ia.run] at h
theorem Eia(hr:Ie k I m hp w x u)(yH:Ie k I m hp w i ui)(h:(mJ P t x i).run hp=some (v,hp')):
  hp'=hp/\ ∃u',(Instr.index t u ui).run P w= .ok u' w/\Ie k I m hp w v u':=by
 cases i with
 |sc vi=>
  cases vi with
  |int kd n=>
   simp only[Ie] at yH;subst yH;simp only[mJ] at h
   split at h
   case isFalse=>simp[Ia.run] at h
   rename_i hn
   split at h
   ·rename_i cs
    split at h
    ·rename_i len e he
     split at h
     case isFalse=>simp[Ia.run] at h
     rename_i hc;obtain⟨Ii,fA⟩:=hc;simp only[kB,Ed] at fA;obtain⟨i,hi⟩:=X2.1 fA.1;simp only[Ie] at hr;obtain⟨us,rfl,hr⟩:=hr;obtain⟨e1,u',h3,h4⟩:=Bsa ((Ae _ _).1 hr) h;have ht:P.underlying t=some (.array len e):=by
      unfold A5 at he
      split at he
      ·rename_i n' e' DB;cases he;exact DB
      ·cases he
     have eQ:n<(len:Int):=Zo;refine⟨e1,u',?_,h4⟩;simp[Instr.index,Qi ht,asIntOf,sizeOf,typeInfo,hi,hn,eQ];simpa[Program.cellsOf,hi] using h3
    ·simp[Ia.run] at h
   ·rename_i s
    split at h
    ·rename_i hs
     split at h
     ·rename_i b hb
      simp only[Ia.run,Bc,Br] at h;obtain⟨rfl,rfl⟩:=h;simp only[Ie] at hr;subst hr;refine⟨rfl,.int .u8 b.toNat,?_,by simp only[Ie]⟩;have ht:P.underlying t=some .string:=by
       unfold mP at hs
       split at hs
       ·rename_i DB;exact DB
       ·cases hs
      have zS:s[n.toNat]?=some b:=by
       have Ii:n.toNat<s.data.size:=(Xc.1 hb).1;have:n.toNat<s.size:=Ii;rw[getElem?_pos s n.toNat this];rw[getElem?_pos s.data n.toNat Ii] at hb;exact hb
      simp[Instr.index,Qi ht,asIntOf,hn,zS]
     ·simp[Ia.run] at h
    ·simp[Ia.run] at h
   ·simp[Ia.run] at h
  |_=>simp[mJ,Ia.run] at h
 |any|sl|dp|own|ptr|eptr|agg|tup|vec|fn|bsl|mp|dmp=>simp[mJ,Ia.run] at h
theorem Ga(h:mP P t=true):P.underlying t=some .string:=by
 unfold mP at h
 split at h
 ·rename_i DB;exact DB
 ·cases h
theorem H3(h:(bF P t).isSome): ∃e,P.underlying t=some (.slice e):=by
 obtain⟨e,he⟩:=X2.1 h;exact⟨e,Bj he⟩
theorem Ks (w:World){e:TypeId}(ht:P.underlying t=some (.slice e))(A:Option Addr)(n c:Nat):(Builtin.len_ #[t] ty #[.slice A n c]).run P w= .ok (.int .i64 n) w:=by
 simp[Builtin.len_,Qi ht,goInt]
theorem len_ok(hr:Ie k I m hp w x u)(h:(vI P t x).run hp=some (v,hp')):
  hp'=hp/\ ∃u',(Builtin.len_ #[t] ty #[u]).run P w= .ok u' w/\Ie k I m hp w v u':=by
 cases x with
 |sc vi=>
  simp only[Ie] at hr;subst hr;unfold vI at h
  split at h
  all_goals first|(simp[Ia.run] at h;done)|(rename_i cE;simp at cE;done)|skip
  ·rename_i s cE
   simp only[AV.sc.injEq] at cE;subst cE
   split at h
   ·rename_i hs
    simp only[Ia.run,Bc,Br] at h;obtain⟨rfl,rfl⟩:=h;exact⟨rfl,.int .i64 s.size,by simp[Builtin.len_,Qi (Ga hs),goInt],by simp only[Ie]⟩
   ·simp[Ia.run] at h
  ·rename_i cE
   simp only[AV.sc.injEq] at cE;subst cE
   split at h
   ·rename_i hs
    obtain⟨e,he⟩:=H3 hs;simp only[Ia.run,Bc,Br] at h;obtain⟨rfl,rfl⟩:=h;exact⟨rfl,.int .i64 0,Ks w he none 0 0,by simp only[Ie]⟩
   ·simp[Ia.run] at h
 |sl f sz rows=>
  simp only[vI] at h
  split at h
  ·rename_i hs
   obtain⟨e,he⟩:=H3 hs;simp only[Ia.run,Bc,Br] at h;obtain⟨rfl,rfl⟩:=h;simp only[Ie,Iq] at hr;obtain⟨A,cap,rfl,_⟩:=hr;exact⟨rfl,_,Ks w he A _ cap,by simp only[Ie]⟩
  ·simp[Ia.run] at h
 |own x g n=>
  simp only[vI] at h
  split at h
  case isFalse=>simp[Ia.run] at h
  rename_i hs;obtain⟨e,he⟩:=H3 hs;simp only[Ia.run] at h
  cases hx:hp x with
  |no g'=>rw[hx] at h;simp[Ia.run,It.head] at h
  |map _ _ _ _ _=>rw[hx] at h;simp[Ia.run,It.head] at h
  |box g' cells f=>rw[hx] at h;simp[Ia.run,It.head] at h
  |arr g' sz e rows f=>
   rw[hx] at h;simp only[It.head] at h
   split at h
   ·rename_i hg
    subst hg;simp only[Ia.run,Bc,Br] at h;obtain⟨rfl,rfl⟩:=h;simp only[Ie] at hr;obtain⟨_,_,hr⟩:=hr;obtain⟨_,hr⟩:=hr sz e rows f hx;rcases hr with⟨_,rfl,rfl⟩|⟨b,cap,_,rfl⟩
    ·exact⟨rfl,_,Ks w he none 0 0,by simp only[Ie]⟩
    ·exact⟨rfl,_,Ks w he _ n cap,by simp only[Ie]⟩
   ·simp[Ia.run] at h
 |bsl x g sz off n=>
  simp only[vI] at h
  split at h
  case isFalse=>simp[Ia.run] at h
  rename_i hs;obtain⟨e,he⟩:=H3 hs;simp only[Ia.run] at h
  cases hx:hp x with
  |no g'=>rw[hx] at h;simp[Ia.run,It.head] at h
  |map _ _ _ _ _=>rw[hx] at h;simp[Ia.run,It.head] at h
  |arr g' sz e rows f=>rw[hx] at h;simp[Ia.run,It.head] at h
  |box g' cells f=>
   rw[hx] at h;simp only[It.head] at h
   split at h
   ·rename_i hg
    subst hg;simp only[Ia.run,Bc,Br] at h;obtain⟨rfl,rfl⟩:=h;simp only[Ie] at hr;obtain⟨_,_,hr⟩:=hr;obtain⟨b,c',cap,hm,h4,h5,rfl⟩:=hr cells f hx;exact⟨rfl,_,Ks w he _ n cap,by simp only[Ie]⟩
   ·simp[Ia.run] at h
 |any|ptr|eptr|dp|agg|tup|vec|fn|mp|dmp=>simp[vI,Ia.run] at h
/-! ### fT -/
theorem J8a {op:BinOp}{kd:IntKind}{a b:Int}{v:Value}(h:vW op kd a b=some v)(t:TypeId)(hs:op≠ .shl/\op≠ .shr):
  (binOp op t (.int kd a) (.int kd b)).run P w= .ok v w:=by
 cases op<;>simp only[vW,Bc,reduceCtorEq] at h<;>first
  |(exact absurd rfl hs.1)
  |(exact absurd rfl hs.2)
  |(subst h;simp[binOp,Op.intArith,Op.intBits,Op.intCmp];done)
  |(split at h
    ·cases h
    ·rename_i hb
     simp only[Bc] at h;subst h;simp[binOp,Op.intDiv,hb])
theorem J6a {op:BinOp}{a b:ByteArray}{v:Value}(h:vU op a b=some v)(t:TypeId):(binOp op t (.string a) (.string b)).run P w= .ok v w:=by
 have e: ∀x y:ByteArray,(x.toList==y.toList)=decide (x=y):=fun x y=>by
  rw[Adq,Adq];by_cases sX:x=y
  ·subst sX;simp
  ·have hd:x.data≠y.data:=fun h=>sX (Adc h)
   simp[hd,sX]
 cases op<;>simp only[vU,Bc,reduceCtorEq] at h
 case add=>
  split at h
  ·rename_i hc
   simp only[Bc] at h;subst h;have hc': ¬(9223372036854775807<((a.size:Int)+(b.size:Int))):=Zo;simp[binOp,Op.stringOp,IntKind.max,IntKind.signed,IntKind.bits,hc']
  ·cases h
 case eql=>subst h;simp[binOp,Op.stringOp,e]
 case neq=>subst h;simp[binOp,Op.stringOp,e]
 case lss=>subst h;simp[binOp,Op.stringOp]
end
end
section
open Go
variable {n len cap l h q:Nat}{lo hi mx:Option AV}{A:Option Addr}{u ul uh um:Option Value}{t:TypeId}
section
variable {P:Program}{I K:Nat->Prop}{m:Mp}{hp hp':Hp}{w:World}{k:Nat}
/-! ### cut -/
def nQ (k:Nat)(I:Nat->Prop)(m:Mp)(hp:Hp)(w:World):Option AV->Option Value->Prop
 |none,none=>True
 |some a,some u=>Ie k I m hp w a u
 |_,_=>False
theorem E7 {d:Nat}{a:Option AV}(h:bT d a=some n)(hr:nQ k I m hp w a u):
  (a=none/\u=none/\n=d)\/ ∃kd x,u=some (.int kd x)/\0<=x/\n=x.toNat:=by
 cases a with
 |none=>cases u with
  |none=>simp[bT] at h;exact .inl ⟨rfl,rfl,h.symm⟩
  |some u=>simp[nQ] at hr
 |some a=>
  cases u with
  |none=>simp[nQ] at hr
  |some u=>
   unfold bT at h
   split at h
   ·rename_i cE;cases cE
   ·rename_i kd x cE
    cases cE
    split at h
    ·rename_i hx
     cases h
     simp only[nQ,Ie] at hr;subst hr;exact .inr ⟨kd,x,rfl,hx,rfl⟩
    ·cases h
   ·cases h
theorem Cr (w:World){kd:IntKind}{x:Int}{y:Nat}{c:BoundsCode}(h0:0<=x)(hy:x.toNat<=y):(Instr.sliceBound (.int kd x) y c).run P w= .ok x.toNat w:=by
 have:x<=(y:Int):=Zo;simp[Instr.sliceBound,asIntOf,h0,this]
theorem C9 (w:World)(isSlice:Bool)(rl:nQ k I m hp w lo ul)(rh:nQ k I m hp w hi uh)(hl:bT 0 lo=some l)(hh:bT len hi=some h)
  (h1:l<=h) (h2:h<=len) (h3:len<=cap):(Instr.sliceBounds isSlice len cap ul uh none).run P w= .ok (l,h,cap) w:=by
 rcases E7 hl rl with⟨_,rfl,rfl⟩|⟨kd,x,rfl,hx,rfl⟩<;>rcases E7 hh rh with⟨_,rfl,rfl⟩|⟨kd',y,rfl,hy,rfl⟩
 ·simp[Instr.sliceBounds]
 ·simp[Instr.sliceBounds,Cr w hy (show y.toNat<=cap by omega)]
 ·simp[Instr.sliceBounds,Cr w hx (show x.toNat<=h by omega)]
 ·simp[Instr.sliceBounds,Cr w hy (show y.toNat<=cap by omega),Cr w hx h1]
theorem Me (w:World)(rl:nQ k I m hp w lo ul)(rh:nQ k I m hp w hi uh)(rm:nQ k I m hp w mx um)(hl:bT 0 lo=some l)(hh:bT len hi=some h)(hm:bT 0 mx=some q)
  (h1:l<=h) (h2:h<=q) (h3:q<=cap) (hs:hi.isSome) (ms:mx.isSome):(Instr.sliceBounds true len cap ul uh um).run P w= .ok (l,h,q) w:=by
 rcases E7 hm rm with⟨rfl,_,_⟩|⟨kz,z,rfl,hz,rfl⟩
 ·simp at ms
 rcases E7 hh rh with⟨rfl,_,_⟩|⟨kd',y,rfl,hy,rfl⟩
 ·simp at hs
 rcases E7 hl rl with⟨_,rfl,rfl⟩|⟨kd,x,rfl,hx,rfl⟩
 ·simp[Instr.sliceBounds,Cr w hz h3,Cr w hy h2]
 ·simp[Instr.sliceBounds,Cr w hz h3,Cr w hy h2,Cr w hx h1]
theorem Iq.cut {J:Nat->Prop}{f f':Bool}{sz c':Nat}{rows:List (List AV)}(hr:Iq J w (.sl f sz rows) (.slice A rows.length cap))(h1:l<=h)(h2:h<=rows.length)(hc:h<=c')(GB:c'<=cap)(hf:f'=true->c'=h):
  Iq J w (.sl f' sz ((rows.take h).drop l)) (.slice (if c'=l then A else A.map (·.add (l*sz))) (h - l) (c' - l)):=by
 simp only[Iq] at hr⊢;obtain⟨A',cap',he,h3,h4,h5,h6⟩:=hr;simp only[Value.slice.injEq] at he;obtain⟨rfl,_,rfl⟩:=he;have Ij:((rows.take h).drop l).length=h - l:=by rw[AT,sL];omega
 refine⟨_,_,by rw[Ij],by rw[Ij];omega,Zo,fun hft=>by rw[Ij,hf hft],?_⟩;by_cases hlh:h=l
 ·left
  apply Kw;rw[Ij];omega
 ·rcases h6 with rfl|⟨b,o,us,rfl,hb,hcc',hrr⟩
  ·simp at h2;omega
  ·right
   obtain⟨gE,uW⟩:=(Ai _ _).1 hrr;refine⟨b,o+l*sz,(us.take (h*sz)).drop (l*sz),?_,hb,fun j v hv=>?_,?_⟩
   ·rw[Jx Zo]
    simp[Bh]
   ·rw[zD,xZ] at hv
    split at hv
    ·have:=hcc' _ v hv
     rwa [<-tJ] at this
    ·cases hv
   ·rw[Ai]
    refine⟨(gE.take h).drop l,?_⟩;rw[(gE.take h).flatten_drop,gE.flatten_take];exact(uW.take _).drop _
theorem Ef (w:World){e:TypeId}(ht:P.underlying t=some (.slice e)){i:TypeInfo}(hi:P.info? e=some i)(hb:(Instr.sliceBounds true len cap ul uh um).run P w= .ok (l,h,q) w):
  (Instr.sliceAt t (.slice A len cap) ul uh um).run P w= .ok (.slice (if q=l then A else A.map (·.add (l*i.size))) (h - l) (q - l)) w:=by
 simp[Instr.sliceAt,Instr.slice,Qi ht,hb,sizeOf,typeInfo,hi]
theorem Lb(h:kB P t=true):(∃i,P.info? t=some i/\P.cellsOf t=i.size)/\(P.underlying t).isSome:=by
 simp only[kB,Ed] at h;obtain⟨i,hi⟩:=X2.1 h.1;exact⟨⟨i,hi,by simp[Program.cellsOf,hi]⟩,h.2⟩
theorem X9 {e:TypeId}(h:A5 P t=some (n,e)):P.underlying t=some (.array n e):=by
 unfold A5 at h
 split at h
 ·rename_i n' e' DB;cases h;exact DB
 ·cases h
theorem Dm(h:nQ k I m hp w none u):u=none:=by cases u<;>simp_all[nQ]
theorem F8a (G:Uj I K m hp w){x v:AV}{u:Value}(hr:Ie k I m hp w x u)(rl:nQ k I m hp w lo ul)(rh:nQ k I m hp w hi uh)(rm:nQ k I m hp w mx um)
  (h:(kO P t x lo hi mx).run hp=some (v,hp')):
  ∃I' u',(Instr.sliceAt t u ul uh um).run P w= .ok u' w/\Uj I' K m hp' w/\aL I K m hp w I' m hp' w/\Ie k I' m hp' w v u':=by
 cases x with
 |sc vi=>
  simp only[Ie] at hr;subst hr;unfold kO at h
  split at h
  all_goals first|(simp[Ia.run] at h;done)|(rename_i cE;simp at cE;done)|skip
  rename_i s cE;simp only[AV.sc.injEq] at cE;subst cE
  split at h
  ·rename_i l hh _ _ _
   split at h
   ·rename_i hc
    simp only[Ia.run,Bc,Br] at h;obtain⟨rfl,rfl⟩:=h;have hum:=Dm rm;subst hum;have hb:=C9 (P:=P) w false rl rh ‹bT 0 lo=_› ‹bT s.size hi=_› hc.1 hc.2 (D5 _);refine⟨I,.string (s.extract l hh),?_,G,.refl _ _ _ _ _,by simp only[Ie]⟩;simp[Instr.sliceAt,Instr.slice,Qi (Ga ‹mP P t=true›),hb]
   ·simp[Ia.run] at h
  ·simp[Ia.run] at h
 |sl f sz rows=>
  simp only[kO] at h;have wZ:=hr;simp only[Ie,Iq] at wZ;obtain⟨A,cap,rfl,h1,h2,h3,h4⟩:=wZ;simp only[Ie] at hr
  split at h
  ·rename_i e l hh _ _ _
   split at h
   case isFalse=>simp[Ia.run] at h
   rename_i hc;obtain⟨c1,c2,rfl,c4⟩:=hc;simp only[Ia.run,Bc,Br] at h;obtain⟨rfl,rfl⟩:=h;have hum:=Dm rm;subst hum;obtain⟨⟨i,hi,aZ⟩,_⟩:=Lb c4;have hb:=C9 (P:=P) w true rl rh ‹bT 0 lo=_› ‹bT rows.length _=_› c1 c2 h1;refine⟨I,_,Ef w (Bj ‹bF P t=_›) hi hb,G,.refl _ _ _ _ _,?_⟩;simp only[Ie];rw[<-aZ];exact hr.cut c1 c2 Zo (D5 _) Zi
  ·rename_i e l hh mm _ _ _
   split at h
   ·rename_i q _
    split at h
    case isFalse=>simp[Ia.run] at h
    rename_i hc;obtain⟨c1,rfl,c2,rfl,c3,c4⟩:=hc;simp only[Ia.run,Bc,Br] at h;obtain⟨rfl,rfl⟩:=h;obtain⟨⟨i,hi,aZ⟩,_⟩:=Lb c4;have hb:=Me (P:=P) (len:=rows.length) (cap:=cap) w rl rh rm ‹bT 0 lo=_› ‹bT rows.length _=_› ‹bT 0 (some mm)=_› c1 (D5 _) Zo c3 rfl;refine⟨I,_,Ef w (Bj ‹bF P t=_›) hi hb,G,.refl _ _ _ _ _,?_⟩;simp only[Ie];rw[<-aZ];exact hr.cut c1 c2 (D5 _) Zo (fun _=>rfl)
   ·simp[Ia.run] at h
  ·simp[Ia.run] at h
 |own x g n=>
  simp only[kO,Ia.run] at h
  cases hx:hp x with
  |no g'=>rw[hx] at h;simp[Ia.run] at h
  |map _ _ _ _ _=>rw[hx] at h;simp[Ia.run] at h
  |box g' c f=>rw[hx] at h;simp[Ia.run] at h
  |arr g' sz e' rows f=>
   rw[hx] at h;simp only at h
   split at h
   ·rename_i e l hh _ _ _
    split at h
    case isFalse=>simp[Ia.run] at h
    rename_i hc;obtain⟨rfl,c1,c2,rfl,c4⟩:=hc;have hum:=Dm rm;subst hum;obtain⟨⟨i,hi,aZ⟩,_⟩:=Lb c4;obtain⟨hn,_,hd⟩:=G.ownRows hx hr;have wZ:=hr;simp only[Ie] at wZ;obtain⟨r1,r2,r3⟩:=wZ;obtain⟨r4,r5⟩:=r3 _ e' rows f hx
    split at h
    ·rename_i wH
     subst wH;simp only[Ia.run,Bc,Br] at h;obtain⟨rfl,rfl⟩:=h;rcases r5 with⟨m0,rfl,rfl⟩|⟨b,cap,hm,rfl⟩
     ·have hb:=C9 (P:=P) w true (cap:=0) rl rh ‹bT 0 lo=_› ‹bT 0 _=_› c1 c2 (D5 _)
      refine⟨I,_,Ef w (Bj ‹bF P t=_›) hi hb,G,.refl _ _ _ _ _,?_⟩;simp only[Ie];refine⟨r1,r2,fun sz e rows' fz rO=>⟨Zo,.inl ⟨m0,?_,Zo⟩⟩⟩;have:hh=0:=Zo;subst this;simp
     ·have uJ:n<=cap:=by
       have ho:=G.obj x;rw[hx] at ho;rcases ho with⟨h1,_⟩|⟨b',cap',us,mk,h1,h2,h3,h4,h5,h6,h7,h8,h9⟩
       ·rw[h1] at hm;cases hm
       ·rw[h1] at hm;cases hm;omega
      have hb:=C9 (P:=P) w true (cap:=cap) rl rh ‹bT 0 lo=_› ‹bT n _=_› c1 c2 uJ;refine⟨I,_,Ef w (Bj ‹bF P t=_›) hi hb,G,.refl _ _ _ _ _,?_⟩;simp only[Ie];refine⟨r1,r2,fun sz e rows' fz rO=>?_⟩;rw[hx] at rO;cases rO;refine⟨Zo,.inr ⟨b,cap,hm,?_⟩⟩;simp[Bh]
    ·simp only[Ia.run,Bc,Br] at h
     obtain⟨rfl,rfl⟩:=h;obtain⟨I',G',E',zS⟩:=G.freeze hx;have fN:=hd I' E'.isub zS;have Ij:(rows.take n).length=n:=by rw[sL];omega
     have hu: ∃A cap,u= .slice A (rows.take n).length cap/\n<=cap:=by
      have:=fN;simp only[Iq] at this;obtain⟨A,cap,e1,e2,_⟩:=this;exact⟨A,cap,e1,Zo⟩
     obtain⟨A,cap,rfl,uJ⟩:=hu;rw[Ij] at fN⊢;have hb:=C9 (P:=P) w true (cap:=cap) rl rh ‹bT 0 lo=_› ‹bT n _=_› c1 c2 uJ;refine⟨I',_,Ef w (Bj ‹bF P t=_›) hi hb,G',E',?_⟩;simp only[Ie];rw[<-aZ];have hcut:=Iq.cut (rows:=rows.take n) (f':=false) (c':=cap) (l:=l) (h:=hh) (cap:=cap) (A:=A) (by rw[Ij];exact fN) c1 (by rw[Ij];exact c2) Zo (D5 _) Zi;rwa [Acq,AD c2] at hcut
   ·rename_i e l hh mm _ _ _
    split at h
    ·rename_i q _
     split at h
     case isFalse=>simp[Ia.run] at h
     rename_i hc;obtain⟨rfl,c1,rfl,c2,rfl,c3,c4⟩:=hc;simp only[Ia.run,Bc,Br] at h;obtain⟨rfl,rfl⟩:=h;obtain⟨⟨i,hi,aZ⟩,_⟩:=Lb c4;obtain⟨hn,_,hd⟩:=G.ownRows hx hr;obtain⟨I',G',E',zS⟩:=G.freeze hx;have fN:=hd I' E'.isub zS;have Ij:(rows.take n).length=n:=by rw[sL];omega
     have hu: ∃A cap,u= .slice A (rows.take n).length cap/\n<=cap:=by
      have:=fN;simp only[Iq] at this;obtain⟨A,cap,e1,e2,_⟩:=this;exact⟨A,cap,e1,Zo⟩
     obtain⟨A,cap,rfl,uJ⟩:=hu;rw[Ij] at fN⊢;have hb:=Me (P:=P) (len:=n) (cap:=cap) w rl rh rm ‹bT 0 lo=_› ‹bT n _=_› ‹bT 0 (some mm)=_› c1 (D5 _) Zo c3 rfl;refine⟨I',_,Ef w (Bj ‹bF P t=_›) hi hb,G',E',?_⟩;simp only[Ie];rw[<-aZ];have hcut:=Iq.cut (rows:=rows.take n) (f':=true) (c':=hh) (l:=l) (h:=hh) (cap:=cap) (A:=A) (by rw[Ij];exact fN) c1 (by rw[Ij];exact c2) (D5 _) Zo (fun _=>rfl);rwa [Acq,AD c2] at hcut
    ·simp[Ia.run] at h
   ·split at h<;>simp[Ia.run] at h
 |ptr x g off=>
  simp only[kO] at h
  split at h
  case h_2=>simp[Ia.run] at h
  rename_i n e l _ _
  split at h
  case h_2=>simp[Ia.run] at h
  rename_i hh _;simp only[Ia.run] at h
  cases hx:hp x with
  |no g'=>rw[hx] at h;simp[Ia.run,It.head] at h
  |map _ _ _ _ _=>rw[hx] at h;simp[Ia.run,It.head] at h
  |arr g' sz e' rows f=>rw[hx] at h;simp[Ia.run,It.head] at h
  |box g' cells f=>
   rw[hx] at h;simp only[It.head] at h
   split at h
   case isFalse=>simp[Ia.run] at h
   rename_i hc;obtain⟨rfl,dE,hl,c1,c2,Uz⟩:=hc;simp only[Ia.run,Bc,Br] at h;obtain⟨rfl,rfl⟩:=h;have h3:=Dm rm;subst h3;obtain⟨⟨i,hi,aZ⟩,_⟩:=Lb Uz;simp only[Ie] at hr;obtain⟨hd,hg,hr⟩:=hr;obtain⟨b',c',hm,rfl⟩:=hr cells f hx;have hb:=C9 (P:=P) w false rl rh ‹bT 0 lo=_› ‹bT n _=_› c1 c2 (D5 _);refine⟨I,.slice (some (if n=l then⟨b',off,none⟩ else(⟨b',off,none⟩:Addr).add (l*i.size))) (hh - l) (n - l),?_,G,.refl _ _ _ _ _,?_⟩
   ·simp[Instr.sliceAt,Qi (X9 ‹A5 P t=_›),Instr.sureAddr,hb,sizeOf,typeInfo,hi]
   ·simp only[Ie]
    have lV:off+n*P.cellsOf e<=c':=by
     have ho:=G.obj x;rw[hx] at ho;obtain⟨b2,c2',us2,T2,mk2,o1,_,o3,o4,_,_⟩:=ho;rw[o1] at hm
     cases hm
     have q:=((Ae _ _).1 o4).1;have q2:=o3.2;have q3:cells.length<=us2.size:=Ve (Nat.le_of_eq q) (by rw[sL,wN];exact Nat.min_le_right ..);rw[<-q2];omega
    have hroom2:(if n=l then off else off+l*P.cellsOf e)+(n - l)*P.cellsOf e<=c':=by
     have iJ:l<=n:=Zo;obtain⟨d,rfl⟩:=Nat.exists_eq_add_of_le iJ;rw[tZ] at lV;rw[Nat.add_sub_cancel_left]
     split
     ·have:d=0:=Zo
      subst this;omega
     ·omega
    refine⟨hd,hg,fun cells' fz' rO=>⟨b',c',n - l,hm,Zo,⟨Zo,hroom2⟩,?_⟩⟩;rw[aZ];by_cases qL:n=l
    ·simp[qL]
    ·simp[qL,Bh]
 |dp cells off=>
  simp only[kO] at h
  split at h
  ·rename_i n e _
   split at h
   case isFalse=>simp[Ia.run] at h
   rename_i hc;obtain⟨hl,Uz,dE⟩:=hc;simp only[Ia.run,Bc,Br] at h;obtain⟨rfl,rfl⟩:=h;have h1:=Dm rl;have h2:=Dm rh;have h3:=Dm rm;subst h1 h2 h3;obtain⟨⟨i,hi,aZ⟩,_⟩:=Lb Uz;simp only[Ie,Iq] at hr;obtain⟨b,o,us,rfl,hb,GB,tD⟩:=hr;obtain⟨q1,q2,q3⟩:=Dw (P.cellsOf e) n (cells.drop off) hl;refine⟨I,.slice (some (if n=0 then⟨b,o+off,none⟩ else(⟨b,o+off,none⟩:Addr).add (0*i.size))) n n,?_,G,.refl _ _ _ _ _,?_⟩
   ·simp[Instr.sliceAt,Qi (X9 ‹A5 P t=_›),Instr.sureAddr,Instr.sliceBounds,sizeOf,typeInfo,hi]
   ·simp only[Ie,Iq]
    refine⟨_,n,by rw[q3],by rw[q3];exact D5 _,dE,fun _=>q3.symm,.inr ⟨b,o+off,(us.drop off).take (n*P.cellsOf e),?_,hb,fun j v hv=>?_,?_⟩⟩
    ·simp[Addr.add]
    ·rw[xZ] at hv
     split at hv
     ·rw[zD] at hv
      have:=GB _ v hv;rwa [<-tJ] at this
     ·cases hv
    ·rw[Ai,q1]
     exact⟨q2,(((Ax _ _).1 tD).drop off).take _⟩
  ·simp[Ia.run] at h
 |any|eptr|agg|tup|vec|fn|bsl|mp|dmp=>simp[kO,Ia.run] at h
end
end
section
open Go
variable {v l c a b:AV}{us:Array (Nat×Value)}{parts:List (Nat×AV)}{z:List AV}{t et:TypeId}{ul uc u:Value}
section
variable {P:Program}{I K:Nat->Prop}{m:Mp}{hp hp':Hp}{w:World}{k:Nat}
theorem GQ {ct:TypeId}{v:Value}(h:v.oneCell'=true):Iq I w (GR P ct v) v:=by
 unfold GR
 split
 ·simp only[Iq]
  exact⟨none,0,rfl,D5 _,by simp[maxLen],Zi,.inl trivial⟩
 ·simp only[Iq]
  exact⟨trivial,h⟩
theorem J9(h:jG P t=some z)(hl:z.length=P.cellsOf t)(hz:oX P t=true): ∃i v,P.info? t=some i/\i.zero=some v/\v.cells.size=i.size/\0<i.size/\P.cellsOf t=i.size/\P.bytesOf t=i.bytes/\Ue (Iq I w) z v.cells.toList:=by
 obtain⟨i,v,h1,h2,h3,h4,h5,h6⟩:=Sp hz;refine⟨i,v,h1,h2,h3,h4,h5,h6,?_⟩;unfold jG at h;have zH:U8 P t=some v.cells.toList:=by simp[U8,h1,h2]
 rw[zH] at h;simp only at h
 split at h
 ·rename_i cU
  simp only[Bc] at h;subst h;have Ij:(List.zipWith (GR P) (dO P t) v.cells.toList).length=v.cells.toList.length:=by rw[hl,h5,wN,h3]
  refine⟨Ij,fun j a u ha hu=>?_⟩;have xB:u.oneCell'=true:=nU.1 cU u (sM hu);rw[List.getElem?_zipWith] at ha
  cases hc:(dO P t)[j]? with
  |none=>rw[hc] at ha;cases ha
  |some c=>
   rw[hc,hu] at ha
   cases ha
   exact GQ xB
 ·cases h
theorem Vr {α:Type}(r:List α): ∀(n j:Nat),(List.replicate n r).flatten[j]?=if j<n*r.length then r[j%r.length]? else none
 |0,j=>Zi
 |n+1,j=>by
  rw[OG,Acb,Acz]
  split
  ·rename_i hj
   have:j<(n+1)*r.length:=by rw[tZ];omega
   rw[Ka this,Adl hj]
  ·rename_i hj
   rw[Vr r n (j - r.length)];by_cases hc:j - r.length<n*r.length
   ·rw[Ka hc,Ka (by rw[tZ];omega)]
    congr 1;exact(Nat.mod_eq_sub_mod Zo).symm
   ·rw[Jx hc,Jx (by rw[tZ];omega)]
theorem H7{zc:Array Value}(h:Ue (Iq I w) z zc.toList)(gX:0<zc.size)(l n:Nat)(hn:l*zc.size<=n):
  U3 I w zc.size (List.replicate l z) ((madeCells zc n).toList.take ((List.replicate l z).length*zc.size)):=by
 rw[Ai];have AF:z.length=zc.size:=by rw[h.1,wN]
 refine⟨fun r hr=>by rw[(List.mem_replicate.1 hr).2];exact AF,?_,fun j a u ha hu=>?_⟩
 ·have e1:(List.replicate l z).flatten.length=l*zc.size:=by simp[AF]
  have e2:(madeCells zc n).toList.length=n:=by simp[Ac3]
  rw[e1,sL,e2,Ab4];omega
 ·rw[Vr] at ha
  rw[AF] at ha
  split at ha
  ·rename_i hj
   rw[xZ] at hu
   split at hu
   ·have FV:j<n:=Zo
    simp only[madeCells] at hu;have hmod:j%zc.size<zc.size:=Nat.mod_lt _ gX;rw[Acd,Array.getElem?_map,Array.getElem?_range] at hu;simp only[FV,iW,wD,Bc] at hu;refine h.2 (j%zc.size) a u ha ?_;rw[<-hu,Acd,getElem!_pos zc (j%zc.size) hmod];exact FK hmod
   ·cases hu
  ·cases ha
theorem KL (G:Uj I K m hp w){y:Nm}(hy:y.d<=k)(hl:Ie k I m hp w l ul)(hc:Ie k I m hp w c uc)(h:(yD P y t l c).run hp=some (v,hp')):
  ∃u' w' m',(Instr.makeSlice t ul uc).run P w= .ok u' w'/\Uj I K m' hp' w'/\aL I K m hp w I m' hp' w'/\Ie k I m' hp' w' v u':=by
 unfold yD at h
 split at h
 ·rename_i kl nl kc nc
  simp only[Ie] at hl hc;subst hl hc
  split at h
  ·rename_i e he
   split at h
   ·rename_i z hz
    split at h
    case isFalse=>simp[Ia.run] at h
    rename_i vQ;obtain⟨h0,h1,h2,h3,h4,h5⟩:=vQ;obtain⟨i,zv,hi,jB,aZ,gX,cB,uV,cU⟩:=J9 (I:=I) (w:=w) hz h4 h5;have MA:(0:Int)<=nc:=Zo;obtain⟨C,rfl⟩:=Adu MA;obtain⟨L,rfl⟩:=Adu h0;have hb:(i.bytes:Int)*(C:Int)<=281474976710656:=by
     rw[uV] at h3;rw[Int.mul_comm];omega
    have hr:=run_make (P:=P) w t e i zv (Bj he) hi jB kl kc L C Zo Zo hb Zo;simp only[Aed] at hr h;have hLC:L<=C:=Zo;rw[cB] at h;have lG:=H7 (I:=I) (w:=w) cU (by rw[aZ];exact gX) L (C*i.size) (by rw[aZ];exact xY _ hLC);rw[aZ] at lG;have dE:C<=maxLen:=by simp only[maxLen];omega
    obtain⟨m',G',E',R'⟩:=Ln (us:=(madeCells zv.cells (C*i.size)).toList) (cap:=C) (mk:=(0,0)) (w1:=w.alloc (.cells (madeCells zv.cells (C*i.size)) e)) G hy (kT _) (by simp[Ac3]) (by simpa using hLC) dE lG h (.inl rfl);refine⟨_,_,m',hr,G',E',?_⟩;simpa using R'
   ·simp[Ia.run] at h
  ·simp[Ia.run] at h
 ·simp[Ia.run] at h
theorem Hna (G:Uj I K m hp w){j:Nat}(hl:Ie k I m hp w l ul)(hc:Ie k I m hp w c uc)(h:(uD P ⟨k,j,0⟩ t l c).run hp=some (v,hp')):
  ∃u' w' m',(Instr.makeSlice t ul uc).run P w= .ok u' w'/\Uj I K m' hp' w'/\aL I K m hp w I m' hp' w'/\Ie k I m' hp' w' v u':=by
 unfold uD at h
 split at h
 ·rename_i kl nl kc nc
  simp only[Ie] at hl hc;subst hl hc
  split at h
  ·rename_i e he
   split at h
   ·rename_i z hz
    split at h
    case isFalse=>simp[Ia.run] at h
    rename_i vQ;obtain⟨h0,rfl,h2,h3,h4,h5⟩:=vQ;obtain⟨i,zv,hi,jB,aZ,gX,cB,uV,cU⟩:=J9 (I:=I) (w:=w) hz h4 h5;obtain⟨C,rfl⟩:=Adu h0;have hb:(i.bytes:Int)*(C:Int)<=281474976710656:=by
     rw[uV] at h3;rw[Int.mul_comm];omega
    have hr:=run_make (P:=P) w t e i zv (Bj he) hi jB kl kc C C Zo Zo hb Zo;simp only[Aed] at hr h;have lG:=H7 (I:=I) (w:=w) cU (by rw[aZ];exact gX) C (C*i.size) (by rw[aZ];exact D5 _);rw[aZ,Ai,Ab4] at lG;have vP:(madeCells zv.cells (C*i.size)).toList.take (C*i.size)=(madeCells zv.cells (C*i.size)).toList:=Kb (by simp[Ac3]);rw[vP] at lG;have dE:C<=maxLen:=by simp only[maxLen];omega
    simp only[Ia.run,Bc,Br] at h;obtain⟨rfl,rfl⟩:=h;obtain⟨G2,E2⟩:=G.alloc (x:=⟨k,j,0⟩) (o:= .box ((hp ⟨k,j,0⟩).gen+1) (List.replicate C z).flatten false) (.cells (madeCells zv.cells (C*i.size)) e) (C*i.size) (by simp[It.gen])
     (fun w' m' hb hm E=>⟨w.heap.size,C*i.size,_,e,(0,0),hm,hb,⟨kT _,by simp[Ac3]⟩,by rw[Nq lG.2];exact(Ae _ _).2 (lG.2.imp fun a u h=>Ie.mono E _ a u (Iq.rep h)),fun h=>(by cases h),fun _=>G.fresh⟩) (.inl rfl)
    refine⟨_,_,_,hr,by simpa using G2,by simpa using E2,?_⟩;simp only[Ie];exact⟨D5 _,by rw[Ad];exact D5 _,fun cells fz hx=>⟨w.heap.size,C*i.size,C,Ad _ _ _,D5 _,⟨dE,by rw[cB];omega⟩,Zi⟩⟩
   ·simp[Ia.run] at h
  ·simp[Ia.run] at h
 ·simp[Ia.run] at h
/-! ### built -/
theorem Jwa (vs:List Value)(off:Nat): ∀(n:Nat) (cells:Array Value),off+n+vs.length<=cells.size->
  ((vs.zipIdx n).foldl (fun cs (c,j)=>cs.setIfInBounds (off+j) c) cells).toList=cells.toList.take (off+n)++vs++cells.toList.drop (off+n+vs.length):=by
 induction vs with
 |nil=>intro n cells _;simp
 |cons v vs ih=>
  intro n cells h;simp only[wP] at h;rw[List.zipIdx_cons,List.foldl_cons,ih (n+1) _ (by simp;omega)];have e:=list_seg_step cells.toList (off+n) v vs (by simp;omega);simpa[Array.toList_setIfInBounds,tJ] using e
theorem Rw {place:Nat->Option (Nat×Nat)}{cells:Array Value}{i:Nat}{v:Value}{rest:List (Nat×Value)}{off size:Nat}(hp:place i=some (off,size))(hs:v.cells.size=size)(hl:off+v.cells.size<=cells.size):
  Instr.fill place cells ((i,v)::rest)=Instr.fill place (cells.toList.take off++v.cells.toList++cells.toList.drop (off+v.cells.size)).toArray rest:=by
 simp only[Instr.fill,hp];rw[Jx (by simp;omega)];congr 1;apply sI;have:=Jwa v.cells.toList off 0 cells (by simpa using hl);simp only[Ac5,wN] at this;rw[<-this,<-Array.foldl_toList];simp
def eO (k:Nat)(I:Nat->Prop)(m:Mp)(hp:Hp)(w:World):List (Nat×AV)->List (Nat×Value)->Prop
 |[],[]=>True
 |(i,a)::as,(j,u)::us=>i=j/\Ue (Ie k I m hp w) (cK a) u.cells.toList/\eO k I m hp w as us
 |_,_=>False
theorem Tv {place:Nat->Option (Nat×Nat)}: ∀{parts:List (Nat×AV)} {us:List (Nat×Value)} {cells out:List AV} {cs:Array Value},eO k I m hp w parts us->Ue (Ie k I m hp w) cells cs.toList->nG place cells parts=some out->
  ∃cs',Instr.fill place cs us=some cs'/\Ue (Ie k I m hp w) out cs'.toList
 |[],[],cells,out,cs,_,hc,h=>by
  simp only[nG,Bc] at h;subst h;exact⟨cs,rfl,hc⟩
 |[],_::_,_,_,_,hp,_,_=>by simp[eO] at hp
 |(i,a)::as,[],_,_,_,hp,_,_=>by simp[eO] at hp
 |(i,a)::as,(j,u)::us,cells,out,cs,hpr,hc,h=>by
  obtain⟨rfl,h1,h2⟩:=hpr;simp only[nG] at h
  split at h
  ·cases h
  ·rename_i off size hpl
   split at h
   ·rename_i vQ
    obtain⟨hs,hl⟩:=vQ;have hl1:=h1.1;have pP:=hc.1;simp only[wN] at hl1 pP;obtain⟨cs',h3,h4⟩:=Tv (cs:=(cs.toList.take off++u.cells.toList++cs.toList.drop (off+u.cells.size)).toArray) h2 (by
     have:=hc.splice h1 off hl;simpa using this) h
    exact⟨cs',by rw[Rw hpl Zo Zo];exact h3,h4⟩
   ·cases h
theorem Ksa(hr:eO k I m hp w parts us.toList)(h:(uN P t parts).run hp=some (v,hp')):
  hp'=hp/\ ∃u',(Instr.build t us).run P w= .ok u' w/\Ie k I m hp w v u':=by
 unfold uN at h
 split at h
 case isFalse=>simp[Ia.run] at h
 rename_i Uz;simp only[Bz,Ed] at Uz;obtain⟨hz,Uz⟩:=Uz;obtain⟨zl,AF⟩:=X2.1 hz;unfold U8 at AF
 cases hi:P.info? t with
 |none=>simp[hi] at AF
 |some it=>
  cases jB:it.zero with
  |none=>simp[hi,jB] at AF
  |some z=>
   have hzl':U8 P t=some z.cells.toList:=by simp[U8,hi,jB]
   split at h
   case h_2=>simp[Ia.run] at h
   rename_i cs hf;simp only[Ia.run,Bc,Br] at h;obtain⟨rfl,rfl⟩:=h;refine⟨rfl,?_⟩;rw[hzl'] at hf;simp only[X1] at hf;have hz0:Ue (Ie k I m hp w) (z.cells.toList.map .sc) z.cells.toList:=by
    refine⟨Zi,fun j a u ha hu=>?_⟩;rw[qY,hu] at ha
    cases ha
    simp only[Ie]
   obtain⟨cs',h1,h2⟩:=Tv hr hz0 hf;have fin:P.built t us.toList=some cs'-> ∃u',(Instr.build t us).run P w= .ok u' w/\Ie k I m hp w (.agg cs) u':=fun hb=>
    ⟨.agg cs',run_build w t us cs' hb,by simp only[Ie];exact⟨cs'.toList,rfl,(Ae _ _).2 h2⟩⟩
   cases hu:P.underlying t with
   |none=>rw[hu] at Uz;simp at Uz
   |some d=>
    rw[hu] at Uz
    cases d with
    |array n e=>
     simp only at Uz;obtain⟨ie,hie⟩:=X2.1 Uz;have ha:A5 P t=some (n,e):=by simp[A5,hu]
     rw[ha] at h1;refine fin ?_;simp only[Program.built,hi,hu,jB,hie];rw[<-h1];congr 1
     funext i
     simp[Program.cellsOf,hie]
    |struct fs=>
     simp only at Uz;have ha:A5 P t=none:=by simp[A5,hu]
     rw[ha] at h1;refine fin ?_;have hm: ∀l:List Field,(l.all fun f=>(P.info? f.type).isSome)=true->l.mapM (fun f=>(P.info? f.type).map fun i=>(f.offset,i.size))=some (l.map fun f=>(f.offset,P.cellsOf f.type)):=by
      intro l hl
      induction l with
      |nil=>rfl
      |cons f l ih=>
       simp only[uZ,Ed] at hl;obtain⟨ii,hii⟩:=X2.1 hl.1;rw[Adg,ih hl.2,hii];simp[Program.cellsOf,hii]
     simp only[Program.built,hi,hu,jB,hm _ Uz];rw[<-h1];congr 1
     funext i
     simp[eU,hu]
     cases fs[i]?<;>rfl
    |_=>simp at Uz
/-! ### equal structs -/
def Mu (P:Program)(E:TypeId->Bool):Prop:=
 ∀t,E t=true-> ∀(w:World) (x y:Operand) (us vs:List Value) (b:Bool),cN P (dO P t) (us.map .sc)=true->cN P (dO P t) (vs.map .sc)=true->sU (us.map .sc) (vs.map .sc)=some b->
  (do eqGuard .eql t x y (.agg ⟨us⟩) (.agg ⟨vs⟩);binOp .eql t (.agg ⟨us⟩) (.agg ⟨vs⟩):Sem Value).run P w= .ok (.bool b) w/\
  (do eqGuard .neq t x y (.agg ⟨us⟩) (.agg ⟨vs⟩);binOp .neq t (.agg ⟨us⟩) (.agg ⟨vs⟩):Sem Value).run P w= .ok (.bool (!b)) w
theorem eqV_sc{r:Bool}(h:GH a b=some r): ∃u v,a= .sc u/\b= .sc v:=by
 unfold GH at h
 split at h
 ·exact⟨_,_,rfl,rfl⟩
 ·exact⟨_,_,rfl,rfl⟩
 ·exact⟨_,_,rfl,rfl⟩
 ·cases h
theorem Asa : ∀{xs ys:List AV} {us vs:List Value} {b:Bool},sU xs ys=some b->Ue (Ie k I m hp w) xs us->Ue (Ie k I m hp w) ys vs->xs=us.map .sc/\ys=vs.map .sc
 |[],[],us,vs,b,_,h1,h2=>by
  have e1:us=[]:=Kw (by rw[<-h1.1];rfl);have e2:vs=[]:=Kw (by rw[<-h2.1];rfl);subst e1 e2;exact⟨rfl,rfl⟩
 |[],_::_,us,vs,b,h,_,_=>by simp[sU] at h
 |_::_,[],us,vs,b,h,_,_=>by simp[sU] at h
 |x::xs,y::ys,us,vs,b,h,h1,h2=>by
  obtain⟨u,us',rfl,a1,a2⟩:=h1.cons_inv;obtain⟨v,vs',rfl,b1,b2⟩:=h2.cons_inv;simp only[sU] at h
  split at h
  ·rename_i r s hv hl
   obtain⟨e1,e2⟩:=Asa hl a2 b2;obtain⟨u',v',rfl,rfl⟩:=eqV_sc hv;simp only[Ie] at a1 b1;subst a1 b1;exact⟨by rw[e1];rfl,by rw[e2];rfl⟩
  ·cases h
theorem Eka (w:World)(op:BinOp)(t:TypeId)(x y:Operand)(kd kd':IntKind)(n n':Int):(eqGuard op t x y (.int kd n) (.int kd' n')).run P w= .ok () w:=by
 cases op<;>simp[eqGuard]
theorem Tr (w:World)(op:BinOp)(t:TypeId)(x y:Operand)(s s':ByteArray):(eqGuard op t x y (.string s) (.string s')).run P w= .ok () w:=by
 cases op<;>simp[eqGuard]
theorem Aja (w:World)(op:BinOp)(t:TypeId)(x y:Operand)(p q:Bool):(eqGuard op t x y (.bool p) (.bool q)).run P w= .ok () w:=by
 cases op<;>simp[eqGuard]
theorem Mv (w:World)(d:Nat)(p:Option Nat){kt:TypeId}(hu:P.underlying t=some (.map kt et)):(Op.equalIn (d+1) t (.map p) (.map none)).run P w= .ok p.isNone w:=by
 cases p<;>simp[Op.equalIn,Qi hu]
theorem Ke (w:World)(d:Nat)(a:Addr)(n c:Nat)(hu:P.underlying t=some (.slice et)):(Op.equalIn (d+1) t (.slice (some a) n c) (.slice none 0 0)).run P w= .ok false w:=by
 simp[Op.equalIn,Qi hu]
def dS (P:Program)(E:cD):Prop:=Mu P E.eq/\ ∀l,E.yl l=false
theorem dS.dry {P:Program}{E:cD}(h:Mu P E.eq):dS P E.dry:=⟨h,fun _=>rfl⟩
theorem bin_ok {E:TypeId->Bool}(hE:Mu P E){op:BinOp}{x y:Operand}{u':Value}(ha:Ie k I m hp w a u)(hb:Ie k I m hp w b u')(h:Cka P E op t a b=some v):
  ∃r,(do eqGuard op t x y u u';binOp op t u u':Sem Value).run P w= .ok r w/\Ie k I m hp w v r:=by
 unfold Cka at h
 split at h
 ·rename_i kd n kd' n'
  simp only[Ie] at ha hb;subst ha hb;have hg:=Eka (P:=P) w op t x y kd kd' n n'
  split at h
  ·split at h
   ·cases h
   ·rename_i hn
    simp only[Bc] at h;subst h;refine⟨.int kd (kd.wrap (n*2^min n'.toNat kd.bits)),?_,by simp only[Ie]⟩;simp[hg,binOp,Op.shift,hn]
  ·split at h
   ·cases h
   ·rename_i hn
    simp only[Bc] at h;subst h;refine⟨.int kd (n.fdiv (2^min n'.toNat kd.bits)),?_,by simp only[Ie]⟩;simp[hg,binOp,Op.shift,hn]
  ·rename_i h1 h2
   split at h
   ·rename_i hk
    subst hk
    cases hv:vW op kd n n' with
    |none=>rw[hv] at h;cases h
    |some r=>
     rw[hv] at h;simp only[wD,Bc] at h;subst h;exact⟨r,by simp[mG,hg,J8a hv t ⟨h1,h2⟩],by simp only[Ie]⟩
   ·cases h
 ·rename_i s s'
  simp only[Ie] at ha hb;subst ha hb;have hg:=Tr (P:=P) w op t x y s s'
  cases hv:vU op s s' with
  |none=>rw[hv] at h;cases h
  |some r=>
   rw[hv] at h;simp only[wD,Bc] at h;subst h;exact⟨r,by simp[mG,hg,J6a hv t],by simp only[Ie]⟩
 ·rename_i p q
  simp only[Ie] at ha hb;subst ha hb;have hg:=Aja (P:=P) w op t x y p q
  split at h
  ·rename_i xM
   have hu:P.underlying t=some .bool:=by
    unfold xU at xM
    split at xM
    ·rename_i he;exact he
    ·cases xM
   split at h<;>simp only[Bc,reduceCtorEq] at h
   ·subst h
    refine⟨.bool (p==q),?_,by simp only[Ie]⟩;simp only[mG,hg,tH,binOp];simp[Op.equal,Op.maxDepth,Aee (P:=P) w 9999 t p q hu]
   ·subst h
    refine⟨.bool (p !=q),?_,by simp only[Ie]⟩;simp only[mG,hg,tH,binOp];simp[Op.equal,Op.maxDepth,Aee (P:=P) w 9999 t p q hu]
    cases p<;>cases q<;>rfl
  ·cases h
 ·rename_i p
  simp only[Ie] at ha hb;subst ha hb;have hg:(eqGuard op t x y (.map p) (.map none)).run P w= .ok () w:=by cases op<;>simp[eqGuard]
  split at h
  ·rename_i xM
   obtain⟨kt,et,hu⟩: ∃kt et,P.underlying t=some (.map kt et):=by
    unfold mapB at xM
    split at xM
    ·rename_i he;exact⟨_,_,he⟩
    ·cases xM
   have hq:(Op.equal t (.map p) (.map none)).run P w= .ok p.isNone w:=by
    exact Mv w 9999 p hu
   split at h<;>simp only[Bc,reduceCtorEq] at h
   ·subst h
    refine⟨.bool p.isNone,?_,by simp only[Ie]⟩;simp only[mG,hg,tH,binOp];simp[hq]
   ·subst h
    refine⟨.bool p.isSome,?_,by simp only[Ie]⟩;simp only[mG,hg,tH,binOp];simp[hq]
  ·cases h
 ·rename_i f sz r0 rs0
  simp only[Ie,Iq] at ha hb;subst hb;obtain⟨A,cap,rfl,_,_,_,ha⟩:=ha;obtain⟨b0,o0,us0,rfl,_⟩: ∃b o us,A=some ⟨b,o,none⟩/\True:=by
   rcases ha with ha|⟨b,o,us,h1,_⟩
   ·cases ha
   ·exact⟨b,o,us,h1,trivial⟩
  generalize (r0::rs0).length=nl at*;have hg:(eqGuard op t x y (.slice (some ⟨b0,o0,none⟩) nl cap) (.slice none 0 0)).run P w= .ok () w:=by cases op<;>simp[eqGuard]
  split at h
  ·rename_i xM
   obtain⟨et,hu⟩: ∃et,P.underlying t=some (.slice et):=by
    unfold bF at xM
    split at xM
    ·rename_i he;exact⟨_,he⟩
    ·cases xM
   have hq:(Op.equal t (.slice (some ⟨b0,o0,none⟩) nl cap) (.slice none 0 0)).run P w= .ok false w:=by
    exact Ke w 9999 _ _ _ hu
   split at h<;>simp only[Bc,reduceCtorEq] at h
   ·subst h
    refine⟨.bool false,?_,by simp only[Ie]⟩;simp only[mG,hg,tH,binOp];simp[hq]
   ·subst h
    refine⟨.bool true,?_,by simp only[Ie]⟩;simp only[mG,hg,tH,binOp];simp[hq]
  ·cases h
 ·rename_i xs ys
  simp only[Ie] at ha hb;obtain⟨us,rfl,ha⟩:=ha;obtain⟨vs,rfl,hb⟩:=hb
  split at h
  ·rename_i hEt
   obtain⟨hEt,mY,Ic⟩:=hEt
   split at h
   ·rename_i r he
    simp only[Bc] at h;subst h;obtain⟨e1,e2⟩:=Asa he ((Ae _ _).1 ha) ((Ae _ _).1 hb);rw[e1,e2] at he;rw[e1] at mY;rw[e2] at Ic;exact⟨_,(hE t hEt w x y us vs r mY Ic he).1,by simp only[Ie]⟩
   ·rename_i r he
    simp only[Bc] at h;subst h;obtain⟨e1,e2⟩:=Asa he ((Ae _ _).1 ha) ((Ae _ _).1 hb);rw[e1,e2] at he;rw[e1] at mY;rw[e2] at Ic;exact⟨_,(hE t hEt w x y us vs r mY Ic he).2,by simp only[Ie]⟩
   ·cases h
  ·cases h
 ·cases h
theorem un_ok {op:UnOp}(ha:Ie k I m hp w a u)(h:MT op a=some v): ∃r,(Op.unary op u).run P w= .ok r w/\Ie k I m hp w v r:=by
 unfold MT at h
 split at h
 ·simp only[Ie] at ha
  subst ha
  split at h<;>simp only[Bc,reduceCtorEq] at h<;>subst h
  ·exact⟨_,rfl,by simp only[Ie]⟩
  ·exact⟨_,rfl,by simp only[Ie]⟩
 ·simp only[Ie] at ha
  subst ha
  split at h<;>simp only[Bc,reduceCtorEq] at h
  subst h;exact⟨_,rfl,by simp only[Ie]⟩
 ·cases h
/-! ### lists that are built -/
theorem eO.mono {I':Nat->Prop}{m':Mp}{w':World}(E:aL I K m hp w I' m' hp' w'): ∀{as:List (Nat×AV)} {us:List (Nat×Value)},eO k I m hp w as us->eO k I' m' hp' w' as us
 |[],[],_=>trivial
 |[],_::_,h=>by simp[eO] at h
 |(_,_)::_,[],h=>by simp[eO] at h
 |(_,_)::_,(_,_)::_,⟨h1,h2,h3⟩=>⟨h1,h2.imp fun a u h=>Ie.mono E k a u h,h3.mono E⟩
theorem Gy {e:TypeId}{ie:TypeInfo}(hie:P.info? e=some ie): ∀{parts:List (Nat×AV)} {us:List (Nat×Value)} {I:Nat->Prop} {hp hp':Hp} {rows rows':List (List AV)} {cs:Array Value},Uj I K m hp w->eO k I m hp w parts us->
  eX ie.size rows->Ue (Iq I w) rows.flatten cs.toList->(fH P e parts rows).run hp=some (rows',hp')->
  ∃I' cs',Uj I' K m hp' w/\aL I K m hp w I' m hp' w/\Instr.fill (fun i=>some (i*ie.size,ie.size)) cs us=some cs'/\eX ie.size rows'/\Ue (Iq I' w) rows'.flatten cs'.toList/\rows'.length=rows.length
 |[],[],I,hp,hp',rows,rows',cs,G,_,he,ha,h=>by
  simp only[fH,Ia.run,Bc,Br] at h;obtain⟨rfl,rfl⟩:=h;exact⟨I,cs,G,.refl _ _ _ _ _,rfl,he,ha,rfl⟩
 |[],_::_,_,_,_,_,_,_,_,hp,_,_,_=>by simp[eO] at hp
 |(i,a)::as,[],_,_,_,_,_,_,_,hp,_,_,_=>by simp[eO] at hp
 |(i,a)::as,(j,u)::us,I,hp,hp',rows,rows',cs,G,hpr,he,ha,h=>by
  obtain⟨rfl,h1,h2⟩:=hpr;have cB:P.cellsOf e=ie.size:=by simp[Program.cellsOf,hie]
  simp only[fH] at h
  split at h
  case isFalse=>simp[Ia.run] at h
  rename_i hc;obtain⟨hl,hi⟩:=hc;obtain⟨r,hp1,r1,h3⟩:=Aa h;obtain⟨I1,G1,E1,d1⟩:=Eo G h1 r1;have Ij:u.cells.size=ie.size:=by have:=h1.1;simp at this;omega
  have hrl:r.length=ie.size:=by have:=d1.1;simp at this;omega
  have aI:i*ie.size+ie.size<=rows.length*ie.size:=by
   have:=xY ie.size (show i+1<=rows.length from hi);rw[tZ,Nat.one_mul] at this;exact this
  have lY:cs.size=rows.length*ie.size:=by have:=ha.1;rw[he.length] at this;simpa using this.symm
  have xN:Ue (Iq I1 w) rows.flatten cs.toList:=ha.imp fun a u h=>Iq.mono E1.isub (fun _ _=>rfl) _ _ h
  have zI:Ue (Iq I1 w) (rows.set i r).flatten (cs.toList.take (i*ie.size)++u.cells.toList++cs.toList.drop (i*ie.size+u.cells.size)):=by
   rw[Mm he hi];have a5:=((xN.take (i*ie.size)).append d1).append (xN.drop (i*ie.size+ie.size));rwa [Ij]
  have hpr2:eO k I1 m hp1 w as us:=h2.mono E1;obtain⟨I2,cs',G2,E2,f1,f2,f3,f4⟩:=Gy hie (cs:=(cs.toList.take (i*ie.size)++u.cells.toList++cs.toList.drop (i*ie.size+u.cells.size)).toArray) G1 hpr2 (he.set hrl) (by simpa using zI) h3;refine⟨I2,cs',G2,E1.trans E2,?_,f2,f3,by rw[f4,List.length_set]⟩;rw[Rw (off:=i*ie.size) (size:=ie.size) rfl Ij Zo];exact f1
theorem Qd (G:Uj I K m hp w){y:Nm}(hy:y.d<=k){len:Nat}(hr:eO k I m hp w parts us.toList)(h:(jU P y t len parts).run hp=some (v,hp')):
  ∃u' w' I' m',(Instr.buildSlice t len us).run P w= .ok u' w'/\Uj I' K m' hp' w'/\aL I K m hp w I' m' hp' w'/\Ie k I' m' hp' w' v u':=by
 unfold jU at h
 split at h
 ·rename_i e he
  split at h
  ·rename_i z hz
   split at h
   case isFalse=>simp[Ia.run] at h
   rename_i hc;obtain⟨AF,hzo,aZ,dE⟩:=hc;obtain⟨i,zv,hi,jB,zH,gX,cB,uV,cU⟩:=J9 (I:=I) (w:=w) hz AF hzo;obtain⟨rows,hp1,r1,h2⟩:=Aa h;clear h;have lG:=H7 (I:=I) (w:=w) cU (by rw[zH];exact gX) len (len*i.size) (by rw[zH];exact D5 _);rw[zH,Ai,Ab4] at lG;have vP:(madeCells zv.cells (len*i.size)).toList.take (len*i.size)=(madeCells zv.cells (len*i.size)).toList:=Kb (by simp[Ac3]);rw[vP] at lG;obtain⟨I1,cs',G1,E1,f1,f2,f3,f4⟩:=Gy hi G hr lG.1 lG.2 r1;rw[Ab4] at f4;rw[cB] at h2 aZ;have zR:cs'.size=len*i.size:=by have:=f3.1;rw[f2.length,f4] at this;simpa using this.symm
   obtain⟨m',G',E',R'⟩:=Ln (us:=cs'.toList) (cap:=len) (mk:=(0,0)) (w1:=w.alloc (.cells cs' e)) G1 hy (kT _) (by simpa using zR) Zo dE
    (by rw[Ai,f4,Kb (by simp[zR])];exact⟨f2,f3⟩) h2 (.inl rfl)
   rw[f4] at R';refine⟨_,_,I1,m',?_,G',E1.trans E',R'⟩;have hlim: ¬(16777216<len*i.size):=Zo;have rW:Instr.fill (fun j=>some (j*i.size,i.size)) (Array.map (fun x=>zv.cells[x%zv.cells.size]!) (Array.range (len*i.size))) us.toList=some cs':=f1;by_cases h0:len*i.size=0
   ·have h00:Array.map (fun x=>zv.cells[x%zv.cells.size]!) (Array.range (len*i.size))= #[]:=by rw[h0];apply sI;simp
    rw[h00] at rW;have h0':len=0\/i.size=0:=Nat.mul_eq_zero.1 h0;simp[Instr.buildSlice,Qi (Bj he),sizeOf,typeInfo,hi,h0,newRow,Array.range_zero',rW]
   ·simp[Instr.buildSlice,Qi (Bj he),sizeOf,typeInfo,zeroValue,hi,jB,hlim,h0,newRow,rW]
  ·simp[Ia.run] at h
 ·simp[Ia.run] at h
end
end
section
open Go
variable {x:AV}{u:Value}
section
variable {P:Program}{I K:Nat->Prop}{m:Mp}{hp hp':Hp}{w:World}{k:Nat}
theorem Hm : ∀{rows:List (List AV)} {l:List UInt8} {news:List Value},dF rows=some l->Ue (Iq I w) rows.flatten news-> ∃ns:List Int,news=ns.map (Value.int .u8)/\l=ns.map fun n=>UInt8.ofNat n.toNat
 |[],l,news,h,ha=>by
  simp only[dF,Bc] at h;subst h;have:news=[]:=Kw (by rw[<-ha.1];rfl);exact⟨[],this,rfl⟩
 |r::rs,l,news,h,ha=>by
  unfold dF at h
  split at h
  ·rename_i cE;cases cE
  ·rename_i n rs' cE
   cases cE
   cases hr:dF rs with
   |none=>rw[hr] at h;cases h
   |some l'=>
    rw[hr] at h;simp only[wD,Bc] at h;obtain⟨v,vs,rfl,h1,h2⟩:=Ue.cons_inv (show Ue (Iq I w) (.sc (.int .u8 n)::rs.flatten) news by simpa using ha);obtain⟨ns,e1,e2⟩:=Hm hr h2;simp only[Iq] at h1;exact⟨n::ns,by rw[h1.1,e1];rfl,by rw[<-h,e2];rfl⟩
  ·cases h
theorem Y5{sz:Nat}{rows:List (List AV)}(hx0: ∀s,x≠ .sc (.string s))(hr:Ie k I m hp w x u)(h:(gV x).run hp=some ((sz,rows),hp')):
  ∃A cap,u= .slice A rows.length cap/\(A=none->rows=[]):=by
 cases x with
 |sl f sz' rows'=>
  simp only[gV,Ia.run,Bc,Br] at h;obtain⟨⟨rfl,rfl⟩,rfl⟩:=h;simp only[Ie,Iq] at hr;obtain⟨A,cap,rfl,h1,h2,_,h4⟩:=hr;refine⟨A,cap,rfl,fun hA=>?_⟩;rcases h4 with h4|⟨b,o,us,hb,_⟩
  ·exact h4
  ·rw[hb] at hA;cases hA
 |own y g n=>
  simp only[gV,Ia.run] at h
  cases hx:hp y with
  |no g'=>rw[hx] at h;simp[Ia.run] at h
  |map _ _ _ _ _=>rw[hx] at h;simp[Ia.run] at h
  |box g' c f=>rw[hx] at h;simp[Ia.run] at h
  |arr g' sz' e rows' f=>
   rw[hx] at h;simp only at h
   split at h
   ·rename_i hc
    obtain⟨rfl,hn⟩:=hc;simp only[Ia.run,Bc,Br] at h;obtain⟨⟨rfl,rfl⟩,rfl⟩:=h;simp only[Ie] at hr;obtain⟨_,_,hr⟩:=hr;obtain⟨_,hr⟩:=hr sz' e rows' f hx;have hl:(rows'.take n).length=n:=by rw[sL];omega
    rcases hr with⟨h0,rfl,rfl⟩|⟨b,cap,hm,rfl⟩
    ·exact⟨none,0,Zi,fun _=>Zi⟩
    ·exact⟨_,cap,by rw[hl],fun hA=>(by cases hA)⟩
   ·simp[Ia.run] at h
 |sc v=>
  simp only[Ie] at hr;subst hr;unfold gV at h
  split at h
  all_goals first|(simp[Ia.run] at h;done)|skip
  ·rename_i cE;simp at cE
  ·rename_i cE;simp at cE
  ·rename_i cE
   simp only[AV.sc.injEq] at cE;subst cE;simp only[Ia.run,Bc,Br] at h;obtain⟨⟨rfl,rfl⟩,rfl⟩:=h;exact⟨none,0,rfl,fun _=>rfl⟩
  ·rename_i s cE
   exact absurd cE (hx0 s)
  ·rename_i cE;simp at cE
 |bsl x g sz' off n=>
  simp only[gV,Ia.run] at h
  cases hx:hp x with
  |no g'=>rw[hx] at h;simp[Ia.run] at h
  |map _ _ _ _ _=>rw[hx] at h;simp[Ia.run] at h
  |arr g' sz e rows f=>rw[hx] at h;simp[Ia.run] at h
  |box g' cells f=>
   rw[hx] at h;simp only at h
   split at h
   case isFalse=>simp[Ia.run] at h
   rename_i hc;obtain⟨rfl,hl,fN⟩:=hc;simp only[Ia.run,Bc,Br] at h;obtain⟨⟨rfl,rfl⟩,rfl⟩:=h;simp only[Ie] at hr;obtain⟨_,_,hr⟩:=hr;obtain⟨b,c',cap,hm,h4,h5,rfl⟩:=hr cells f hx;obtain⟨_,_,q3⟩:=Dw sz' n (cells.drop off) (by rw[AT];omega);exact⟨_,cap,by rw[q3],Zi⟩
 |any|dp|ptr|eptr|agg|tup|vec|fn|mp|dmp=>simp[gV,Ia.run] at h
theorem M5 {t:TypeId}{kd:IntKind}(h:oD P t=some kd):P.underlying t=some (.int kd):=by
 unfold oD at h
 split at h
 ·rename_i k' he;cases h;exact he
 ·cases h
theorem Xd (s:ByteArray)(cap:Nat)(h:s.size<=cap):
  U3 I w 1 (s.data.toList.map fun b=>[.sc (.int .u8 b.toNat)]) ((bytesRow s cap).toList.take ((s.data.toList.map fun b=>[AV.sc (.int .u8 b.toNat)]).length*1))/\(bytesRow s cap).toList.length=cap*1:=by
 have hf: ∀l:List UInt8,(l.map fun b=>[AV.sc (.int .u8 b.toNat)]).flatten=l.map fun b=>AV.sc (.int .u8 b.toNat):=by
  intro l;induction l with
  |nil=>rfl
  |cons a l ih=>simp[ih]
 have ha:Ue (Iq I w) (s.data.toList.map fun b=>AV.sc (.int .u8 b.toNat)) (s.data.toList.map fun b=>Value.int .u8 b.toNat):=by
  refine⟨Zi,fun j a u h1 h2=>?_⟩;rw[qY] at h1 h2
  cases hc:s.data.toList[j]? with
  |none=>rw[hc] at h1;cases h1
  |some b=>rw[hc] at h1 h2;cases h1;cases h2;simp only[Iq];exact⟨trivial,rfl⟩
 have aZ:s.data.size=s.size:=rfl;have iP:(bytesRow s cap).toList=(s.data.toList.map fun b=>Value.int .u8 b.toNat)++List.replicate (cap - s.size) (.int .u8 0):=by simp[bytesRow]
 rw[iP];constructor
 ·rw[Ai,hf]
  refine⟨fun r hr=>?_,?_⟩
  ·obtain⟨b,_,rfl⟩:=Adk.1 hr;rfl
  ·rw[Acv Zi];exact ha
 ·simp[aZ];omega
theorem Aua (G:Uj I K m hp w){y:Nm}(hy:y.d<=k){src dst:TypeId}{v:AV}(hr:Ie k I m hp w x u)(h:(oQ P y src dst x).run hp=some (v,hp')):
  ∃u' w' m',(convert src dst u).run P w= .ok u' w'/\Uj I K m' hp' w'/\aL I K m hp w I m' hp' w'/\Ie k I m' hp' w' v u':=by
 unfold oQ at h
 split at h
 ·rename_i kd n
  simp only[Ie] at hr;subst hr
  split at h
  ·rename_i kd' hk
   split at h
   ·rename_i hs
    simp only[Ia.run,Bc,Br] at h;obtain⟨rfl,rfl⟩:=h;obtain⟨d,hd⟩:=X2.1 hs;refine⟨.int kd' (kd'.wrap n),w,m,?_,G,.refl _ _ _ _ _,by simp only[Ie]⟩;simp[convert,Qi hd,Qi (M5 hk),Conv.intToInt]
   ·simp[Ia.run] at h
  ·simp[Ia.run] at h
 ·rename_i s
  simp only[Ie] at hr;subst hr
  split at h
  case isFalse=>simp[Ia.run] at h
  rename_i hs
  split at h
  ·rename_i hd
   simp only[Ia.run,Bc,Br] at h;obtain⟨rfl,rfl⟩:=h;refine⟨.string s,w,m,?_,G,.refl _ _ _ _ _,by simp only[Ie]⟩;simp[convert,Qi (Ga hs),Qi (Ga hd)]
  ·split at h
   ·rename_i e he
    split at h
    ·rename_i hc
     obtain⟨h1,h2,h3⟩:=hc;have Uk:=run_bytes_of_string (P:=P) w src dst e s (Ga hs) (Bj he) (M5 h1);have wI:=grownCap_ge w s.size 0 e;have aI:=Ads w s.size 0 e h3;obtain⟨a1,a2⟩:=Xd (I:=I) (w:=w) s (grownCap w s.size 0 e) wI;have Ij:(s.data.toList.map fun b=>[AV.sc (.int .u8 b.toNat)]).length=s.size:=Zi;obtain⟨m',G',E',R'⟩:=Ln (w:=w) (us:=(bytesRow s (grownCap w s.size 0 e)).toList) (cap:=grownCap w s.size 0 e) (mk:=((bytesRow s (grownCap w s.size 0 e)).size,(bytesRow s (grownCap w s.size 0 e)).size+1))
      G hy (fun j hj=>by simp only[Array.toArray_toList] at hj;simp;omega) a2 (by rw[Ij];exact wI) aI a1 h (.inr rfl)
     rw[Ij] at R';exact⟨_,_,m',Uk,G',E',R'⟩
    ·simp[Ia.run] at h
   ·simp[Ia.run] at h
 ·rename_i wG aO
  split at h
  case h_2=>simp[Ia.run] at h
  rename_i e he
  split at h
  case isFalse=>simp[Ia.run] at h
  rename_i hc;obtain⟨hd,h8⟩:=hc;obtain⟨⟨sz,rows⟩,hp1,r1,h2⟩:=Aa h;clear h;obtain⟨rfl,wX⟩:=Ea (P:=P) G hr r1;obtain⟨A,cap,rfl,hA⟩:=Y5 aO hr r1;simp only at h2
  split at h2
  case h_2=>simp[Ia.run] at h2
  rename_i l hl
  split at h2
  case isFalse=>simp[Ia.run] at h2
  rename_i aZ;simp only[Ia.run,Bc,Br] at h2;obtain⟨rfl,rfl⟩:=h2;obtain⟨news,hS,hN,hE⟩:=wX 1 aZ;obtain⟨ns,rfl,rfl⟩:=Hm hl hN;refine⟨.string ⟨⟨ns.map fun n=>UInt8.ofNat n.toNat⟩⟩,w,m,?_,G,.refl _ _ _ _ _,by simp only[Ie]⟩;rw[run_convert_bytes_string w src dst e A rows.length cap (Bj he) (M5 h8) (Ga hd)];have hfold: ∀(ns:List Int) (r:ByteArray),ns.foldl (fun r n=>r.push (UInt8.ofNat n.toNat)) r=⟨r.data++(ns.map fun n=>UInt8.ofNat n.toNat).toArray⟩:=by
   intro ns;induction ns with
   |nil=>intro r;simp
   |cons n ns ih=>intro r;rw[List.foldl_cons,ih];simp[ByteArray.push]
  have he0:ByteArray.empty.data= #[]:=rfl
  cases A with
  |none=>
   have wZ:rows=[]:=hA rfl;subst wZ;have:ns=[]:=by have:=hS.length;simpa using this
   subst this;simp[Conv.bytesToString];rfl
  |some a=>
   have hf:=hS.first w rfl
   have pP:(loadCells a rows.length).run P w= .ok (ns.map (Value.int .u8)).toArray w:=by simpa[Builtin.firstCells] using hf
   rw[run_bytesToString w a rows.length cap ns pP,hfold,he0];simp
end
end
section
open Go
variable {v a:AV}{us:List Value}{d:Nat}{J:Nat->Prop}{t ct:TypeId}{x:Unit}{u:Value}
def mE (I:Nat->Prop)(w:World)(a:AV)(u:Value):Prop:=match a with
 | .agg cs=> ∃us,u= .agg ⟨us⟩/\aC I w cs us
 |a=>Iq I w a u
def gB (P:Program)(I:Nat->Prop)(w:World)(t:TypeId)(a:AV)(u:Value)(bs:List Nat):Prop:=
 if Iu P t then∃cs us,a= .agg cs/\u= .agg ⟨us⟩/\bA P I (fun _=>False) w (dO P t) cs us bs else gH P I (fun _=>False) w t a u bs
def aY (P:Program)(I:Nat->Prop)(w:World):List TypeId->List AV->List Value->List Nat->Prop
 |[],[],us,bs=>us=[]/\bs=[]
 |t::ts,a::as,us,bs=> ∃u us' b1 b2,us=u::us'/\bs=b1++b2/\gB P I w t a u b1/\aY P I w ts as us' b2
 |_,_,_,_=>False
def gF :List Value->Value
 |[v]=>v
 |vs=> .tuple ⟨vs⟩
section
variable {P:Program}{I K:Nat->Prop}{m:Mp}{hp hp':Hp}{w:World}{k:Nat}
theorem Kla(h:(vY v).run hp=some (x,hp')):hp'=hp:=by
 unfold vY at h
 split at h
 all_goals first|(simp[Ia.run] at h;done)|skip
 ·simp only[Ia.run] at h
  split at h
  ·split at h
   ·simp only[Ia.run,Bc,Br] at h;exact h.2.symm
   ·simp[Ia.run] at h
  ·simp[Ia.run] at h
 ·simp only[Ia.run] at h
  split at h
  ·split at h
   ·simp only[Ia.run,Bc,Br] at h;exact h.2.symm
   ·simp[Ia.run] at h
  ·simp[Ia.run] at h
 ·simp only[Ia.run] at h
  split at h
  ·split at h
   ·simp only[Ia.run,Bc,Br] at h;exact h.2.symm
   ·simp[Ia.run] at h
  ·simp[Ia.run] at h
 ·simp only[Ia.run] at h
  split at h
  ·split at h
   ·simp only[Ia.run,Bc,Br] at h;exact h.2.symm
   ·simp[Ia.run] at h
  ·simp[Ia.run] at h
 ·simp only[Ia.run,Bc,Br] at h;exact h.2.symm
theorem Dy(hn:(vY v).run hp=some (x,hp'))(hr:Ie k I m hp w v u):hp'=hp/\Ue (Ie k I m hp w) (cK v) u.cells.toList/\ ∃us,u=(if mD v then .agg ⟨us⟩ else u)/\(mD v=false->u.cells.toList=[u]):=by
 refine⟨Kla hn,?_⟩;have h0:=hr
 cases v with
 |any=>simp[vY,Ia.run] at hn
 |bsl x g sz off n=>
  simp only[vY,Ia.run] at hn
  cases hx:hp x with
  |no g'=>rw[hx] at hn;simp[Ia.run,It.head] at hn
  |map _ _ _ _ _=>rw[hx] at hn;simp[Ia.run,It.head] at hn
  |arr g' sz e rows f=>rw[hx] at hn;simp[Ia.run,It.head] at hn
  |box g' c f=>
   rw[hx] at hn;simp only[It.head] at hn
   split at hn
   ·rename_i hg
    subst hg;simp only[Ie] at hr;obtain⟨_,_,hr⟩:=hr;obtain⟨b,c',cap,_,_,_,rfl⟩:=hr c f hx;exact⟨.cons h0 .nil,[],rfl,fun _=>rfl⟩
   ·simp[Ia.run] at hn
 |ptr x g o=>
  simp only[vY,Ia.run] at hn
  cases hx:hp x with
  |no g'=>rw[hx] at hn;simp[Ia.run,It.head] at hn
  |map _ _ _ _ _=>rw[hx] at hn;simp[Ia.run,It.head] at hn
  |arr g' sz e rows f=>rw[hx] at hn;simp[Ia.run,It.head] at hn
  |box g' c f=>
   rw[hx] at hn;simp only[It.head] at hn
   split at hn
   ·rename_i hg
    subst hg;simp only[Ie] at hr;obtain⟨_,_,hr⟩:=hr;obtain⟨b,c',_,rfl⟩:=hr c f hx;exact⟨.cons h0 .nil,[],rfl,fun _=>rfl⟩
   ·simp[Ia.run] at hn
 |eptr x g i o=>simp[vY,Ia.run] at hn
 |dmp ag ks rows=>
  simp only[Ie,Iq] at hr;obtain⟨b,es,clock,rfl,_⟩:=hr;exact⟨.cons h0 .nil,[],rfl,fun _=>rfl⟩
 |mp x g=>
  simp only[vY,Ia.run] at hn
  cases hx:hp x with
  |no g'=>rw[hx] at hn;simp[Ia.run,It.head] at hn
  |arr g' sz e rows f=>rw[hx] at hn;simp[Ia.run,It.head] at hn
  |box g' c f=>rw[hx] at hn;simp[Ia.run,It.head] at hn
  |map g' ag ks rows f=>
   rw[hx] at hn;simp only[It.head] at hn
   split at hn
   ·rename_i hg
    subst hg;simp only[Ie] at hr;obtain⟨_,_,hr⟩:=hr;obtain⟨b,c',_,rfl⟩:=hr ag ks rows f hx;exact⟨.cons h0 .nil,[],rfl,fun _=>rfl⟩
   ·simp[Ia.run] at hn
 |sc x=>
  simp only[Ie] at hr;subst hr
  cases u with
  |agg us=>
   refine⟨⟨by simp[cK,Value.cells],fun j a v h1 h2=>?_⟩,us.toList,by simp[mD],fun h=>by simp[mD] at h⟩;simp only[cK,qY] at h1;simp only[Value.cells] at h2;rw[h2] at h1
   cases h1
   simp only[Ie]
  |_=>exact⟨.cons (by simp only[Ie]) .nil,[],rfl,fun _=>rfl⟩
 |sl f sz rows=>
  simp only[Ie,Iq] at hr;obtain⟨A,cap,rfl,_⟩:=hr;exact⟨.cons h0 .nil,[],rfl,fun _=>rfl⟩
 |dp c o=>
  simp only[Ie,Iq] at hr;obtain⟨b,o,us,rfl,_⟩:=hr;exact⟨.cons h0 .nil,[],rfl,fun _=>rfl⟩
 |agg cs=>
  simp only[Ie] at hr;obtain⟨us,rfl,hr⟩:=hr;exact⟨(Ae _ _).1 hr,us,rfl,fun h=>by simp[mD] at h⟩
 |tup cs=>
  simp only[Ie] at hr;obtain⟨us,rfl,hr⟩:=hr;exact⟨.cons h0 .nil,[],rfl,fun _=>rfl⟩
 |fn f cs=>
  simp only[Ie] at hr;obtain⟨us,rfl,hr⟩:=hr;exact⟨.cons h0 .nil,[],rfl,fun _=>rfl⟩
 |vec sz rows=>simp[Ie] at hr
 |own x g n=>
  simp only[vY,Ia.run] at hn
  cases hx:hp x with
  |no g'=>rw[hx] at hn;simp[Ia.run,It.head] at hn
  |map _ _ _ _ _=>rw[hx] at hn;simp[Ia.run,It.head] at hn
  |box g' c f=>rw[hx] at hn;simp[Ia.run,It.head] at hn
  |arr g' sz e rows f=>
   rw[hx] at hn;simp only[It.head] at hn
   split at hn
   ·rename_i hg
    subst hg;simp only[Ie] at hr;obtain⟨_,_,hr⟩:=hr;obtain⟨_,hr⟩:=hr sz e rows f hx;rcases hr with⟨_,rfl,_⟩|⟨b,cap,_,rfl⟩
    ·exact⟨.cons h0 .nil,[],rfl,fun _=>rfl⟩
    ·exact⟨.cons h0 .nil,[],rfl,fun _=>rfl⟩
   ·simp[Ia.run] at hn
/-! ### arguments -/
theorem EG{cs:List AV}{hp1:Hp}(ha:mD v=Iu P t)(hu:u=(if mD v then .agg ⟨us⟩ else u))(uP:mD v=false->u.cells.toList=[u])
  (hd:Ue (Iq J w) cs u.cells.toList) (h:(uC (Iu P t) cs).run hp1=some (a,hp')):hp'=hp1/\mE J w a u:=by
 rw[<-ha] at h;unfold uC at h
 cases hb:mD v with
 |true=>
  rw[hb] at h hu;simp only[iW,Ia.run,Bc,Br] at h hu;obtain⟨rfl,rfl⟩:=h;refine⟨rfl,us,hu,?_⟩;rw[Ax];rw[hu] at hd;exact hd
 |false=>
  rw[hb] at h;rw[uP hb] at hd;simp only[pW,lJ] at h
  split at h
  ·simp only[Ia.run,Bc,Br] at h
   obtain⟨rfl,rfl⟩:=h;obtain⟨v1,vs,e1,h1,_⟩:=hd.cons_inv
   cases e1
   refine⟨rfl,?_⟩;unfold mE
   split
   ·simp[Iq] at h1
   ·exact h1
  ·simp[Ia.run] at h
theorem Bna(h:Iq J w a u):mE J w a u:=by
 unfold mE
 split
 ·simp[Iq] at h
 ·exact h
theorem K6 : ∀{ts:List TypeId} {as as':List AV} {us:List Value} {I:Nat->Prop} {hp hp':Hp},Uj I K m hp w->Ue (Ie k I m hp w) as us->(fX P true ts as).run hp=some (as',hp')->
  ∃I',Uj I' K m hp' w/\aL I K m hp w I' m hp' w/\Ue (mE I' w) as' us
 |[],[],as',us,I,hp,hp',G,hr,h=>by
  simp only[fX,Ia.run,Bc,Br] at h;obtain⟨rfl,rfl⟩:=h;have:us=[]:=Kw (by rw[<-hr.1];rfl);subst this;exact⟨I,G,.refl _ _ _ _ _,.nil⟩
 |[],v::vs,as',us,I,hp,hp',G,hr,h=>by
  obtain⟨u,us',rfl,h1,h2⟩:=hr.cons_inv;simp only[fX] at h;obtain⟨a,hp1,r1,h3⟩:=Aa h;clear h;obtain⟨r,If,r2,h4⟩:=Aa h3;clear h3;simp only[Ia.run,Bc,Br] at h4;obtain⟨rfl,rfl⟩:=h4;obtain⟨I1,G1,E1,d1,_⟩:=Pk G h1 r1;obtain⟨I2,G2,E2,d2⟩:=K6 G1 (h2.imp fun a u h=>Ie.mono E1 k a u h) r2;exact⟨I2,G2,E1.trans E2,.cons (Bna (Iq.mono E2.isub (fun _ _=>rfl) _ _ d1)) d2⟩
 |_::_,[],_,_,_,_,_,_,_,h=>by simp[fX,Ia.run] at h
 |t::ts,v::vs,as',us,I,hp,hp',G,hr,h=>by
  obtain⟨u,us',rfl,h1,h2⟩:=hr.cons_inv;simp only[fX] at h
  split at h
  case isFalse=>simp[Ia.run] at h
  rename_i hc;obtain⟨hl,ha⟩:=hc;obtain⟨x,U9,r0,h3⟩:=Aa h;clear h;obtain⟨rfl,lY,us1,uQ,uP⟩:=Dy r0 h1;obtain⟨cs,hp1,r1,h4⟩:=Aa h3;clear h3;obtain⟨r,If,r2,h5⟩:=Aa h4;clear h4;obtain⟨I1,G1,E1,d1⟩:=Eo G lY r1;obtain⟨I2,G2,E2,d2⟩:=K6 G1 (h2.imp fun a u h=>Ie.mono E1 k a u h) r2;obtain⟨a,zK,r3,h6⟩:=Aa h5;clear h5;simp only[Ia.run,Bc,Br] at h6;obtain⟨rfl,cT⟩:=EG ha uQ uP (d1.imp fun a u h=>Iq.mono E2.isub (fun _ _=>rfl) _ _ h) r3;obtain⟨rfl,rfl⟩:=h6;exact⟨I2,G2,E1.trans E2,.cons cT d2⟩
theorem Ps : ∀{ts:List TypeId} {as as':List AV} {us:List Value} {hp':Hp},Uj I K m hp w->Ue (Ie k I m hp w) as us->(fX P false ts as).run hp=some (as',hp')->
  hp'=hp/\Ue (mE (fun b=>I b\/Ao m hp b) w) as' us
 |[],[],as',us,hp',G,hr,h=>by
  simp only[fX,Ia.run,Bc,Br] at h;obtain⟨rfl,rfl⟩:=h;have:us=[]:=Kw (by rw[<-hr.1];rfl);subst this;exact⟨rfl,.nil⟩
 |[],v::vs,as',us,hp',G,hr,h=>by
  obtain⟨u,us',rfl,h1,h2⟩:=hr.cons_inv;simp only[fX] at h;obtain⟨a,hp1,r1,h3⟩:=Aa h;clear h;obtain⟨r,If,r2,h4⟩:=Aa h3;clear h3;simp only[Ia.run,Bc,Br] at h4;obtain⟨rfl,rfl⟩:=h4;obtain⟨e1,d1⟩:=X5 G h1 r1;rw[e1] at r2;obtain⟨e2,d2⟩:=Ps G h2 r2;exact⟨e2,.cons (Bna d1) d2⟩
 |_::_,[],_,_,_,_,_,h=>by simp[fX,Ia.run] at h
 |t::ts,v::vs,as',us,hp',G,hr,h=>by
  obtain⟨u,us',rfl,h1,h2⟩:=hr.cons_inv;simp only[fX] at h
  split at h
  case isFalse=>simp[Ia.run] at h
  rename_i hc;obtain⟨hl,ha⟩:=hc;obtain⟨x,U9,r0,h3⟩:=Aa h;clear h;obtain⟨e0,lY,us1,uQ,uP⟩:=Dy r0 h1;obtain⟨cs,hp1,r1,h4⟩:=Aa h3;clear h3;obtain⟨r,If,r2,h5⟩:=Aa h4;clear h4;rw[e0] at r1;obtain⟨e1,d1⟩:=Np G lY r1;rw[e1] at r2;obtain⟨e2,d2⟩:=Ps G h2 r2;obtain⟨a,zK,r3,h6⟩:=Aa h5;clear h5;simp only[Ia.run,Bc,Br] at h6;obtain⟨e3,cT⟩:=EG ha uQ uP d1 r3;obtain⟨rfl,rfl⟩:=h6;rw[e2] at e3;refine⟨e3,?_⟩;exact .cons cT d2
/-! ### what came of a call -/
theorem Mc (G:Uj I K m hp w){y:Nm}(hy:y.d<=k){bs:List Nat}(hr:gH P I K w ct a u bs)(hb: ∀b∈bs,¬Ao m hp b)
  (h:(eI P ct y a).run hp=some (v,hp')):
  ∃m',Uj I K m' hp' w/\aL I K m hp w I m' hp' w/\Ie k I m' hp' w v u/\(∀b,Ao m' hp' b->Ao m hp b\/b∈bs):=by
 have same: ∀(v:AV),Iq I w v u->hp'=hp-> ∃m',Uj I K m' hp' w/\aL I K m hp w I m' hp' w/\Ie k I m' hp' w v u/\(∀b,Ao m' hp' b->Ao m hp b\/b∈bs):=
  fun v hd e=>by subst e;exact⟨m,G,.refl _ _ _ _ _,hd.rep,fun _ h=> .inl h⟩
 cases a with
 |vec sz rows=>
  simp only[eI] at h
  split at h
  ·rename_i e he
   simp only[Ia.run,Bc,Br] at h;obtain⟨rfl,rfl⟩:=h;have hg:(hp y).gen<(It.arr ((hp y).gen+1) sz e rows false).gen:=by simp[It.gen]
   have live: ∀(p:Option (Nat×Nat)),(∀q,p=some q->q.1∈bs)-> ∀b,Ao (Ur m y p) (Ur hp y (.arr ((hp y).gen+1) sz e rows false)) b->Ao m hp b\/b∈bs:=by
    rintro p If b ⟨x,q,hx,hq,rfl⟩;by_cases sX:x=y
    ·subst sX;rw[Ad] at hq;exact .inr (If q hq)
    ·rw[Aj _ _ sX] at hx hq;exact .inl ⟨x,q,hx,hq,rfl⟩
   rcases hr with⟨rfl,rfl,rfl⟩|⟨b,cap,us,mk,e',rfl,rfl,h3,h4,h5,h6,h7,h8,h9,lC,yR⟩
   ·obtain⟨G2,E2⟩:=G.virt y sz e
    refine⟨_,G2,E2,?_,live none (fun q hq=>by cases hq)⟩;simp only[Ie];refine⟨hy,by rw[Ad];exact D5 _,fun sz e' rows' fz hx=>?_⟩;rw[Ad] at hx
    cases hx
    exact⟨D5 _,.inl ⟨Ad _ _ _,trivial,rfl⟩⟩
   ·rw[he] at h3
    cases h3
    have hW:WX I K w w:= .refl I K w;refine⟨Ur m y (some (b,cap)),G.bump hW (fun _ h=>h) hg (.inr ⟨b,cap,us,mk,Ad _ _ _,h4,h5,h6,h7,h8,h9,fun h=>(by cases h),fun _=>⟨lC,yR⟩⟩) (fun _ _ _ _ _=>rfl) (fun _ _ _ _ _ _ h=>h) ?_ G.ilt G.ik,.bump hW (fun _ h=>h) hg,?_,live _ (fun q hq=>by cases hq;simp)⟩
    ·intro _ r tP x hx hl q hq e2
     cases tP
     exact hb b Zi ⟨x,q,hl,hq,e2.symm⟩
    ·simp only[Ie]
     refine⟨hy,by rw[Ad];exact D5 _,fun sz e' rows' fz hx=>?_⟩;rw[Ad] at hx
     cases hx
     exact⟨D5 _,.inr ⟨_,_,Ad _ _ _,rfl⟩⟩
  ·simp[Ia.run] at h
 |sc x=>
  simp only[eI,Ia.run,Bc,Br] at h;obtain⟨rfl,rfl⟩:=h;exact same _ hr.2 rfl
 |sl f sz rows=>
  simp only[eI,Ia.run,Bc,Br] at h;obtain⟨rfl,rfl⟩:=h;exact same _ hr.2 rfl
 |dp c o=>
  simp only[eI,Ia.run,Bc,Br] at h;obtain⟨rfl,rfl⟩:=h;exact same _ hr.2 rfl
 |fn f caps=>
  simp only[eI,Ia.run,Bc,Br] at h;obtain⟨rfl,rfl⟩:=h;exact same _ hr.2 rfl
 |dmp ag ks rows=>
  simp only[eI,Ia.run,Bc,Br] at h;obtain⟨rfl,rfl⟩:=h;exact same _ hr.2 rfl
 |any|ptr|eptr|agg|tup|own|bsl|mp=>simp[eI,Ia.run] at h
theorem Vj {d:Nat}: ∀{c:Nat} {cts:List TypeId} {as as':List AV} {us:List Value} {bs:List Nat} {m:Mp} {hp hp':Hp},Uj I K m hp w->bA P I K w cts as us bs->bs.Nodup->(∀b∈bs,¬Ao m hp b)->
  (rH P k d c cts as).run hp=some (as',hp')->
  ∃m',Uj I K m' hp' w/\aL I K m hp w I m' hp' w/\Ue (Ie k I m' hp' w) as' us/\(∀b,Ao m' hp' b->Ao m hp b\/b∈bs)
 |c,cts,[],as',us,bs,m,hp,hp',G,hr,hn,hb,h=>by
  have e:us=[]/\bs=[]:=by cases cts<;>simpa[bA] using hr
  obtain⟨rfl,rfl⟩:=e
  cases cts<;>simp only[rH,Ia.run,Bc,Br] at h<;>obtain⟨rfl,rfl⟩:=h<;>exact⟨m,G,.refl _ _ _ _ _,.nil,fun _ h=> .inl h⟩
 |c,[],a::as,_,_,_,_,_,_,_,_,_,_,h=>by simp[rH,Ia.run] at h
 |c,t::ts,a::as,as',us,bs,m,hp,hp',G,hr,hn,hb,h=>by
  simp only[bA] at hr;obtain⟨u,us',b1,b2,rfl,rfl,h1,h2⟩:=hr;simp only[rH] at h;obtain⟨v1,hp1,r1,h3⟩:=Aa h;clear h;obtain⟨vs,If,r2,h4⟩:=Aa h3;clear h3;simp only[Ia.run,Bc,Br] at h4;obtain⟨rfl,rfl⟩:=h4;rw[Ack] at hn;obtain⟨n1,n2,n3⟩:=hn;obtain⟨m1,G1,E1,d1,l1⟩:=Mc G (D5 _) h1 (fun b qN=>hb b (nA.2 (.inl qN))) r1;obtain⟨m2,G2,E2,d2,l2⟩:=Vj G1 h2 n2 (fun b Ul hl=>(l1 b hl).elim (hb b (nA.2 (.inr Ul))) (fun qN=>n3 b qN b Ul rfl)) r2;refine⟨m2,G2,E1.trans E2,.cons (Ie.mono E2 _ _ _ d1) d2,fun b hb3=>?_⟩;rcases l2 b hb3 with h|h
  ·rcases l1 b h with h|h
   ·exact .inl h
   ·exact .inr (nA.2 (.inl h))
  ·exact .inr (nA.2 (.inr h))
theorem gH.anyK {bs:List Nat}(hI: ∀b∈bs,¬K b)(h:gH P I (fun _=>False) w ct a u bs):gH P I K w ct a u bs:=by
 cases a with
 |vec sz rows=>
  rcases h with h|⟨b,cap,us,mk,e,h1,h2,h3,h4,h5,h6,h7,h8,h9,lC,yR⟩
  ·exact .inl h
  ·exact .inr ⟨b,cap,us,mk,e,h1,h2,h3,h4,h5,h6,h7,h8,h9,lC,hI b (by rw[h1];simp)⟩
 |_=>exact h
theorem bA.anyK : ∀{cts:List TypeId} {as:List AV} {us:List Value} {bs:List Nat},(∀b∈bs,¬K b)->bA P I (fun _=>False) w cts as us bs->bA P I K w cts as us bs
 |cts,[],_,_,_,h=>by cases cts<;>simpa[bA] using h
 |[],_::_,_,_,_,h=>by simp[bA] at h
 |t::ts,a::as,us,bs,hk,h=>by
  simp only[bA] at h⊢;obtain⟨u,us',b1,b2,rfl,rfl,h1,h2⟩:=h;exact⟨u,us',b1,b2,rfl,rfl,gH.anyK (fun b hb=>hk b (nA.2 (.inl hb))) h1,bA.anyK (fun b hb=>hk b (nA.2 (.inr hb))) h2⟩
theorem Ns (G:Uj I K m hp w){c:Nat}{bs:List Nat}(hr:gB P I w t a u bs)(hk: ∀b∈bs,¬K b)(hn:bs.Nodup)(hb: ∀b∈bs,¬Ao m hp b)
  (h:(nY P k d c t a).run hp=some (v,hp')):
  ∃m',Uj I K m' hp' w/\aL I K m hp w I m' hp' w/\Ie k I m' hp' w v u/\(∀b,Ao m' hp' b->Ao m hp b\/b∈bs):=by
 unfold nY at h
 split at h
 case isFalse=>simp[Ia.run] at h
 unfold gB at hr
 split at h
 ·rename_i iH
  rw[Ka iH] at hr;obtain⟨cs,us,rfl,rfl,hr⟩:=hr;obtain⟨cs',hp1,r1,h2⟩:=Aa h;clear h;simp only[Ia.run,Bc,Br] at h2;obtain⟨rfl,rfl⟩:=h2;obtain⟨m',G',E',d',l'⟩:=Vj G (hr.anyK hk) hn hb r1;refine⟨m',G',E',?_,l'⟩;simp only[Ie];exact⟨us,rfl,(Ae _ _).2 d'⟩
 ·rename_i iH
  rw[Jx iH] at hr;exact Mc G (D5 _) (gH.anyK hk hr) hb h
theorem Nt {d:Nat}: ∀{c:Nat} {ts:List TypeId} {as as':List AV} {us:List Value} {bs:List Nat} {m:Mp} {hp hp':Hp},Uj I K m hp w->aY P I w ts as us bs->(∀b∈bs,¬K b)->bs.Nodup->(∀b∈bs,¬Ao m hp b)->
  (jN P k d c ts as).run hp=some (as',hp')->
  ∃m',Uj I K m' hp' w/\aL I K m hp w I m' hp' w/\Ue (Ie k I m' hp' w) as' us/\(∀b,Ao m' hp' b->Ao m hp b\/b∈bs)
 |c,[],[],as',us,bs,m,hp,hp',G,hr,hk,hn,hb,h=>by
  simp only[aY] at hr;obtain⟨rfl,rfl⟩:=hr;simp only[jN,Ia.run,Bc,Br] at h;obtain⟨rfl,rfl⟩:=h;exact⟨m,G,.refl _ _ _ _ _,.nil,fun _ h=> .inl h⟩
 |c,[],_::_,_,_,_,_,_,_,_,_,_,_,_,h=>by simp[jN,Ia.run] at h
 |c,_::_,[],_,_,_,_,_,_,_,_,_,_,_,h=>by simp[jN,Ia.run] at h
 |c,t::ts,a::as,as',us,bs,m,hp,hp',G,hr,hk,hn,hb,h=>by
  simp only[aY] at hr;obtain⟨u,us',b1,b2,rfl,rfl,h1,h2⟩:=hr;simp only[jN] at h;obtain⟨v1,hp1,r1,h3⟩:=Aa h;clear h;obtain⟨vs,If,r2,h4⟩:=Aa h3;clear h3;simp only[Ia.run,Bc,Br] at h4;obtain⟨rfl,rfl⟩:=h4;rw[Ack] at hn;obtain⟨n1,n2,n3⟩:=hn;obtain⟨m1,G1,E1,d1,l1⟩:=Ns G h1 (fun b qN=>hk b (nA.2 (.inl qN))) n1 (fun b qN=>hb b (nA.2 (.inl qN))) r1;obtain⟨m2,G2,E2,d2,l2⟩:=Nt G1 h2 (fun b Ul=>hk b (nA.2 (.inr Ul))) n2 (fun b Ul hl=>(l1 b hl).elim (hb b (nA.2 (.inr Ul))) (fun qN=>n3 b qN b Ul rfl)) r2;refine⟨m2,G2,E1.trans E2,.cons (Ie.mono E2 _ _ _ d1) d2,fun b hb3=>?_⟩;rcases l2 b hb3 with h|h
  ·rcases l1 b h with h|h
   ·exact .inl h
   ·exact .inr (nA.2 (.inl h))
  ·exact .inr (nA.2 (.inr h))
theorem aY.length : ∀{ts:List TypeId} {as:List AV} {us:List Value} {bs:List Nat},aY P I w ts as us bs->us.length=ts.length/\as.length=ts.length
 |[],[],_,_,h=>by simp only[aY] at h;simp[h.1]
 |[],_::_,_,_,h=>by simp[aY] at h
 |_::_,[],_,_,h=>by simp[aY] at h
 |t::ts,a::as,us,bs,h=>by
  simp only[aY] at h;obtain⟨u,us',b1,b2,rfl,rfl,h1,h2⟩:=h;have:=aY.length h2;simp[this.1,this.2]
theorem Nr (G:Uj I K m hp w){ts:List TypeId}{as:List AV}{bs:List Nat}(hr:aY P I w ts as us bs)(hk: ∀b∈bs,¬K b)(hn:bs.Nodup)(hb: ∀b∈bs,¬Ao m hp b)
  (h:(qG P k d ts as).run hp=some (v,hp')):
  ∃m',Uj I K m' hp' w/\aL I K m hp w I m' hp' w/\Ie k I m' hp' w v (gF us):=by
 unfold qG at h
 split at h
 ·simp only[aY] at hr
  obtain⟨u,us',b1,b2,rfl,rfl,h1,rfl,rfl⟩:=hr;obtain⟨m',G',E',d',l'⟩:=Ns G h1 (fun b h=>hk b (by simpa using h)) (by simpa using hn) (fun b h=>hb b (by simpa using h)) h;exact⟨m',G',E',d'⟩
 ·rename_i Ir
  obtain⟨vs,hp1,r1,h2⟩:=Aa h;clear h;simp only[Ia.run,Bc,Br] at h2;obtain⟨rfl,rfl⟩:=h2;obtain⟨m',G',E',d',l'⟩:=Nt G hr hk hn hb r1;refine⟨m',G',E',?_⟩;have hl:=hr.length;have jS:gF us= .tuple ⟨us⟩:=by
   match us,hl with
   |[],_=>rfl
   |[x],⟨h1,h2⟩=>
    exfalso
    match ts,as,h1,h2 with
    |[t],[a],_,_=>exact Ir t a rfl rfl
   |_::_::_,_=>rfl
  rw[jS];simp only[Ie];exact⟨us,rfl,(Ae _ _).2 d'⟩
end
end
section
open Go
variable {us:List Value}{d:Nat}{P:Program}{t:TypeId}{v u:Value}{w:World}
theorem N0{off:Nat}(ha:Iu P t=false)(ho:kB P t=true)(hv:us[off]?=some v):(part t ⟨us⟩ off).run P w= .ok v w:=by
 unfold kB at ho;simp only[Ed] at ho;obtain⟨_,hu⟩:=ho;obtain⟨d,hd⟩:=X2.1 hu;have hg:(isAgg t).run P w= .ok false w:=by
  unfold Iu at ha;rw[hd] at ha;unfold isAgg;rw[mG,Qi hd]
  cases d<;>simp at ha<;>rfl
 simp[part,mG,hg,Result.andThen,hv]
theorem NH{r:Bool}(h1:Bn P t (.sc u)=true)(h2:Bn P t (.sc v)=true)(h:GH (.sc u) (.sc v)=some r):(Op.equalIn (d+1) t u v).run P w= .ok r w:=by
 unfold GH at h
 split at h
 ·rename_i k a k' a' e1 e2
  cases e1;cases e2
  split at h
  ·rename_i hk
   subst hk
   cases h
   simp only[Bn] at h1;obtain⟨q,hq⟩:=X2.1 h1;unfold oD at hq
   split at hq
   ·rename_i hu;exact run_equalIn_int w d t k _ a a' hu
   ·cases hq
  ·cases h
 ·rename_i a a' e1 e2
  cases e1;cases e2
  cases h
  simp only[Bn,mP] at h1
  split at h1
  ·rename_i hu
   rw[run_equalIn_string w d t a a' hu,Adq,Adq];congr 1;rw[FJ];simp only[beq_iff_eq,oW];constructor
   ·intro e;exact Adc (sI e)
   ·intro e;rw[e]
  ·cases h1
 ·rename_i a a' e1 e2
  cases e1;cases e2
  cases h
  simp only[Bn,xU] at h1
  split at h1
  ·rename_i hu;exact Aee w d t a a' hu
  ·cases h1
 ·cases h
theorem Xe{k:Nat}{x:Value}{xs:List Value}(h:us.drop k=x::xs):us[k]?=some x/\us.drop (k+1)=xs:=by
 refine⟨by have:=zD (xs:=us) (i:=k) (j:=0);rw[h] at this;simpa using this.symm,by rw[<-List.drop_drop,h];rfl⟩
theorem W0 {P:Program}{w:World}{d:Nat}{e:TypeId}(ha:Iu P e=false)(ht:kB P e=true)(us vs:List Value): ∀(m k:Nat) (b:Bool),cN P (List.replicate m e) ((us.drop k).map .sc)=true->cN P (List.replicate m e) ((vs.drop k).map .sc)=true->
  sU ((us.drop k).map .sc) ((vs.drop k).map .sc)=some b->(Op.eqItems (d+1) e 1 ⟨us⟩ ⟨vs⟩ (List.range' k m)).run P w= .ok b w
 |0,k,b,h1,h2,h=>by
  cases hu:us.drop k with
  |cons x xs=>rw[hu] at h1;simp[cN] at h1
  |nil=>
   cases hv:vs.drop k with
   |cons x xs=>rw[hv] at h2;simp[cN] at h2
   |nil=>
    rw[hu,hv] at h;simp only[nT,sU,Bc] at h;subst h;simp[Op.eqItems]
 |m+1,k,b,h1,h2,h=>by
  cases hu:us.drop k with
  |nil=>rw[hu] at h1;simp[cN,OG] at h1
  |cons x xs=>
   cases hv:vs.drop k with
   |nil=>rw[hv] at h2;simp[cN,OG] at h2
   |cons y ys=>
    obtain⟨hx,hxs⟩:=Xe hu;obtain⟨hy,hys⟩:=Xe hv;rw[hu] at h1 h;rw[hv] at h2 h;simp only[T9,OG,cN,Ed] at h1 h2;simp only[T9,sU] at h
    split at h
    ·rename_i p q hp hq
     cases h
     have hc:=NH (w:=w) (d:=d) h1.1 h2.1 hp;have ih:=W0 (w:=w) (d:=d) ha ht us vs m (k+1) q (by rw[hxs];exact h1.2) (by rw[hys];exact h2.2) (by rw[hxs,hys];exact hq);rw[Acg];unfold Op.eqItems;simp only[Nat.mul_one,mG,N0 ha ht hx,N0 ha ht hy,tH,hc]
     cases p with
     |true=>simpa using ih
     |false=>simp
    ·cases h
theorem arr_eq(h:pV P t=true)(us vs:List Value)(b:Bool)(h1:cN P (jM P t) (us.map .sc)=true)(h2:cN P (jM P t) (vs.map .sc)=true)(h3:sU (us.map .sc) (vs.map .sc)=some b):
  (Op.equalIn (d+2) t (.agg ⟨us⟩) (.agg ⟨vs⟩)).run P w= .ok b w:=by
 unfold pV at h
 split at h
 ·rename_i n e hu
  simp only[Ed,zC,beq_iff_eq] at h;obtain⟨⟨⟨⟨⟨ha,ht⟩,hs⟩,hn⟩,hi⟩,_⟩:=h;obtain⟨i,hi⟩:=X2.1 hi;unfold jM at h1 h2;rw[hu] at h1 h2;rw[run_equalIn_array w (d+1) ⟨us⟩ ⟨vs⟩ hu hi,hs,Acj];exact W0 ha ht us vs n 0 b h1 h2 h3
 ·cases h
theorem Kda{x y:AV}{b:Bool}(h1:Bn P t x=true)(h:GH x y=some b):Bn P t y=true:=by
 unfold GH at h
 split at h
 ·simpa only[Bn] using h1
 ·simpa only[Bn] using h1
 ·simpa only[Bn] using h1
 ·cases h
theorem Xt {P:Program}: ∀{ts:List TypeId} {xs ys:List AV} {b:Bool},cN P ts xs=true->sU xs ys=some b->cN P ts ys=true
 |[],[],[],_,_,_=>rfl
 |t::ts,x::xs,y::ys,b,h1,h=>by
  simp only[cN,Ed] at h1⊢;simp only[sU] at h
  split at h
  ·rename_i p q hv hl
   exact⟨Kda h1.1 hv,Xt h1.2 hl⟩
  ·cases h
 |[],_::_,_,_,h,_=>by simp[cN] at h
 |_::_,[],_,_,h,_=>by simp[cN] at h
 |_,[],_::_,_,_,h=>by simp[sU] at h
 |_,_::_,[],_,_,h=>by simp[sU] at h
theorem Kca(h:GH (.sc u) (.sc v)=some true):v=u:=by
 unfold GH at h
 split at h
 ·rename_i k a k' a' e1 e2
  cases e1;cases e2
  split at h
  ·rename_i hk;subst hk;simp only[Bc,beq_iff_eq] at h;rw[h]
  ·cases h
 ·rename_i a a' e1 e2
  cases e1;cases e2
  simp only[Bc,oW] at h;rw[h]
 ·rename_i a a' e1 e2
  cases e1;cases e2
  simp only[Bc,beq_iff_eq] at h;rw[h]
 ·cases h
theorem Pj : ∀{us vs:List Value},sU (us.map .sc) (vs.map .sc)=some true->vs=us
 |[],[],_=>rfl
 |u::us,v::vs,h=>by
  simp only[T9,sU] at h
  split at h
  ·rename_i p q hv hl
   simp only[Bc,Ed] at h;obtain⟨rfl,rfl⟩:=h;rw[Kca hv,Pj hl]
  ·cases h
 |[],_::_,h=>by simp[sU] at h
 |_::_,[],h=>by simp[sU] at h
theorem Qb{e:TypeId}(h:Bn P e (.sc v)=true)(em:Bool)(n:Nat):(Instr.checkKey em (n+1) e v).run P w= .ok () w:=by
 unfold Bn at h
 split at h
 ·rename_i h0;cases h0
  obtain⟨q,hq⟩:=X2.1 h;unfold oD at hq
  split at hq
  ·rename_i hu;unfold Instr.checkKey;simp[Qi hu]
  ·cases hq
 ·rename_i h0;cases h0
  unfold mP at h
  split at h
  ·rename_i hu;unfold Instr.checkKey;simp[Qi hu]
  ·cases h
 ·rename_i h0;cases h0
  unfold xU at h
  split at h
  ·rename_i hu;unfold Instr.checkKey;simp[Qi hu]
  ·cases h
 ·cases h
theorem Xl {P:Program}{e:TypeId}: ∀{n:Nat} {us:List Value} (j:Nat),cN P (List.replicate n e) (us.map .sc)=true->j<n-> ∃u,us[j]?=some u/\Bn P e (.sc u)=true
 |0,us,j,_,hj=>absurd hj (Nat.not_lt_zero _)
 |n+1,[],j,h,_=>by simp[cN,OG] at h
 |n+1,u::us,0,h,_=>by
  simp only[OG,T9,cN,Ed] at h;exact⟨u,rfl,h.1⟩
 |n+1,u::us,j+1,h,hj=>by
  simp only[OG,T9,cN,Ed] at h;obtain⟨v,h1,h2⟩:=Xl j h.2 (Nat.lt_of_succ_lt_succ hj);exact⟨v,by simpa using h1,h2⟩
theorem T5(h:pV P t=true)(h1:cN P (jM P t) (us.map .sc)=true)(em:Bool)(n:Nat):(Instr.checkKey em (n+2) t (.agg ⟨us⟩)).run P w= .ok () w:=by
 unfold pV at h
 split at h
 ·rename_i len e hu
  simp only[Ed,zC,beq_iff_eq] at h;obtain⟨⟨⟨⟨⟨ha,ht⟩,hs⟩,hn⟩,hi⟩,_⟩:=h;obtain⟨i,hi⟩:=X2.1 hi;unfold jM at h1;rw[hu] at h1;rw[Instr.checkKey];simp only[mG,Qi hu,tH];simp only[Std.Legacy.Range.forIn_eq_forIn_range',Std.Legacy.Range.size,Nat.sub_zero,Nat.add_one_sub_one,Nat.div_one];have each: ∀j∈List.range' 0 len,j<len:=fun j hj=>by simpa using hj
  generalize List.range' 0 len=is at each
  induction is with
  |nil=>simp
  |cons j is ih=>
   obtain⟨u,g1,g2⟩:=Xl j h1 (each j Zi);have hp:(part e ⟨us⟩ (j*P.cellsOf e)).run P w= .ok u w:=by rw[hs,Nat.mul_one];exact N0 ha ht g1
   have p2:=Qb (w:=w) g2 em n;simp only[List.forIn_cons,mG,run_sizeOf w hi,tH,hp,p2,Adi];exact ih (fun y hy=>each y (by simp[hy]))
 ·cases h
theorem Aza (a b:ByteArray):(a==b)=decide (a=b):=by
 cases a with|mk x=>
 cases b with|mk y=>
 show(x==y)=_;by_cases h:x=y
 ·subst h;simp
 ·simp[h]
theorem P7{e:TypeId}(h:Bn P e (.sc v)=true)(n:Nat):Instr.sameBits n v v=true:=by
 unfold Bn at h
 split at h<;>first|(rename_i h0;cases h0;cases n<;>simp[Instr.sameBits,Aza])|cases h
theorem Jj {P:Program}: ∀{ts:List TypeId} {us:List Value},cN P ts (us.map .sc)=true-> ∀n,((us.zip us).all fun(x,y)=>Instr.sameBits n x y)=true
 |[],[],_,n=>rfl
 |t::ts,u::us,h,n=>by
  simp only[T9,cN,Ed] at h;simp only[List.zip_cons_cons,uZ,P7 h.1 n,Zt];exact Jj h.2 n
 |[],_::_,h,_=>by simp[cN] at h
 |_::_,[],h,_=>by simp[cN] at h
theorem S8{ts:List TypeId}(h:cN P ts (us.map .sc)=true)(n:Nat):Instr.sameBits (n+1) (.agg ⟨us⟩) (.agg ⟨us⟩)=true:=by
 simp only[Instr.sameBits,GO,Zt];exact Jj h n
theorem Xm {t:TypeId}{len:Nat}{e:TypeId}{x:MapEntry}{es:List MapEntry}(i:Nat):Instr.findNow (.array len e) (.agg ⟨us⟩) (x::es) i=none:=by
 simp[Instr.findNow,Instr.sameNow]
theorem Mn {P:Program}{w:World}{t:TypeId}{us:List Value}(h:pV P t=true)(h1:cN P (jM P t) (us.map .sc)=true): ∀{es:List MapEntry} {i:Nat} {r:Option Nat},dY (.agg ⟨us⟩) (es.map (·.key)) i=some r->
  ∃r',(Instr.findAsking t (.agg ⟨us⟩) es i).run P w= .ok r' w/\match r with
   |none=>r'=none
   |some j=>i<=j/\ ∃e,es[j - i]?=some e/\e.key= .agg ⟨us⟩/\r'=some (j,e.val)
 |[],i,r,hf=>by
  simp only[nT,dY,Bc] at hf;subst hf;exact⟨none,by simp[Instr.findAsking],rfl⟩
 |e::es,i,r,hf=>by
  simp only[T9,dY] at hf
  cases hk:e.key with
  |agg vs=>
   obtain⟨vs⟩:=vs;rw[hk] at hf;simp only[jR] at hf
   cases hq:sU (us.map .sc) (vs.map .sc) with
   |none=>rw[hq] at hf;cases hf
   |some b=>
    rw[hq] at hf;have cE:(Op.equal t (.agg ⟨us⟩) e.key).run P w= .ok b w:=by
     rw[hk];exact arr_eq (d:=9998) h us vs b h1 (Xt h1 hq) hq
    cases b with
    |true=>
     simp only[Bc] at hf;subst hf;refine⟨some (i,e.val),?_,D5 _,e,Zi,?_,rfl⟩
     ·simp[Instr.findAsking,cE]
     ·rw[hk,Pj hq]
    |false=>
     simp only at hf;obtain⟨r',g1,g2⟩:=Mn (w:=w) h h1 hf;refine⟨r',by simp[Instr.findAsking,cE,g1],?_⟩
     cases r with
     |none=>exact g2
     |some j=>
      simp only at g2⊢;obtain⟨aI,e',he,CO,hr⟩:=g2;refine⟨Zo,e',?_,CO,hr⟩;rw[show j - i=(j - (i+1))+1 from Zo,T7];exact he
  |_=>rw[hk] at hf;simp[jR] at hf
end
section
open Go
variable {x v i:AV}{es:Array MapEntry}{b:Nat}{r:Option (Nat×Value)}{t kt:TypeId}{u key ui:Value}
section
variable {P:Program}{I K:Nat->Prop}{m:Mp}{hp hp':Hp}{w:World}{k:Nat}
theorem B3a {e:TypeId}(h:zG P t=some (kt,e)):P.underlying t=some (.map kt e):=by
 unfold zG at h
 split at h
 ·rename_i h1;cases h;exact h1
 ·cases h
theorem Sl {ag:Bool}: ∀{rows:List (List AV)} {vs:List Value} {j:Nat} {r:List AV},aV I w ag rows vs->rows[j]?=some r->
  ∃v us,vs[j]?=some v/\v=(if ag then .agg ⟨us⟩ else v)/\(ag=false->us=[v]/\v.oneCell'=true)/\aC I w r us
 |[],vs,j,r,h,hr=>by simp at hr
 |a::rows,vs,0,r,h,hr=>by
  simp only[aV] at h;obtain⟨v,vt,us,rfl,h1,h2,h3,_⟩:=h;simp only[Rt,Bc] at hr;subst hr;exact⟨v,us,rfl,h1,h2,h3⟩
 |a::rows,vs,j+1,r,h,hr=>by
  simp only[aV] at h;obtain⟨v,vt,us,rfl,_,_,_,h4⟩:=h;rw[T7] at hr⊢;exact Sl h4 hr
theorem Sk {ag:Bool}: ∀{rows:List (List AV)} {vs:List Value},aV I w ag rows vs->rows.length=vs.length
 |[],vs,h=>by simp only[aV] at h;subst h;rfl
 |a::rows,vs,h=>by
  simp only[aV] at h;obtain⟨v,vt,us,rfl,_,_,_,h4⟩:=h;simp[Sk h4]
theorem Sm {ag:Bool}{r:List AV}{v:Value}{us:List Value}(h1:v=(if ag then .agg ⟨us⟩ else v))(h2:ag=false->us=[v]/\v.oneCell'=true)(h3:aC I w r us): ∀{rows:List (List AV)} {vs:List Value},aV I w ag rows vs->aV I w ag (rows++[r]) (vs++[v])
 |[],vs,h=>by
  simp only[aV] at h;subst h;simp only[Acm,aV];exact⟨v,[],us,rfl,h1,h2,h3,rfl⟩
 |a::rows,vs,h=>by
  simp only[aV] at h;obtain⟨v',vt,us',rfl,q1,q2,q3,q4⟩:=h;simp only[FG,aV];exact⟨v',_,us',rfl,q1,q2,q3,Sm h1 h2 h3 q4⟩
theorem Sj {ag:Bool}{r:List AV}{v:Value}{us:List Value}(h1:v=(if ag then .agg ⟨us⟩ else v))(h2:ag=false->us=[v]/\v.oneCell'=true)(h3:aC I w r us): ∀{rows:List (List AV)} {vs:List Value} (j:Nat),aV I w ag rows vs->aV I w ag (rows.set j r) (vs.set j v)
 |[],vs,j,h=>by simp only[aV] at h;subst h;simp[aV]
 |a::rows,vs,0,h=>by
  simp only[aV] at h;obtain⟨v',vt,us',rfl,q1,q2,q3,q4⟩:=h;simp only[List.set_cons_zero,aV];exact⟨v,vt,us,rfl,h1,h2,h3,q4⟩
 |a::rows,vs,j+1,h=>by
  simp only[aV] at h;obtain⟨v',vt,us',rfl,q1,q2,q3,q4⟩:=h;simp only[List.set_cons_succ,aV];exact⟨v',_,us',rfl,q1,q2,q3,Sj h1 h2 h3 j q4⟩
theorem Fca {ag ag':Bool}{vs:List Value}(h:aV I w ag [] vs):aV I w ag' [] vs:=by simpa only[aV] using h
theorem Z3 (G:Uj I K m hp w){ag:Bool}{ks:List Value}{rows:List (List AV)}(hr:Ie k I m hp w x u)(h:(qI P x).run hp=some ((ag,ks,rows),hp')):
  hp'=hp/\((u= .map none/\ks=[]/\rows=[])\/ ∃b es clock,u= .map (some b)/\w.heap[b]?=some (.map es clock)/\es.toList.map (·.key)=ks/\aV I w ag rows (es.toList.map (·.val))):=by
 unfold qI at h
 split at h
 ·simp only[Ia.run,Bc,Br] at h
  obtain⟨⟨rfl,rfl,rfl⟩,rfl⟩:=h;simp only[Ie] at hr;exact⟨rfl,.inl ⟨hr,rfl,rfl⟩⟩
 ·simp only[Ia.run,Bc,Br] at h
  obtain⟨⟨rfl,rfl,rfl⟩,rfl⟩:=h;simp only[Ie,Iq] at hr;obtain⟨b,es,clock,h1,_,h2,h3,h4⟩:=hr;exact⟨rfl,.inr ⟨b,es,clock,h1,h2,h3,h4⟩⟩
 ·rename_i x g
  simp only[Ia.run] at h
  cases hx:hp x with
  |no g'=>rw[hx] at h;simp[Ia.run] at h
  |box g' c f=>rw[hx] at h;simp[Ia.run] at h
  |arr g' sz e rows f=>rw[hx] at h;simp[Ia.run] at h
  |map g' ag' ks' rows' f=>
   rw[hx] at h;simp only at h
   split at h
   ·rename_i hg
    subst hg;simp only[Ia.run,Bc,Br] at h;obtain⟨⟨rfl,rfl,rfl⟩,rfl⟩:=h;have ho:=G.obj x;rw[hx] at ho;obtain⟨b,c,es,clock,h1,h2,h3,h4,_⟩:=ho;simp only[Ie] at hr;obtain⟨_,_,hr⟩:=hr;obtain⟨b',c',hm,rfl⟩:=hr _ _ _ _ hx;rw[h1] at hm;cases hm;exact⟨rfl,.inr ⟨b,es,clock,rfl,h2,h3,h4⟩⟩
   ·simp[Ia.run] at h
 ·simp[Ia.run] at h
/-! ### keys -/
theorem O3(h:Hf P kt key=true):(∃kd kk n,P.underlying kt=some (.int kd)/\key= .int kk n)\/(∃s,P.underlying kt=some .string/\key= .string s)\/(∃us:List Value,pV P kt=true/\cN P (jM P kt) (us.map .sc)=true/\key= .agg ⟨us⟩):=by
 unfold Hf at h
 split at h
 ·rename_i kk n
  obtain⟨kd,hk⟩:=X2.1 h;exact .inl ⟨kd,kk,n,M5 hk,rfl⟩
 ·exact .inr (.inl ⟨_,Ga h,rfl⟩)
 ·simp only[Ed] at h
  exact .inr (.inr ⟨_,h.1,h.2,rfl⟩)
 ·cases h
theorem Ega{kd:TypeDesc}(hk:(∃kd kk n,P.underlying kt=some (.int kd)/\key= .int kk n)\/(∃s,P.underlying kt=some .string/\key= .string s))(hu:P.underlying kt=some kd){v:Value}{b:Bool}(h:jR key v=some b):Instr.sameNow kd key v=some b:=by
 rcases hk with⟨kd',kk,n,h1,rfl⟩|⟨s,h1,rfl⟩
 ·rw[h1] at hu;cases hu
  cases v<;>simp[jR] at h
  simp[Instr.sameNow,h]
 ·rw[h1] at hu;cases hu
  cases v<;>simp[jR] at h
  simp only[Instr.sameNow];rw[<-h];rename_i s';rw[Aza]
theorem Aga {v:Value}(h:jR key v=some true):v=key:=by
 unfold jR at h
 split at h
 ·split at h
  ·rename_i hk;subst hk;simp only[Bc,beq_iff_eq] at h;rw[h]
  ·cases h
 ·simp only[Bc,oW] at h;rw[h]
 ·rename_i a b
  obtain⟨a⟩:=a;obtain⟨b⟩:=b;exact congrArg (fun l:List Value=>Value.agg ⟨l⟩) (Pj (us:=a) (vs:=b) h)
 ·cases h
theorem Rv {kt:TypeId}{kd:TypeDesc}{key:Value}(hk:(∃kd kk n,P.underlying kt=some (.int kd)/\key= .int kk n)\/(∃s,P.underlying kt=some .string/\key= .string s))(hu:P.underlying kt=some kd): ∀{es:List MapEntry} {i:Nat} {r:Option Nat},dY key (es.map (·.key)) i=some r->
  match r with
  |none=>Instr.findNow kd key es i=some none
  |some j=>i<=j/\ ∃e,es[j - i]?=some e/\jR key e.key=some true/\Instr.findNow kd key es i=some (some (j,e.val))
 |[],i,r,h=>by
  simp only[nT,dY,Bc] at h;subst h;rfl
 |e::es,i,r,h=>by
  simp only[T9,dY] at h
  cases hq:jR key e.key with
  |none=>rw[hq] at h;cases h
  |some b=>
   rw[hq] at h;have hn:=Ega hk hu hq
   cases b with
   |true=>
    simp only[Bc] at h;subst h;exact⟨D5 _,e,Zi,hq,by simp[Instr.findNow,hn]⟩
   |false=>
    simp only at h;have ih:=Rv hk hu h
    cases r with
    |none=>simp only at ih⊢;simp[Instr.findNow,hn,ih]
    |some j=>
     simp only at ih⊢;obtain⟨aI,e',he,CO,hf⟩:=ih;refine⟨Zo,e',?_,CO,by simp[Instr.findNow,hn,hf]⟩;rw[show j - i=(j - (i+1))+1 from Zo,T7];exact he
theorem Ky(hk:Hf P kt key=true){es:List MapEntry}{r:Option Nat}(h:dY key (es.map (·.key)) 0=some r)(w:World):
  ∃r',(Instr.findKey kt key es).run P w= .ok r' w/\match r with
   |none=>r'=none
   |some j=> ∃e,es[j]?=some e/\e.key=key/\r'=some (j,e.val):=by
 have now: ∀kd,P.underlying kt=some kd->((∃kd kk n,P.underlying kt=some (.int kd)/\key= .int kk n)\/(∃s,P.underlying kt=some .string/\key= .string s))-> ∃r',(Instr.findKey kt key es).run P w= .ok r' w/\match r with
   |none=>r'=none
   |some j=> ∃e,es[j]?=some e/\e.key=key/\r'=some (j,e.val):=by
  intro kd hu hk;have hf:=Rv hk hu h
  cases r with
  |none=>
   simp only at hf;exact⟨none,by simp[Instr.findKey,Qi hu,hf],rfl⟩
  |some j=>
   simp only at hf;obtain⟨_,e,he,hq,hf⟩:=hf;exact⟨_,by simp only[Instr.findKey,mG,Qi hu,tH,hf,Adi],e,by simpa using he,Aga hq,rfl⟩
 rcases O3 hk with h1|h1|⟨us,ha,kY,rfl⟩
 ·obtain⟨kd,kk,n,hu,rfl⟩:=h1
  exact now _ hu (.inl ⟨_,_,_,hu,rfl⟩)
 ·obtain⟨s,hu,rfl⟩:=h1
  exact now _ hu (.inr ⟨_,hu,rfl⟩)
 ·obtain⟨len,e,hu⟩: ∃len e,P.underlying kt=some (.array len e):=by
   unfold pV at ha
   split at ha
   ·rename_i hu;exact⟨_,_,hu⟩
   ·cases ha
  obtain⟨r',g1,g2⟩:=Mn (w:=w) ha kY h;refine⟨r',?_,?_⟩
  ·cases es with
   |nil=>
    simp only[nT,dY,Bc] at h;subst h;simp only at g2;subst g2;simp[Instr.findKey,Qi hu,Instr.findNow]
   |cons x es=>
    simp only[Instr.findKey,mG,Qi hu,tH,Xm (t:=kt),g1]
  ·cases r with
   |none=>exact g2
   |some j=>
    simp only at g2⊢;obtain⟨_,e,he,hq,hr⟩:=g2;exact⟨e,by simpa using he,hq,hr⟩
theorem P8(hk:Hf P kt key=true)(w:World)(b:Bool)(n:Nat):(Instr.checkKey b (n+2) kt key).run P w= .ok () w:=by
 rcases O3 hk with⟨kd',kk,m,h1,rfl⟩|⟨s,h1,rfl⟩|⟨us,ha,kY,rfl⟩
 ·unfold Instr.checkKey;simp[Qi h1]
 ·unfold Instr.checkKey;simp[Qi h1]
 ·exact T5 ha kY b n
theorem Kf(hk:Hf P kt key=true)(w:World)(b:Bool):(Instr.checkKey b 10000 kt key).run P w= .ok () w:=P8 hk w b 9998
theorem Qs : ∀{cs:List AV} {us vs:List Value},pC cs=some vs->bM k I m hp w cs us->us=vs
 |[],us,vs,h,hr=>by simp only[pC,Bc] at h;simp only[bM] at hr;rw[hr,h]
 |a::cs,us,vs,h,hr=>by
  cases a<;>simp[pC] at h
  obtain⟨q,hq,rfl⟩:=h;simp only[bM,Ie] at hr;obtain⟨v,vt,rfl,rfl,h2⟩:=hr;rw[Qs hq h2]
theorem B7a(h:BZ i=some key)(hr:Ie k I m hp w i ui):ui=key:=by
 unfold BZ at h
 split at h
 ·cases h;simpa only[Ie] using hr
 ·simp only[Ma] at h
  obtain⟨us,h1,rfl⟩:=h;simp only[Ie] at hr;obtain⟨vs,rfl,h2⟩:=hr;rw[Qs h1 h2]
 ·cases h
theorem Fha {e:TypeId}(h:(yA P e).run hp=some (v,hp')):hp'=hp/\ ∃u,(zeroValue e).run P w= .ok u w/\Ie k I m hp w v u:=by
 unfold yA at h
 split at h
 ·rename_i z us hz jB
  split at h
  case isFalse=>simp[Ia.run] at h
  rename_i hc;simp only[Ia.run,Bc,Br] at h;obtain⟨rfl,rfl⟩:=h;obtain⟨i,zv,h1,h2,_,_,_,_,h3⟩:=J9 (I:=I) (w:=w) hz hc.2.1 hc.1;rw[h1] at jB;simp only[Adm,h2,Bc] at jB;subst jB;refine⟨rfl,.agg us,by simp[zeroValue,typeInfo,h1,h2],?_⟩;simp only[Ie];refine⟨us.toList,rfl,(Ae _ _).2 (h3.imp fun a u h=>Iq.rep h)⟩
 ·rename_i c zv hzr hz jB
  split at h
  case isFalse=>simp[Ia.run] at h
  rename_i hc;simp only[Ia.run,Bc,Br] at h;obtain⟨rfl,rfl⟩:=h;obtain⟨i,zv',h1,h2,_,_,_,_,h3⟩:=J9 (I:=I) (w:=w) hz (by simpa using hc.2.1) hc.1;rw[h1] at jB;simp only[Adm,h2,Bc] at jB;subst jB;refine⟨rfl,zv',by simp[zeroValue,typeInfo,h1,h2],?_⟩;have oK:zv'.cells.toList=[zv']:=by
   have:=hc.2.2.2
   cases zv'<;>first|rfl|simp[Value.oneCell'] at this
  rw[oK] at h3;obtain⟨u,us,e1,h4,_⟩:=h3.cons_inv
  cases e1
  exact h4.rep
 ·simp[Ia.run] at h
def lP (z:Value):Option (Nat×Value)->Value×Bool
 |some (_,v)=>(v,true)
 |none=>(z,false)
theorem N4 {e:TypeId}(zM:P.underlying t=some (.map kt e))(hk:Hf P kt key=true)
  (hs:(u= .map none/\es= #[])\/ ∃b clock,u= .map (some b)/\w.heap[b]?=some (.map es clock)) (zQ:(Instr.findKey kt key es.toList).run P w= .ok r w) {z:Value} (hz:r=none->(zeroValue e).run P w= .ok z w) (ok:Bool):
  (Instr.lookup t u key ok).run P w= .ok (if ok then .tuple #[(lP z r).1,.bool (lP z r).2] else(lP z r).1) w:=by
 have hck:=Kf (P:=P) hk w;rcases hs with⟨rfl,rfl⟩|⟨b,clock,rfl,hb⟩
 ·cases r with
  |none=>simp[Instr.lookup,Qi zM,hck,zQ,hz rfl,lP]
  |some p=>simp[Instr.lookup,Qi zM,hck,zQ,lP]
 ·have hg:(getObj b).run P w= .ok (.map es clock) w:=by simp[getObj,Sem.run,hb]
  cases r with
  |none=>simp[Instr.lookup,Qi zM,hck,zQ,hz rfl,lP,hg]
  |some p=>simp[Instr.lookup,Qi zM,hck,zQ,lP,hg]
theorem row_one {ag:Bool}{r:List AV}{us:List Value}{v:Value}{a:AV}{hp1:Hp}(h1:v=(if ag then .agg ⟨us⟩ else v))(h2:ag=false->us=[v]/\v.oneCell'=true)(h3:aC I w r us)(h:(uC ag r).run hp1=some (a,hp')):hp'=hp1/\Ie k I m hp w a v:=by
 unfold uC at h
 cases ag with
 |true=>
  simp only[iW,Ia.run,Bc,Br] at h h1;obtain⟨rfl,rfl⟩:=h;refine⟨rfl,?_⟩;rw[h1];simp only[Ie];exact⟨us,rfl,(Ae _ _).2 (((Ax _ _).1 h3).imp fun a u h=>Iq.rep h)⟩
 |false=>
  obtain⟨rfl,_⟩:=h2 rfl;simp only[pW,lJ] at h
  split at h
  ·simp only[Ia.run,Bc,Br] at h
   obtain⟨rfl,rfl⟩:=h;simp only[aC] at h3;obtain⟨x,xs,e,h4,_⟩:=h3
   cases e
   exact⟨rfl,h4.rep⟩
  ·simp[Ia.run] at h
theorem D6a (G:Uj I K m hp w){ok:Bool}(hr:Ie k I m hp w x u)(yH:Ie k I m hp w i ui)(h:(qJ P t x ok i).run hp=some (v,hp')):
  hp'=hp/\ ∃r,(Instr.lookup t u ui ok).run P w= .ok r w/\Ie k I m hp w v r:=by
 unfold qJ at h
 split at h
 case h_2=>simp[Ia.run] at h
 rename_i key hka;have hri':=B7a hka yH;subst hri'
 split at h
 case h_2=>simp[Ia.run] at h
 rename_i kt e hmt;have zM:=B3a hmt
 split at h
 case isFalse=>simp[Ia.run] at h
 rename_i uS;obtain⟨⟨ag,ks,rows⟩,hp1,r1,h2⟩:=Aa h;clear h;obtain⟨e1,hm⟩:=Z3 G hr r1;rw[e1] at h2;simp only at h2;obtain⟨es,hs,hes,FP⟩: ∃es:Array MapEntry,((u= .map none/\es= #[])\/ ∃b clock,u= .map (some b)/\w.heap[b]?=some (.map es clock))/\es.toList.map (·.key)=ks/\aV I w ag rows (es.toList.map (·.val)):=by
  rcases hm with⟨rfl,rfl,rfl⟩|⟨b,es,clock,rfl,q1,q2,q3⟩
  ·exact⟨#[],.inl ⟨rfl,rfl⟩,rfl,by simp[aV]⟩
  ·exact⟨es,.inr ⟨b,clock,rfl,q1⟩,q2,q3⟩
 subst hes
 split at h2
 ·rename_i j hj
  obtain⟨r',kI,en,LX,_,rfl⟩:=Ky uS hj w
  split at h2
  case h_2=>simp[Ia.run] at h2
  rename_i r iP
  split at h2
  case isFalse=>simp[Ia.run] at h2
  obtain⟨a,If,r2,h3⟩:=Aa h2;simp only[Ia.run,Bc,Br] at h3;obtain⟨rfl,rfl⟩:=h3;obtain⟨v',us,q0,q1,q2,q3⟩:=Sl FP iP;rw[qY,LX] at q0;simp only[wD,Bc] at q0;subst q0;obtain⟨e2,cJ⟩:=row_one (m:=m) (hp:=hp) (k:=k) q1 q2 q3 r2;refine⟨e2,_,N4 zM uS hs kI (z:= .nilFunc) (fun hn=>by cases hn) ok,?_⟩
  cases ok with
  |false=>simpa[lP] using cJ
  |true=>
   simp only[iW,lP,Ie];exact⟨[en.val,.bool true],rfl,by simp only[bM];exact⟨_,_,rfl,cJ,_,_,rfl,by simp only[Ie],rfl⟩⟩
 ·rename_i hj
  obtain⟨r',zQ,rfl⟩:=Ky uS hj w;obtain⟨a,If,r2,h3⟩:=Aa h2;simp only[Ia.run,Bc,Br] at h3;obtain⟨rfl,rfl⟩:=h3;obtain⟨e2,z,hz,cJ⟩:=Fha (I:=I) (m:=m) (hp:=hp) (w:=w) (k:=k) r2;refine⟨e2,_,N4 zM uS hs zQ (z:=z) (fun _=>hz) ok,?_⟩
  cases ok with
  |false=>simpa[lP] using cJ
  |true=>
   simp only[iW,lP,Ie];exact⟨[z,.bool false],rfl,by simp only[bM];exact⟨_,_,rfl,cJ,_,_,rfl,by simp only[Ie],rfl⟩⟩
 ·simp[Ia.run] at h2
/-! ### written -/
theorem S7(hk:Hf P kt key=true):Instr.sameBits 10000 key key=true:=by
 rcases O3 hk with⟨kd',kk,m,h1,rfl⟩|⟨s,h1,rfl⟩|⟨us,ha,kY,rfl⟩
 ·simp[Instr.sameBits]
 ·simp[Instr.sameBits,Aza]
 ·exact S8 kY 9999
theorem Jk {e:TypeId}(zM:P.underlying t=some (.map kt e)){val:Value}(hk:Hf P kt key=true){clock:Nat}(hb:w.heap[b]?=some (.map es clock))
 (zQ:(Instr.findKey kt key es.toList).run P w= .ok r w) (tA: ∀i v,r=some (i,v)-> ∃en,es[i]?=some en/\en.key=key):
  (Instr.mapUpdate t (.map (some b)) key val).run P w= .ok () (w.putObj b (match r with
   |some (i,_)=> .map (es.modify i fun e=>{e with key,val:=val}) clock
   |none=> .map (es.push {key,val:=val,born:=clock}) (clock+1))):=by
 have hck:=Kf (P:=P) hk w;have hg:(getObj b).run P w= .ok (.map es clock) w:=by simp[getObj,Sem.run,hb]
 have zI: ∀o,(setObj b o).run P w= .ok () (w.putObj b o):=fun o=>by simp[setObj,Sem.run,hb,World.putObj]
 cases r with
 |none=>simp[Instr.mapUpdate,Qi zM,hck,zQ,hg,zI]
 |some p=>
  obtain⟨i,v⟩:=p;obtain⟨en,h1,h2⟩:=tA i v rfl;simp[Instr.mapUpdate,Qi zM,hck,zQ,hg,zI,Instr.keyThatStays,h1,h2,S7 hk]
theorem WX.putObj{o:Obj}(hi: ¬I b)(hk: ¬K b):WX I K w (w.putObj b o) where
 keep:=fun c hc=>World.putObj_heap_other fun e=>by subst e;exact hc.elim hi hk
 size:=by simp[World.putObj]
 os:=rfl
 tape:=rfl
 output:=rfl
theorem Mj {α β:Type}(f:α->β)(g:α->α): ∀(l:List α) (i:Nat),(∀a,l[i]?=some a->f (g a)=f a)->(l.modify i g).map f=l.map f
 |[],i,_=>Zi
 |a::l,0,h=>by simp[h a rfl]
 |a::l,i+1,h=>by simp[Mj f g l i (fun a ha=>h a (by simpa using ha))]
theorem Mi {α β:Type}(f:α->β)(g:α->α)(y:β): ∀(l:List α) (i:Nat),(∀a,f (g a)=y)->(l.modify i g).map f=(l.map f).set i y
 |[],i,_=>Zi
 |a::l,0,h=>by simp[h a]
 |a::l,i+1,h=>by simp[Mi f g y l i h]
theorem Rl (G:Uj I K m hp w){key z:AV}{uk uv:Value}(hr:Ie k I m hp w x u)(hrk:Ie k I m hp w key uk)(mK:Ue (Ie k I m hp w) (cK v) uv.cells.toList)
  (hsh: ∃us,uv=(if mD v then .agg ⟨us⟩ else uv)) (xB:mD v=false->uv.cells.toList=[uv]) (h:(oE P t x key v).run hp=some (z,hp')):
  z= .any/\ ∃w' I' m',(Instr.mapUpdate t u uk uv).run P w= .ok () w'/\Uj I' K m' hp' w'/\aL I K m hp w I' m' hp' w':=by
 unfold oE at h
 split at h
 case h_2=>simp[Ia.run] at h
 rename_i kt e kv hmt hka;have zM:=B3a hmt;have hrk':=B7a hka hrk;subst hrk'
 split at h
 case isFalse=>simp[Ia.run] at h
 rename_i hc;obtain⟨uS,Ij,oM⟩:=hc;obtain⟨r,hp1,r1,h2⟩:=Aa h;clear h;obtain⟨I1,G1,E1,d1⟩:=Eo G mK r1
 split at h2
 case h_2=>simp[Ia.run] at h2
 rename_i y g;have FT:=Ie.mono E1 _ _ _ hr;simp only[Ia.run] at h2
 cases hx:hp1 y with
 |no g'=>rw[hx] at h2;simp[Ia.run] at h2
 |box g' c f=>rw[hx] at h2;simp[Ia.run] at h2
 |arr g' sz e rows f=>rw[hx] at h2;simp[Ia.run] at h2
 |map g' ag ks rows f=>
  rw[hx] at h2;simp only at h2
  split at h2
  case isFalse=>simp[Ia.run] at h2
  rename_i hc2;obtain⟨rfl,rfl,zO⟩:=hc2;have ho:=G1.obj y;rw[hx] at ho;obtain⟨b,c,es,clock,o1,o2,o3,o4,o5,o6⟩:=ho;obtain⟨iQ,iC⟩:=o6 rfl;simp only[Ie] at FT;obtain⟨_,_,FT⟩:=FT;obtain⟨b',c',hm,rfl⟩:=FT _ _ _ _ hx;rw[o1] at hm;cases hm;subst o3;have o4':aV I1 w (Iu P e) rows (es.toList.map (·.val)):=by
   rcases zO with h0|h0
   ·have:es.toList=[]:=List.map_eq_nil_iff.1 h0
    rw[this] at o4⊢;have hl:=Sk o4;have:rows=[]:=Kw (by simpa using hl);subst this;exact Fca o4
   ·rw[<-h0];exact o4
  obtain⟨us,q1,q2,q3⟩: ∃us,uv=(if Iu P e then .agg ⟨us⟩ else uv)/\(Iu P e=false->us=[uv]/\uv.oneCell'=true)/\aC I1 w r us:=by
   refine⟨uv.cells.toList,?_,fun hf=>?_,(Ax _ _).2 d1⟩
   ·rw[<-oM]
    obtain⟨us,jS⟩:=hsh
    cases hb:mD v with
    |false=>simp
    |true=>rw[hb] at jS;simp only[iW] at jS⊢;rw[jS];simp[Value.cells]
   ·have h1:=xB (by rw[oM];exact hf)
    exact⟨h1,d1.one uv (by rw[h1];simp)⟩
  have Ii:b<w.heap.size:=(Xc.1 o2).1;have fin: ∀(es':Array MapEntry) (clock':Nat) (ks':List Value) (rows':List (List AV)),es'.toList.map (·.key)=ks'->aV I1 w (Iu P e) rows' (es'.toList.map (·.val))->
    Uj I1 K m (Ur hp1 y (.map g' (Iu P e) ks' rows' false)) (w.putObj b (.map es' clock'))/\aL I1 K m hp1 w I1 m (Ur hp1 y (.map g' (Iu P e) ks' rows' false)) (w.putObj b (.map es' clock')):=by
   intro es' clock' ks' rows' h1 h2;have hk:Cq (hp1 y) (.map g' (Iu P e) ks' rows' false):=by rw[hx];exact⟨_,_,_,_,rfl⟩
   have hW:WX I1 K w (w.putObj b (.map es' clock')):= .putObj iQ iC;refine⟨G1.same hW (fun _ h=>h) hk ⟨b,c,es',clock',o1,World.putObj_heap_same Ii,h1,aV.mono (fun _ h=>h) (fun d hd=>hW.keep d (.inl hd)) _ _ _ h2,fun h=>(by cases h),fun _=>⟨iQ,iC⟩⟩
    (fun z hz hl q hq=>World.putObj_heap_other fun e=>hz (G1.inj z y q (b,c) hl (by rw[hx];rfl) hq o1 e)) (fun _ _ _ _ _ _ h=>h) (fun d hd=>by have:=G1.ilt d hd;simpa[World.putObj] using this) G1.ik,.same hW (fun _ h=>h) hk⟩
  split at h2
  ·rename_i j hj
   simp only[Ia.run,Bc,Br] at h2;obtain⟨rfl,rfl⟩:=h2;obtain⟨r',kI,en,LX,hke,rfl⟩:=Ky uS hj w;have hen':es.toList[j]?=some en:=LX;have Uk:=Jk (val:=uv) zM uS o2 kI (fun i v' h=>by cases h;exact⟨en,by rw[<-Acd];exact hen',hke⟩);obtain⟨G2,E2⟩:=fin (es.modify j fun e=>{e with key:=uk,val:=uv}) clock (es.toList.map (·.key)) (rows.set j r)
    (by rw[Array.toList_modify];exact Mj _ _ _ _ (fun a ha=>by rw[hen'] at ha;cases ha;exact hke.symm))
    (by rw[Array.toList_modify,Mi _ _ uv _ _ (fun _=>rfl)];exact Sj q1 q2 q3 j o4')
   exact⟨rfl,_,I1,m,Uk,G2,E1.trans E2⟩
  ·rename_i hj
   simp only[Ia.run,Bc,Br] at h2;obtain⟨rfl,rfl⟩:=h2;obtain⟨r',zQ,rfl⟩:=Ky uS hj w;have Uk:=Jk (val:=uv) zM uS o2 zQ (fun i v' h=>by cases h);obtain⟨G2,E2⟩:=fin (es.push {key:=uk,val:=uv,born:=clock}) (clock+1) (es.toList.map (·.key)++[uk]) (rows++[r]) Zi (by simpa using Sm q1 q2 q3 o4');exact⟨rfl,_,I1,m,Uk,G2,E1.trans E2⟩
  ·simp[Ia.run] at h2
theorem Z4 (G:Uj I K m hp w){y:Nm}(hy:y.d<=k):
  ∃m',Uj I K m' (Ur hp y (.map ((hp y).gen+1) false [] [] false)) (w.alloc (.map #[] 0))/\aL I K m hp w I m' (Ur hp y (.map ((hp y).gen+1) false [] [] false)) (w.alloc (.map #[] 0))/\
   Ie k I m' (Ur hp y (.map ((hp y).gen+1) false [] [] false)) (w.alloc (.map #[] 0)) (.mp y ((hp y).gen+1)) (.map (some w.heap.size)):=by
 obtain⟨G2,E2⟩:=G.alloc (x:=y) (o:= .map ((hp y).gen+1) false [] [] false) (.map #[] 0) 0 (by simp[It.gen])
  (fun w' m' hb hm E=>⟨w.heap.size,0,#[],0,hm,hb,rfl,by simp[aV],fun h=>(by cases h),fun _=>G.fresh⟩) (.inl rfl)
 refine⟨_,G2,E2,?_⟩;simp only[Ie];exact⟨hy,by rw[Ad];exact D5 _,fun ag ks rows fz hx=>⟨w.heap.size,0,Ad _ _ _,rfl⟩⟩
/-! ### slices some of whose elements lead to boxes -/
theorem Rx {place:Nat->Option (Nat×Nat)}: ∀{parts:List (Nat×AV)} {cells out:List AV},nG place cells parts=some out->out.length=cells.length
 |[],cells,out,h=>by simp only[nG,Bc] at h;rw[h]
 |(i,v)::rest,cells,out,h=>by
  simp only[nG] at h
  split at h
  ·cases h
  ·split at h
   ·rename_i hc
    have:=Rx h;rw[this];unfold splice
    split
    ·assumption
    ·simp only[X3,sL,AT]
     omega
   ·cases h
theorem X7 (G:Uj I K m hp w){i:Nat}{len:Nat}{parts:List (Nat×AV)}{us:Array (Nat×Value)}(hr:eO k I m hp w parts us.toList)(h:(mO P k i t len parts).run hp=some (v,hp')):
  ∃u' w' I' m',(Instr.buildSlice t len us).run P w= .ok u' w'/\Uj I' K m' hp' w'/\aL I K m hp w I' m' hp' w'/\Ie k I' m' hp' w' v u':=by
 unfold mO at h
 split at h
 case h_2=>simp[Ia.run] at h
 rename_i e he
 split at h
 case h_2=>simp[Ia.run] at h
 rename_i z hz
 split at h
 case isFalse=>simp[Ia.run] at h
 rename_i hc;obtain⟨hzo,hall1,aZ,dE⟩:=hc;obtain⟨ie,zv,hi,jB,zH,gX,cB,uV⟩:=Sp hzo;have AF:z=zv.cells.toList:=by simp[U8,hi,jB] at hz;exact hz.symm
 subst AF;have cU:Ue (Iq I w) (zv.cells.toList.map AV.sc) zv.cells.toList:=⟨Zi,fun j a u h1 h2=>by
  rw[qY,h2] at h1;cases h1;simp only[Iq];exact⟨trivial,nU.1 hall1 u (sM h2)⟩⟩
 have lG:=H7 (I:=I) (w:=w) cU (by rw[zH];exact gX) len (len*ie.size) (by rw[zH];exact D5 _);rw[zH,Ai,Ab4] at lG;have vP:(madeCells zv.cells (len*ie.size)).toList.take (len*ie.size)=(madeCells zv.cells (len*ie.size)).toList:=Kb (by simp[Ac3]);rw[vP] at lG
 split at h
 case h_2=>simp[Ia.run] at h
 rename_i cs hfa;rw[cB] at hfa h aZ;obtain⟨cs1,f1,f2⟩:=Tv hr (lG.2.imp fun a u h=>Iq.rep h) hfa;obtain⟨cs',hp1,r1,h2⟩:=Aa h;clear h;obtain⟨I1,m1,G1,E1,d1,_⟩:=Ep G f2 r1;simp only[Ia.run,Bc,Br] at h2;obtain⟨rfl,rfl⟩:=h2;obtain⟨G2,E2⟩:=G1.alloc (x:=⟨k,i,0⟩) (o:= .box ((hp1 ⟨k,i,0⟩).gen+1) cs' false) (.cells cs1 e) cs1.size (by simp[It.gen])
  (fun w' m' hb hm E=>⟨w.heap.size,cs1.size,cs1,e,(0,0),hm,hb,⟨kT _,rfl⟩,by rw[Nq d1];exact(Ae _ _).2 (d1.imp fun a u h=>Ie.mono E _ a u h),fun h=>(by cases h),fun _=>G1.fresh⟩) (.inl rfl)
 refine⟨.slice (some ⟨w.heap.size,0,none⟩) len len,_,I1,_,?_,G2,E1.trans E2,?_⟩
 ·have hlim: ¬(16777216<len*ie.size):=Zo
  have rW:Instr.fill (fun j=>some (j*ie.size,ie.size)) (Array.map (fun x=>zv.cells[x%zv.cells.size]!) (Array.range (len*ie.size))) us.toList=some cs1:=f1;by_cases h0:len*ie.size=0
  ·have h00:Array.map (fun x=>zv.cells[x%zv.cells.size]!) (Array.range (len*ie.size))= #[]:=by rw[h0];apply sI;simp
   rw[h00] at rW;simp[Instr.buildSlice,Qi (Bj he),sizeOf,typeInfo,hi,h0,newRow,Array.range_zero',rW]
  ·simp[Instr.buildSlice,Qi (Bj he),sizeOf,typeInfo,zeroValue,hi,jB,hlim,h0,newRow,rW]
 ·simp only[Ie]
  exact⟨D5 _,by rw[Ad];exact D5 _,fun cells fz hx=>⟨w.heap.size,cs1.size,len,Ad _ _ _,D5 _,⟨dE,by
   have q:=f2.1;have q2:=Rx hfa;have q3:=lG.2.1;have q4:(madeCells zv.cells (len*ie.size)).toList.length=len*ie.size:=by simp[Ac3]
   have q5:cs1.toList.length=cs1.size:=wN;omega⟩,rfl⟩⟩
end
end
section
open Go
variable {x:AV}{olds cs:List AV}{news:List Value}{sz n n' cap g:Nat}{t z:Nm}
section
variable {P:Program}{I K:Nat->Prop}{m:Mp}{hp hp':Hp}{w:World}{k:Nat}
theorem E4a (G:Uj I K m hp w){u:Value}{cells:List AV}(hr:Ie k I m hp w x u)(h:(qR x).run hp=some ((sz,n,cells),hp')):
  hp'=hp/\ ∃news,EQ P w sz n u news/\Ue (Ie k I m hp w) cells news:=by
 unfold qR at h
 split at h
 ·rename_i x g sz' off n'
  simp only[Ia.run] at h
  cases hx:hp x with
  |no g'=>rw[hx] at h;simp[Ia.run] at h
  |map _ _ _ _ _=>rw[hx] at h;simp[Ia.run] at h
  |arr g' sz e rows f=>rw[hx] at h;simp[Ia.run] at h
  |box g' cells' f=>
   rw[hx] at h;simp only at h
   split at h
   case isFalse=>simp[Ia.run] at h
   rename_i hc;obtain⟨rfl,hl⟩:=hc;simp only[Ia.run,Bc,Br] at h;obtain⟨⟨rfl,rfl,rfl⟩,rfl⟩:=h;simp only[Ie] at hr;obtain⟨hd,_,hr⟩:=hr;obtain⟨b,c,cap,hm,h1,h2,rfl⟩:=hr cells' f hx;have ho:=G.obj x;rw[hx] at ho;obtain⟨b',c',us,T,mk,o1,o2,o3,o4,o5,o6⟩:=ho;rw[o1] at hm;cases hm;have ha:=(((Ae _ _).1 o4).drop off).take (n'*sz');refine⟨rfl,((us.toList.take cells'.length).drop off).take (n'*sz'),H0 (fun j v hv=>?_) ?_,ha.imp fun a u h=>h.depth hd⟩
   ·rw[AQ w b (off+j) us T mk o2]
    have hv:=At hv;rw[zD] at hv;simpa using At hv
   ·rw[<-ha.1,sL,AT];omega
 ·obtain⟨⟨sz',rows⟩,hp1,r1,h2⟩:=Aa h
  obtain⟨e1,wX⟩:=Ea (P:=P) G hr r1;simp only[Ia.run,Bc,Br] at h2;obtain⟨⟨rfl,rfl,rfl⟩,rfl⟩:=h2;obtain⟨news,hS,hN,_⟩:=wX sz' (.inl rfl);exact⟨e1,news,hS,hN.imp fun a u h=>Iq.rep h⟩
theorem DV (G:Uj I K m hp w)(ht:t.d<=k){e:TypeId}{oldv rest:List Value}
  (ho:Ue (Ie t.d I m hp w) olds oldv) (hs:Ue (Ie t.d I m hp w) cs news) (hol:oldv.length=n*sz) (qL:news.length=n'*sz) (hr:rest.length=(cap - (n+n'))*sz) (hc:n+n'<=cap) (dE:cap<=maxLen)
  {A:Array Value} (hA:A.toList=oldv++news++rest) {w1:World} (h1:w1=w.alloc (.cells A e)\/w1=w.drew.alloc (.cells A e)):
  ∃m',Uj I K m' (Ur hp t (.box ((hp t).gen+1) (olds++cs) false)) w1/\aL I K m hp w I m' (Ur hp t (.box ((hp t).gen+1) (olds++cs) false)) w1/\
   Ie k I m' (Ur hp t (.box ((hp t).gen+1) (olds++cs) false)) w1 (.bsl t ((hp t).gen+1) sz 0 (n+n')) (.slice (some ⟨w.heap.size,0,none⟩) (n+n') cap):=by
 have aZ:A.size=cap*sz:=by
  have:=congrArg List.length hA;rw[wN,X3,X3,hol,qL,hr,<-tZ,<-tZ] at this;rw[this];congr 1;omega
 have cU:=ho.append hs;obtain⟨G2,E2⟩:=G.alloc (x:=t) (o:= .box ((hp t).gen+1) (olds++cs) false) (.cells A e) (cap*sz) (by simp[It.gen])
  (fun w' m' hb hm E=>⟨w.heap.size,cap*sz,A,e,(0,0),hm,hb,⟨kT _,aZ⟩,by
   rw[hA,Acv cU.1.symm];exact(Ae _ _).2 (cU.imp fun a u h=>Ie.mono E _ a u h),fun h=>(by cases h),fun _=>G.fresh⟩) h1
 refine⟨_,G2,E2,?_⟩;simp only[Ie];exact⟨ht,by rw[Ad];exact D5 _,fun cells fz hx=>⟨w.heap.size,cap*sz,cap,Ad _ _ _,hc,⟨dE,Zo⟩,rfl⟩⟩
theorem Uj.killB (G:Uj I K m hp w)(hz:(hp z).gen=g):
  Uj I K m (Ur hp z (.no (g+1))) w/\aL I K m hp w I m (Ur hp z (.no (g+1))) w:=by
 have em:Ur m z (m z)=m:=by funext q;by_cases hq:q=z<;>simp[Ur,hq]
 have hg:(hp z).gen<(It.no (g+1)).gen:=by rw[hz];exact vB _
 have h1:Uj I K (Ur m z (m z)) (Ur hp z (.no (g+1))) w:=G.bump (.refl I K w) (fun _ h=>h) hg trivial (fun _ _ _ _ _=>rfl) (fun _ _ _ _ _ _ h=>h) (fun h=>(by cases h)) G.ilt G.ik;have h2:aL I K m hp w I (Ur m z (m z)) (Ur hp z (.no (g+1))) w:= .bump (.refl I K w) (fun _ h=>h) hg;rw[em] at h1 h2;exact⟨h1,h2⟩
theorem roomB (G:Uj I K m hp w)(ht:t.d<=k)(tR:(hp z).live=true)(FW:(hp z).gen=g){b c:Nat}(hm:m z=some (b,c)){cur:Array Value}{T:TypeId}{mk:Nat×Nat}
  (hb:w.heap[b]?=some (.cells cur T mk)) (lG:D7 cur mk) (iQ: ¬I b) (iC: ¬K b)
  (ho:Ue (Ie t.d I m hp w) olds (cur.toList.take (n*sz))) (hs:Ue (Ie t.d I m hp w) cs news) (qL:news.length=n'*sz) (hc:n+n'<=cap) (dE:cap<=maxLen) (cB:cap*sz<=cur.size):
  ∃m',Uj I K m' (Ur (Ur hp z (.no (g+1))) t (.box ((Ur hp z (.no (g+1)) t).gen+1) (olds++cs) false)) (w.setRow b (cur.toList.take (n*sz)++news++cur.toList.drop (n*sz+news.length)).toArray)/\
   aL I K m hp w I m' (Ur (Ur hp z (.no (g+1))) t (.box ((Ur hp z (.no (g+1)) t).gen+1) (olds++cs) false)) (w.setRow b (cur.toList.take (n*sz)++news++cur.toList.drop (n*sz+news.length)).toArray)/\
   Ie k I m' (Ur (Ur hp z (.no (g+1))) t (.box ((Ur hp z (.no (g+1)) t).gen+1) (olds++cs) false)) (w.setRow b (cur.toList.take (n*sz)++news++cur.toList.drop (n*sz+news.length)).toArray)
    (.bsl t ((Ur hp z (.no (g+1)) t).gen+1) sz 0 (n+n')) (.slice (some ⟨b,0,none⟩) (n+n') cap):=by
 obtain⟨G1,E1⟩:=G.killB FW;have Ir: ∀y q,(Ur hp z (.no (g+1)) y).live=true->m y=some q->q.1≠b:=by
  intro y q hl hq e;by_cases hy:y=z
  ·subst hy;rw[Ad] at hl;cases hl
  ·rw[Aj _ _ hy] at hl
   exact hy (G.inj y z q (b,c) hl tR hq hm e)
 have kY:n*sz+news.length<=cur.size:=by rw[qL,<-tZ];exact Ve (xY _ hc) cB
 have hg:(Ur hp z (.no (g+1)) t).gen<(It.box ((Ur hp z (.no (g+1)) t).gen+1) (olds++cs) false).gen:=by simp[It.gen]
 have cU:=ho.append hs;have E2:aL I K m (Ur hp z (.no (g+1))) w I (Ur m t (some (b,cur.size))) (Ur (Ur hp z (.no (g+1))) t (.box ((Ur hp z (.no (g+1)) t).gen+1) (olds++cs) false)) (w.setRow b (cur.toList.take (n*sz)++news++cur.toList.drop (n*sz+news.length)).toArray):=
  .bump (.setRow iQ iC) (fun _ h=>h) hg
 have qA:oU I K (Ur m t (some (b,cur.size))) (Ur (Ur hp z (.no (g+1))) t (.box ((Ur hp z (.no (g+1)) t).gen+1) (olds++cs) false)) (w.setRow b (cur.toList.take (n*sz)++news++cur.toList.drop (n*sz+news.length)).toArray) t
   (.box ((Ur hp z (.no (g+1)) t).gen+1) (olds++cs) false):=by
  refine⟨b,cur.size,_,T,mk,Ad _ _ _,Adt w b cur _ T mk hb,⟨fun j hj=>lG j ?_,?_⟩,?_,fun h=>(by cases h),fun _=>⟨iQ,iC⟩⟩
  ·simp at hj;omega
  ·simp;omega
  ·have e:List.take (olds++cs).length (cur.toList.take (n*sz)++news++cur.toList.drop (n*sz+news.length))=cur.toList.take (n*sz)++news:=Acv cU.1.symm
   show bM _ _ _ _ _ _ (List.take (olds++cs).length (cur.toList.take (n*sz)++news++cur.toList.drop (n*sz+news.length)));rw[e];exact(Ae _ _).2 (cU.imp fun a u h=>Ie.mono (E1.trans E2) _ a u h)
 have G2:=G1.bump (x:=t) (p:=some (b,cur.size)) (.setRow iQ iC) (fun _ h=>h) hg qA (fun y _ hl q hq=>Adj w b q.1 _ (fun e=>Ir y q hl hq e)) (fun _ _ _ _ _ _ h=>h)
  (fun _ r hr y _ hl q hq e=>by cases hr;exact Ir y q hl hq e.symm) (fun c hc=>by have:=G.ilt c hc;simpa[World.setRow] using this) G.ik
 refine⟨_,G2,E1.trans E2,?_⟩;simp only[Ie];exact⟨ht,by rw[Ad];exact D5 _,fun cells fz hx=>⟨b,cur.size,cap,Ad _ _ _,hc,⟨dE,Zo⟩,rfl⟩⟩
theorem A0a (G:Uj I K m hp w){y:Nm}(hy:y.d<=k){t t' ty:TypeId}{s v:AV}{us ux:Value}(mV:Ie k I m hp w s us)(hrx:Ie k I m hp w x ux)
  (h:(oT P y t t' s x).run hp=some (v,hp')):
  ∃u' w' I' m',(Builtin.append_ #[t,t'] ty #[us,ux]).run P w= .ok u' w'/\Uj I' K m' hp' w'/\aL I K m hp w I' m' hp' w'/\Ie k I' m' hp' w' v u':=by
 unfold oT at h
 split at h
 case h_2=>simp[Ia.run] at h
 rename_i e he;have ht:=Bj he
 split at h
 case isFalse=>simp[Ia.run] at h
 rename_i zH;obtain⟨hz,dN⟩:=zH;obtain⟨i,z,hi,jB,hzc,gX,xL,DF⟩:=Sp hz;have hu:=Bha dN;obtain⟨⟨sz',n',cells⟩,hp1,r1,h2⟩:=Aa h;clear h;obtain⟨e1,news,hS,hN⟩:=E4a (P:=P) G hrx r1;rw[e1] at h2;clear r1 e1;simp only at h2
 split at h2
 case isFalse=>simp[Ia.run] at h2
 rename_i hc;obtain⟨rfl,FU,nF,dE⟩:=hc;obtain⟨cs,If,r2,h3⟩:=Aa h2;clear h2;obtain⟨I1,m1,G1,E1,d1,xB⟩:=Ep G hN r2;have pZ:=Ie.mono E1 k s us mV;rw[xL] at hS h3;rw[DF] at nF;have qL:news.length=n'*i.size:=hS.length
 suffices hh: ∃u' w' m',(Builtin.append_ #[t,t'] ty #[us,ux]).run P w= .ok u' w'/\Uj I1 K m' hp' w'/\aL I1 K m1 If w I1 m' hp' w'/\Ie k I1 m' hp' w' v u' by
  obtain⟨u',w',m',q1,q2,q3,q4⟩:=hh;exact⟨u',w',I1,m',q1,q2,E1.trans q3,q4⟩
 have onNil: ∀(hq:Hp) (q:Uj I1 K m1 hq w) (tt:Nm),tt.d<=k->Ue (Ie tt.d I1 m1 hq w) cs news->n'*i.bytes<=140737488355328->n'<=maxLen->
   ∃u' w' m',(Builtin.append_ #[t,t'] ty #[.slice none 0 0,ux]).run P w= .ok u' w'/\Uj I1 K m' (Ur hq tt (.box ((hq tt).gen+1) cs false)) w'/\aL I1 K m1 hq w I1 m' (Ur hq tt (.box ((hq tt).gen+1) cs false)) w'/\
    Ie k I1 m' (Ur hq tt (.box ((hq tt).gen+1) cs false)) w' (.bsl tt ((hq tt).gen+1) i.size 0 n') u':=by
  intro hq q tt htt cB nF dE;have tB:(n':Int)<=9223372036854775807:=by simp only[maxLen] at dE;omega
  have hr:=append_nil w t t' ty e i z ht hu hi jB ux n' news hS FU tB Zo;have wI:=grownCap_ge w n' 0 e;have aI:=Ads w n' 0 e dE;obtain⟨m',g1,g2,g3⟩:=DV q htt (e:=e) (sz:=i.size) (n:=0) (n':=n') (cap:=grownCap w n' 0 e) (olds:=[]) (oldv:=[]) (rest:=(Builtin.zeroCells z.cells (grownCap w n' 0 e - n')).toList) .nil cB Zi qL (by rw[wN,size_zeroCells,hzc,mH]) (by rw[mH];exact wI) aI
   (A:=news.toArray++Builtin.zeroCells z.cells (grownCap w n' 0 e - n')) Zi (.inr rfl)
  simp only[Acm,mH] at g1 g2 g3;exact⟨_,_,m',hr,g1,g2,g3⟩
 have onOld: ∀(zn:Nm) (g n cap b c:Nat) (cur:Array Value) (T:TypeId) (mk:Nat×Nat) (olds:List AV) (tt:Nm),tt.d<=k->(If zn).live=true->(If zn).gen=g->m1 zn=some (b,c)->w.heap[b]?=some (.cells cur T mk)->D7 cur mk-> ¬I1 b-> ¬K b->
   Ue (Ie tt.d I1 m1 If w) olds (cur.toList.take (n*i.size))->Ue (Ie tt.d I1 m1 If w) cs news->n<=cap->cap<=maxLen->cap*i.size<=cur.size->(n+n')*i.bytes<=140737488355328->n+n'<=maxLen->
   ∃u' w' m',(Builtin.append_ #[t,t'] ty #[.slice (some ⟨b,0,none⟩) n cap,ux]).run P w= .ok u' w'/\Uj I1 K m' (Ur (Ur If zn (.no (g+1))) tt (.box ((Ur If zn (.no (g+1)) tt).gen+1) (olds++cs) false)) w'/\
    aL I1 K m1 If w I1 m' (Ur (Ur If zn (.no (g+1))) tt (.box ((Ur If zn (.no (g+1)) tt).gen+1) (olds++cs) false)) w'/\
    Ie k I1 m' (Ur (Ur If zn (.no (g+1))) tt (.box ((Ur If zn (.no (g+1)) tt).gen+1) (olds++cs) false)) w' (.bsl tt ((Ur If zn (.no (g+1)) tt).gen+1) i.size 0 (n+n')) u':=by
  intro zn g n cap b c cur T mk olds tt htt tR FW hm hb lG iQ iC yI cB hnc hcm zR nF dE;have tB:((n+n':Nat):Int)<=9223372036854775807:=by simp only[maxLen] at dE;omega
  have hnsz:n*i.size<=cur.size:=Ve (xY _ hnc) zR;by_cases lV:n+n'<=cap
  ·have kY:n*i.size+news.length<=cur.size:=by rw[qL,<-tZ];exact Ve (xY _ lV) zR
   have hr:=Mr w t t' ty e i ht hu hi b n cap cur mk hb lG ux n' news hS xB lV kY;obtain⟨m',g1,g2,g3⟩:=roomB G1 htt tR FW hm hb lG iQ iC yI cB qL lV hcm zR;exact⟨_,_,m',hr,g1,g2,g3⟩
  ·have oK: ∀j v,(cur.toList.take (n*i.size))[j]?=some v->w.cell? ((⟨b,0,none⟩:Addr).add j)=some v:=fun j v hv=>by
    rw[Bh,mH,AQ w b j cur T mk hb];simpa using At hv
   have hol:(cur.toList.take (n*i.size)).length=n*i.size:=by rw[sL,wN];omega
   have hr:=Ff w t t' ty e i z ht hu hi jB ⟨b,0,none⟩ n cap _ hol oK ux n' news hS Zo tB (Ad7 Zo nF);have wI:=grownCap_ge w (n+n') cap e;have aI:=Ads w (n+n') cap e dE;obtain⟨Gk,Ek⟩:=G1.killB FW;obtain⟨m',g1,g2,g3⟩:=DV Gk htt (e:=e) (sz:=i.size) (n:=n) (n':=n') (cap:=grownCap w (n+n') cap e) (rest:=(Builtin.zeroCells z.cells (grownCap w (n+n') cap e - (n+n'))).toList) (yI.imp fun a u h=>Ie.mono Ek _ a u h) (cB.imp fun a u h=>Ie.mono Ek _ a u h) hol qL (by rw[wN,size_zeroCells,hzc]) wI aI
    (A:=(cur.toList.take (n*i.size)).toArray++news.toArray++Builtin.zeroCells z.cells (grownCap w (n+n') cap e - (n+n'))) Zi (.inr rfl)
   exact⟨_,_,m',hr,g1,Ek.trans g2,g3⟩
 unfold Ala at h3
 split at h3
 · -- nil
  simp only[Ia.run,Bc,Br] at h3;obtain⟨rfl,rfl⟩:=h3;simp only[Ie] at pZ;subst pZ;simp only[wU,mH] at nF dE;exact onNil _ G1 _ hy d1 nF dE
 · -- owned
  rename_i zn g n;simp only[Ia.run] at h3;simp only[Ie] at pZ;obtain⟨LP,_,pZ⟩:=pZ;have htt:(zE y (.own zn g n)).d<=k:=by
   simp only[zE]
   split
   ·exact LP
   ·exact hy
  cases hx:If zn with
  |no g'=>rw[hx] at h3;simp[Ia.run] at h3
  |map _ _ _ _ _=>rw[hx] at h3;simp[Ia.run] at h3
  |box g' c f=>rw[hx] at h3;simp[Ia.run] at h3
  |arr g' sz e' rows f=>
   rw[hx] at h3;simp only at h3
   split at h3
   case isFalse=>simp[Ia.run] at h3
   rename_i hc;obtain⟨rfl,rfl,hnr,rfl⟩:=hc;simp only[Ia.run,Bc,Br] at h3;obtain⟨rfl,rfl⟩:=h3;obtain⟨_,pZ⟩:=pZ _ e' rows false hx;have FW:(If zn).gen=g':=by rw[hx];rfl
   have ho:=G1.obj zn;rw[hx] at ho;simp only[wU] at nF dE;rcases pZ with⟨h0,rfl,hn0'⟩|⟨b,cap,hm,rfl⟩
   ·subst hn0'
    obtain⟨Gk,Ek⟩:=G1.killB FW;simp only[mH,List.take_zero,List.flatten_nil,Acm] at nF dE⊢;obtain⟨u',w',m',q1,q2,q3,q4⟩:=onNil _ Gk _ htt (d1.imp fun a u h=>Ie.mono Ek _ a u h) nF dE;exact⟨u',w',m',q1,q2,Ek.trans q3,q4⟩
   ·rcases ho with⟨h1,_⟩|⟨b',cap',cur,mk,h1,h2,h3,h4,h5,h6,h7,h8,h9⟩
    ·rw[h1] at hm;cases hm
    ·rw[h1] at hm;cases hm
     obtain⟨iQ,iC⟩:=h9 rfl;obtain⟨gE,ha⟩:=(Ai _ _).1 h7;have yP:=ha.take (n*i.size);rw[Acq,AD (xY _ hnr),<-gE.flatten_take] at yP;exact onOld zn _ n cap b cap cur e' mk _ _ htt (by rw[hx];rfl) FW h1 h2 h3 iQ iC (yP.imp fun a u h=>Iq.rep h) d1 (Ve hnr h5) h6 (Nat.le_of_eq h4.symm) nF dE
 · -- a box already
  rename_i zn g sz off n;simp only[Ia.run] at h3;simp only[Ie] at pZ;obtain⟨LP,_,pZ⟩:=pZ
  cases hx:If zn with
  |no g'=>rw[hx] at h3;simp[Ia.run] at h3
  |map _ _ _ _ _=>rw[hx] at h3;simp[Ia.run] at h3
  |arr g' sz e' rows f=>rw[hx] at h3;simp[Ia.run] at h3
  |box g' cells' f=>
   rw[hx] at h3;simp only at h3
   split at h3
   case isFalse=>simp[Ia.run] at h3
   rename_i hc;obtain⟨rfl,rfl,rfl,hnc,rfl,_⟩:=hc;simp only[Ia.run,Bc,Br] at h3;obtain⟨rfl,rfl⟩:=h3;obtain⟨b,c,cap,hm,hncap,⟨hcm,GB⟩,rfl⟩:=pZ _ false hx;have FW:(If zn).gen=g':=by rw[hx];rfl
   have ho:=G1.obj zn;rw[hx] at ho;simp only[wU] at nF dE;obtain⟨b',c',cur,T,mk,h1,h2,h3,h4,h5,h6⟩:=ho;rw[h1] at hm;cases hm;obtain⟨iQ,iC⟩:=h6 rfl;have ha:=((Ae _ _).1 h4).take (n*i.size);rw[Acq,AD hnc] at ha;exact onOld zn _ n cap b c cur T mk _ zn LP (by rw[hx];rfl) FW h1 h2 h3.1 iQ iC ha d1 hncap hcm (by rw[h3.2];omega) nF dE
 ·simp[Ia.run] at h3
end
end
section
open Go
variable {v:AV}{a:Act}{E:cD}{o:Oper}{call:aS}{t:TypeId}{u:Value}{Post:Value->World->Prop}{w':World}
section
variable {P:Program}{I K:Nat->Prop}{m:Mp}{hp hp':Hp}{w:World}{k:Nat}
structure aW (P:Program)(I:Nat->Prop)(w:World)(ts:List TypeId)(rs:List AV)(u:Value)(w':World):Prop where
 old: ∀b,b<w.heap.size->w'.heap[b]?=w.heap[b]?
 size:w.heap.size<=w'.heap.size
 os:w'.os=w.os
 tape:w'.tape=w.tape
 output:w'.output=w.output
 res: ∃I' us bs,u=gF us/\(∀b,I b->I' b)/\(∀b,I' b->I b\/w.heap.size<=b)/\(∀b,I' b->b<w'.heap.size)/\(∀b∈bs,w.heap.size<=b/\ ¬I' b)/\bs.Nodup/\aY P I' w' ts rs us bs
def DatOk (P:Program)(call:aS):Prop:= ∀f args rs,call.dat f args=some rs->Il P f=true-> ∀(I:Nat->Prop) (w:World) (us:List Value),(∀b,I b->b<w.heap.size)->tG I w->Ue (mE I w) args us->
 Calls P f ⟨us⟩ w (fun e w'=> ∃u,e= .returned u/\aW P I w (Iv P f) rs u w')
def sF (I K:Nat->Prop)(m:Mp)(hp:Hp)(w:World)(v:AV)(k:Nat)(I0:Nat->Prop)(m0:Mp)(U9:Hp)(w0:World)(u:Value):Prop:=
 Uj I K m hp w/\aL I0 K m0 U9 w0 I m hp w/\Ie k I m hp w v u
def HeapOk (P:Program)(call:aS):Prop:= ∀k d f args hp v hp',call.hpc k d f args hp=some (v,hp')->Il P f=true-> ∀(I K:Nat->Prop) (m:Mp) (w:World) (us:List Value),Uj I K m hp w->Ue (Ie k I m hp w) args us->
 Calls P f ⟨us⟩ w (fun e w'=> ∃u,e= .returned u/\ ∃I' m',sF I' K m' hp' w' v k I m hp w u)
def Av (P:Program)(call:aS):Prop:=DatOk P call/\HeapOk P call
def yV (P:Program)(o:Oper)(a:Act)(w:World)(Post:Value->World->Prop):Prop:=
 match (execOp a.eval o).run P w with
 | .ok (.value u) w'=>Post u w'
 | .ok .skip w'=>Post undef w'
 | .ok (.enter f args) w'=>Calls P f args w' fun e w''=> ∃u,e= .returned u/\Post u w''
 |_=>False
theorem yV.wp(h:yV P o a w Post){next:Act->World->Prop}{Q:Exit->Act->World->Prop}(hn: ∀u w',Post u w'->next (a.put o.dst u) w'):o.wp P a w next Q:=by
 unfold yV at h;unfold Oper.wp
 split at h
 ·rename_i u w' he;rw[he];exact hn _ _ h
 ·rename_i w' he;rw[he];exact hn _ _ h
 ·rename_i f args w' he
  rw[he];exact h.mono fun e w'' he2=>by obtain⟨u,rfl,h2⟩:=he2;exact hn _ _ h2
 ·exact h.elim
theorem D0 (G:Uj I K m hp w){fr:Nat->AV}(hf: ∀t,Ie k I m hp w (fr t) (a.eval (.tmp t)))(x:Operand):Ie k I m hp w (Uy fr x) (a.eval x):=by
 cases x with
 |tmp t=>exact hf t
 |const v=>
  cases v with
  |agg us=>
   simp only[Uy,Ie,Act.eval];refine⟨us.toList,rfl,(Ae _ _).2 ⟨Zi,fun j a u h1 h2=>?_⟩⟩;rw[qY,h2] at h1
   cases h1
   simp only[Ie]
  |_=>simp only[Uy,Ie,Act.eval]
 |func f=>
  simp only[Uy]
  split
  ·rename_i Ii
   simp only[Ie,Act.eval];exact⟨[],by simp[sW,Ii],by simp[bM]⟩
  ·simp only[Ie]
 |global g=>
  simp only[Uy]
  cases hg:tT g with
  |none=>simp only[Ie]
  |some vs=>
   obtain⟨g1,g2,_⟩:=G.gl g vs hg;simp only[Ie,Iq,Act.eval];refine⟨g,0,vs,rfl,g1,g2,(Ax _ _).2 ⟨Zi,fun j a u h1 h2=>?_⟩⟩;rw[qY,h2] at h1
   cases h1
   exact⟨rfl,Ena hg _ (sM h2)⟩
theorem aW.wx {ts:List TypeId}{rs:List AV}(h:aW P I w ts rs u w'){I0:Nat->Prop}(hi: ∀b,I0 b->b<w.heap.size)(hk: ∀b,K b->b<w.heap.size):WX I0 K w w' where
 keep:=fun b hb=>h.old b (hb.elim (hi b) (hk b))
 size:=h.size
 os:=h.os
 tape:=h.tape
 output:=h.output
theorem Uj.world (G:Uj I K m hp w){I':Nat->Prop}(tA: ∀b,b<w.heap.size->w'.heap[b]?=w.heap[b]?)(W:WX I K w w')(hi: ∀b,I b->I' b)(hi2: ∀b,I' b->I b\/w.heap.size<=b)(hi3: ∀b,I' b->b<w'.heap.size):
  Uj I' K m hp w'/\aL I K m hp w I' m hp w':=by
 have E:aL I K m hp w I' m hp w':={isub:=hi,keep:=W.keep,size:=W.size,os:=W.os,tape:=W.tape,output:=W.output,gmono:=fun _=>D5 _,stable:=fun x _=>(by cases hp x<;>simp<;>exact⟨_,_,⟨rfl,rfl⟩,D5 _⟩)};refine⟨G.step E (fun _=>False) (fun y _=>⟨rfl,rfl⟩) (fun y h=>h.elim) (fun y _ hl q hq=>tA _ (G.blk hl hq)) (fun y _ hl _ q hq hn hI=>?_) G.inj hi3 (fun b hb hk=>?_),E⟩
 ·rcases hi2 _ hI with h|h
  ·exact hn h
  ·exact yY _ (AY (G.blk hl hq) h)
 ·rcases hi2 b hb with h|h
  ·exact G.ik b h hk
  ·exact yY _ (AY (G.klt b hk) h)
theorem aY.flat : ∀{ts:List TypeId} {as:List AV} {us:List Value} {bs:List Nat} {J:Nat->Prop} {w':World},as.all Cpa=true->aY P I w ts as us bs->aY P J w' ts as us bs:=by
 have cell: ∀{t:TypeId} {a:AV} {u:Value} {bs:List Nat} {J:Nat->Prop} {w':World} {v:Value},a= .sc v->gH P I (fun _=>False) w t a u bs->gH P J (fun _=>False) w' t a u bs:=by
  intro t a u bs J w' v e h;subst e;simpa only[gH,Iq] using h
 have cells: ∀{cts:List TypeId} {as:List AV} {us:List Value} {bs:List Nat} {J:Nat->Prop} {w':World},(as.all fun| .sc _=>true|_=>false)=true->bA P I (fun _=>False) w cts as us bs->bA P J (fun _=>False) w' cts as us bs:=by
  intro cts as
  induction as generalizing cts with
  |nil=>
   intro us bs J w' _ h
   cases cts<;>exact h
  |cons a as ih=>
   intro us bs J w' hs h
   cases cts with
   |nil=>simp[bA] at h
   |cons t ts=>
    simp only[bA] at h⊢;simp only[uZ,Ed] at hs;obtain⟨u,us',b1,b2,e1,e2,h1,h2⟩:=h;refine⟨u,us',b1,b2,e1,e2,?_,ih hs.2 h2⟩;have ha:=hs.1
    cases a<;>simp at ha
    exact cell rfl h1
 intro ts
 induction ts with
 |nil=>
  intro as us bs J w' hs h
  cases as with
  |nil=>exact h
  |cons a as=>simp[aY] at h
 |cons t ts ih=>
  intro as us bs J w' hs h
  cases as with
  |nil=>simp[aY] at h
  |cons a as=>
   simp only[aY] at h⊢;simp only[uZ,Ed] at hs;obtain⟨u,us',b1,b2,e1,e2,h1,h2⟩:=h;refine⟨u,us',b1,b2,e1,e2,?_,ih hs.2 h2⟩;unfold gB at h1⊢
   split
   ·rename_i iH
    rw[Ka iH] at h1;obtain⟨cs,us,e3,e4,h3⟩:=h1;subst e3;exact⟨cs,us,rfl,e4,cells hs.1 h3⟩
   ·rename_i iH
    rw[Jx iH] at h1;have ha:=hs.1
    cases a with
    |sc v=>exact cell rfl h1
    |agg cs=>simp[gH,Iq] at h1
    |_=>simp[Cpa] at ha
theorem NI (G:Uj I K m hp w)(hC:Av P call){d f:Nat}{args:List AV}{us:List Value}(hr:Ue (Ie k I m hp w) args us)(h:(jF P E k d call f args).run hp=some (v,hp')):
  Il P f=true/\Calls P f ⟨us⟩ w (fun e w'=> ∃u,e= .returned u/\ ∃I' m',sF I' K m' hp' w' v k I m hp w u):=by
 unfold jF at h
 split at h
 case isFalse=>simp[Ia.run] at h
 rename_i Uz;refine⟨Uz,?_⟩
 split at h
 ·simp only[Ia.run] at h
  split at h
  ·rename_i v1 hp1 hx
   simp only[Bc,Br] at h;obtain⟨rfl,rfl⟩:=h;exact hC.2 k d f args hp _ _ hx Uz I K m w us G hr
  ·cases h
 obtain⟨as,hp1,r1,h2⟩:=Aa h;clear h
 split at h2
 case h_2=>simp[Ia.run] at h2
 rename_i rs mV
 split at h2
 case isFalse=>simp[Ia.run] at h2
 rename_i AL
 cases hflat:Af P f with
 |false=>
  rw[hflat] at r1;obtain⟨I1,G1,E1,d1⟩:=K6 G hr r1;refine(hC.1 f as rs mV Uz I1 w us G1.ilt G1.gl d1).mono fun e w' he=>?_
  obtain⟨u,rfl,hp⟩:=he;refine⟨u,rfl,?_⟩;obtain⟨I2,us',bs,rfl,i1,i2,i3,i4,i5,i6⟩:=hp.res;obtain⟨G2,E2⟩:=G1.world hp.old (hp.wx G1.ilt G1.klt) i1 i2 i3;obtain⟨m',G3,E3,R3⟩:=Nr G2 i6 (fun b hb hk=>yY _ (AY (G1.klt b hk) (i4 b hb).1)) i5 (fun b hb ⟨x,q,hx,hq,e⟩=>yY _ (AY (e▸G1.blk hx hq) (i4 b hb).1)) h2;exact⟨I2,m',G3,(E1.trans E2).trans E3,R3⟩
 |true=>
  rw[hflat] at r1 AL;simp only[Bool.not_true,AZ] at AL r1;obtain⟨e1,d1⟩:=Ps G hr r1;rw[e1] at h2;refine(hC.1 f as rs mV Uz _ w us (fun b hb=>hb.elim (G.ilt b) (fun⟨x,q,hx,hq,e⟩=>e▸G.blk hx hq)) (G.gl.mono (fun _ h=> .inl h) (fun _ _=>rfl)) d1).mono fun e w' he=>?_
  obtain⟨u,rfl,hp⟩:=he;refine⟨u,rfl,?_⟩;obtain⟨I2,us',bs,rfl,i1,i2,i3,i4,i5,i6⟩:=hp.res;obtain⟨G2,E2⟩:=G.world hp.old (hp.wx G.ilt G.klt) (fun _ h=>h) (fun _ h=> .inl h) (fun b hb=>AY (G.ilt b hb) hp.size);obtain⟨m',G3,E3,R3⟩:=Nr G2 (i6.flat AL) (fun b hb hk=>yY _ (AY (G.klt b hk) (i4 b hb).1)) i5 (fun b hb ⟨x,q,hx,hq,e⟩=>yY _ (AY (e▸G.blk hx hq) (i4 b hb).1)) h2;exact⟨I,m',G3,E2.trans E3,R3⟩
/-! ### one operation -/
theorem Ak(h:(execOp a.eval o).run P w= .ok (.value u) w')(hp:Post u w'):yV P o a w Post:=by
 unfold yV;rw[h];exact hp
theorem Oi(h:(execOp a.eval o).run P w= .ok .skip w')(hp:Post undef w'):yV P o a w Post:=by
 unfold yV;rw[h];exact hp
theorem E7a (G:Uj I K m hp w){y:Nm}(hy:y.d<=k){a:AV}(hr:Ie k I m hp w a u)(h:(qT P y t a).run hp=some (v,hp')):
  ∃I' m',sF I' K m' hp' w v k I m hp w u:=by
 unfold qT at h
 split at h
 ·simp only[Ie] at hr
  subst hr
  split at h
  ·rename_i e he
   simp only[iF,Ia.run,Bc,Br] at h;obtain⟨rfl,rfl⟩:=h;obtain⟨G2,E2⟩:=G.virt y (P.cellsOf e) e;refine⟨I,_,G2,E2,?_⟩;simp only[Ie];refine⟨hy,by rw[Ad];exact D5 _,fun sz e' rows' fz hx=>?_⟩;rw[Ad] at hx
   cases hx
   exact⟨D5 _,.inl ⟨Ad _ _ _,trivial,rfl⟩⟩
  ·simp[Ia.run] at h
 ·simp only[Ia.run,Bc,Br] at h
  obtain⟨rfl,rfl⟩:=h;exact⟨I,m,G,.refl _ _ _ _ _,hr⟩
theorem Of (G:Uj I K m hp w){fr:Nat->AV}{a:Act}(hf: ∀t,Ie k I m hp w (fr t) (a.eval (.tmp t))): ∀{l:List (Nat×Operand)} {x:Unit} {hp1:Hp},(xT (l.map fun p=>Uy fr p.2)).run hp=some (x,hp1)->
  hp1=hp/\eO k I m hp w (l.map fun p=>(p.1,Uy fr p.2)) (l.map fun p=>(p.1,a.eval p.2))
 |[],x,hp1,h=>by
  simp only[nT,xT,Ia.run,Bc,Br] at h;exact⟨h.2.symm,trivial⟩
 |p::l,x,hp1,h=>by
  simp only[T9,xT] at h;obtain⟨_,If,r1,h2⟩:=Aa h;obtain⟨e1,hc,_⟩:=Dy r1 (D0 G hf p.2);rw[e1] at h2;obtain⟨e2,hp⟩:=Of G hf h2;exact⟨e2,rfl,hc,hp⟩
theorem Fga{z:List Value}(h:U8 P t=some z): ∃i v,P.info? t=some i/\i.zero=some v/\z=v.cells.toList:=by
 unfold U8 at h
 cases hi:P.info? t with
 |none=>simp[hi] at h
 |some i=>
  cases hz:i.zero with
  |none=>simp[hi,hz] at h
  |some v=>simp[hi,hz] at h;exact⟨i,v,rfl,hz,h.symm⟩
theorem Y2 {P:Program}(w:World)(ts:Array TypeId)(t:TypeId)(k k':IntKind)(x y:Int):
  (Builtin.max_ ts t #[.int k x,.int k' y]).run P w= .ok (.int k (max x y)) w:=by
 have e:(if y>x then y else x)=max x y:=by
  rw[Int.max_def]
  split<;>split<;>omega
 simp[Builtin.max_,Builtin.max2,e]
theorem Y1 {P:Program}(w:World)(ts:Array TypeId)(t:TypeId)(k k':IntKind)(x y:Int):
  (Builtin.min_ ts t #[.int k x,.int k' y]).run P w= .ok (.int k (min x y)) w:=by
 have e:(if y<x then y else x)=min x y:=by
  rw[Int.min_def]
  split<;>split<;>omega
 simp[Builtin.min_,Builtin.min2,e]
theorem Jo : ∀{cs:List AV} {us us':List Value},fT cs=some us'->bM k I m hp w cs us->us'=us
 |[],us,us',h,hr=>by
  simp only[fT,Bc] at h;simp only[bM] at hr;rw[<-h,hr]
 |c::cs,us,us',h,hr=>by
  simp only[bM] at hr;obtain⟨v,vs,rfl,h1,h2⟩:=hr;unfold fT at h
  split at h
  ·rename_i cE;cases cE
  ·rename_i v' cs' cE
   cases cE
   cases hs:fT cs with
   |none=>rw[hs] at h;cases h
   |some us2=>
    rw[hs] at h;simp only[wD,Bc] at h;simp only[Ie] at h1;rw[<-h,h1,Jo hs h2]
  ·rename_i f cs' cE
   cases cE
   cases hs:fT cs with
   |none=>rw[hs] at h;cases h
   |some us2=>
    rw[hs] at h;simp only[wD,Bc] at h;simp only[Ie] at h1;obtain⟨us3,h1,h3⟩:=h1;simp only[bM] at h3;subst h3;rw[<-h,h1,Jo hs h2]
  ·cases h
theorem MU(hE:dS P E)(hC:Av P call)(G:Uj I K m hp w){fr:Nat→AV}(hf: ∀t,Ie k I m hp w (fr t) (a.eval (.tmp t)))
  (h:(bL P E k call fr o).run hp=some (v,hp')):yV P o a w (fun u w'=> ∃I' m',sF I' K m' hp' w' v k I m hp w u):=by
 have eY:=D0 G hf;obtain⟨dst,op,type,pos,after,guard⟩:=o;unfold bL at h
 cases op<;>simp only at h
 case move x=>
  simp only[Ia.run,Bc,Br] at h;obtain⟨rfl,rfl⟩:=h;exact Ak (by simp[execOp]) ⟨I,m,G,.refl _ _ _ _ _,eY x⟩
 case assign x=>
  exact Ak (by simp[execOp]) (E7a G (D5 k) (eY x) h)
 case pick c x y=>
  have hc:=eY c
  split at h
  ·rename_i t hct
   rw[hct] at hc;simp only[Ie] at hc;simp only[Ia.run,Bc,Br] at h;obtain⟨rfl,rfl⟩:=h;refine Ak (u:=if t then a.eval x else a.eval y) (w':=w) (by simp[execOp,hc,asBool]) ⟨I,m,G,.refl _ _ _ _ _,?_⟩
   cases t
   ·exact eY y
   ·exact eY x
  ·simp[Ia.run] at h
 case alloc t=>
  split at h
  ·rename_i z hz
   obtain⟨i,zv,hi,jB,rfl⟩:=Fga hz;obtain⟨I',m',G',E',R'⟩:=Q0 (D:=k) (us:=zv.cells.toList) G ⟨Zi,fun j a u h1 h2=>by rw[qY,h2] at h1;cases h1;simp only[Ie]⟩ h;exact Ak (by simp[execOp,Instr.alloc,zeroValue,typeInfo,hi,jB,newVar,newRow]) ⟨I',m',G',E',R'⟩
  ·simp[Ia.run] at h
 case box t x=>
  obtain⟨_,hp1,r1,h2⟩:=Aa h;obtain⟨e1,hc,_⟩:=Dy r1 (eY x);rw[e1] at h2;obtain⟨I',m',G',E',R'⟩:=Q0 G hc h2;exact Ak (by simp[execOp,Instr.box,newVar,newRow]) ⟨I',m',G',E',R'⟩
 case build t parts=>
  obtain⟨_,hp1,r1,h2⟩:=Aa h;obtain⟨e1,hpr⟩:=Of G hf r1;rw[e1] at h2;obtain⟨e2,u',Uk,cJ⟩:=Ksa (us:=parts.map fun p=>(p.1,a.eval p.2)) (by simpa using hpr) h2;subst e2;exact Ak (by simp[execOp,Uk]) ⟨I,m,G,.refl _ _ _ _ _,cJ⟩
 case buildSlice t n parts=>
  obtain⟨_,hp1,r1,h2⟩:=Aa h;obtain⟨e1,hpr⟩:=Of G hf r1;rw[e1] at h2
  split at h2
  ·obtain⟨u',w',I',m',Uk,G',E',cJ⟩:=X7 (us:=parts.map fun p=>(p.1,a.eval p.2)) G (by simpa using hpr) h2
   exact Ak (by simp[execOp,Uk]) ⟨I',m',G',E',cJ⟩
  ·obtain⟨u',w',I',m',Uk,G',E',cJ⟩:=Qd (us:=parts.map fun p=>(p.1,a.eval p.2)) G (D5 k) (by simpa using hpr) h2
   exact Ak (by simp[execOp,Uk]) ⟨I',m',G',E',cJ⟩
 case makeFunc fn first caps=>
  cases fn with
  |func f=>
   have uJ: ∀xs:Array Operand,bM k I m hp w (xs.toList.map (Uy fr)) (xs.toList.map a.eval):=fun xs=>(Ae _ _).2 ⟨Zi,fun j x u h1 h2=>by
    rw[qY] at h1 h2
    cases hj:xs.toList[j]? with
    |none=>rw[hj] at h1;cases h1
    |some z=>rw[hj] at h1 h2;cases h1;cases h2;exact eY z⟩
   simp only at h
   split at h
   ·rename_i Ii
    split at h
    ·rename_i he
     simp only[Ia.run,Bc,Br] at h;obtain⟨rfl,rfl⟩:=h;obtain rfl:first= #[]:=Array.isEmpty_iff.1 he
     refine Ak (u:= .func (.func f) #[] (caps.map a.eval)) (w':=w) (by simp[execOp,Instr.makeFunc]) ⟨I,m,G,.refl _ _ _ _ _,?_⟩;simp only[Ie];refine⟨caps.toList.map a.eval,?_,uJ caps⟩;simp only[sW,Ka Ii];congr 1;apply sI;simp
    ·split at h
     ·rename_i he
      simp only[Ia.run,Bc,Br] at h;obtain⟨rfl,rfl⟩:=h;obtain rfl:caps= #[]:=Array.isEmpty_iff.1 he;refine Ak (u:= .func (.func f) (first.map a.eval) #[]) (w':=w) (by simp[execOp,Instr.makeFunc]) ⟨I,m,G,.refl _ _ _ _ _,?_⟩;simp only[Ie];refine⟨first.toList.map a.eval,?_,uJ first⟩;have hn: ¬((f:Nat)+1000000<1000000):=Nat.not_lt.2 (Nat.le_add_left 1000000 f);simp only[sW,Jx hn,Nat.add_sub_cancel];congr 1;apply sI;simp
     ·simp[Ia.run] at h
   ·simp[Ia.run] at h
  |_=>simp only at h;simp[Ia.run] at h
 case load t x=>
  obtain⟨rfl,u',Uk,cJ⟩:=To P G (eY x) h;exact Ak (by simp[execOp,Uk]) ⟨I,m,G,.refl _ _ _ _ _,cJ⟩
 case store t x y=>
  split at h
  ·rename_i hi
   obtain⟨_,hp1,r1,h2⟩:=Aa h;obtain⟨e1,hc,_⟩:=Dy r1 (eY y);rw[e1] at h2;obtain⟨rfl,w',I',m',Uk,G',E'⟩:=F2a G (eY x) hc h2 hi;exact Oi (by simp[execOp,Uk]) ⟨I',m',G',E',by simp only[Ie]⟩
  ·simp[Ia.run] at h
 case makeMap t r=>
  cases r with
  |some r=>simp only at h;simp[Ia.run] at h
  |none=>
   simp only at h
   split at h
   ·simp only[Ia.run,Bc,Br] at h
    obtain⟨rfl,rfl⟩:=h;obtain⟨m',G',E',cJ⟩:=Z4 (k:=k) G (y:=⟨k,E.off+dst.getD 0,0⟩) (D5 k);exact Ak (by simp[execOp,Instr.makeMap]) ⟨I,m',G',E',cJ⟩
   ·simp[Ia.run] at h
 case lookup t x i ok=>
  obtain⟨rfl,u',Uk,cJ⟩:=D6a G (eY x) (eY i) h;exact Ak (by simp[execOp,Uk]) ⟨I,m,G,.refl _ _ _ _ _,cJ⟩
 case mapUpdate t x i y=>
  obtain⟨_,hp1,r1,h2⟩:=Aa h;obtain⟨e1,hc,us,hu,uP⟩:=Dy r1 (eY y);rw[e1] at h2;obtain⟨rfl,w',I',m',Uk,G',E'⟩:=Rl G (eY x) (eY i) hc ⟨us,hu⟩ uP h2;exact Oi (by simp[execOp,Uk]) ⟨I',m',G',E',by simp only[Ie]⟩
 case insert t x i y=>
  obtain⟨_,hp1,r1,h2⟩:=Aa h;obtain⟨e1,hc,us,hu,uP⟩:=Dy r1 (eY y);rw[e1] at h2;obtain⟨rfl,w',I',m',Uk,G',E'⟩:=Rl G (eY x) (eY i) hc ⟨us,hu⟩ uP h2;exact Oi (by simp[execOp,Uk]) ⟨I',m',G',E',by simp only[Ie]⟩
 case makeInterface t x=>
  split at h
  case isFalse=>simp[Ia.run] at h
  rename_i iQ;have Uk: ∀u,(Instr.makeInterface t u).run P w= .ok (.iface t u) w:=fun u=>by
   unfold On at iQ
   cases hu:P.underlying t with
   |none=>rw[hu] at iQ;cases iQ
   |some d=>
    rw[hu] at iQ
    cases d<;>first|(simp at iQ;done)|simp[Instr.makeInterface,Qi hu]
  have hx:=eY x
  split at h
  ·rename_i v' hv
   rw[hv] at hx;simp only[Ie] at hx;simp only[Ia.run,Bc,Br] at h;obtain⟨rfl,rfl⟩:=h;exact Ak (u:= .iface t v') (w':=w) (by simp[execOp,hx,Uk]) ⟨I,m,G,.refl _ _ _ _ _,by simp only[Ie]⟩
  ·rename_i cs hv
   rw[hv] at hx;simp only[Ie] at hx;obtain⟨us,hu,hx⟩:=hx
   split at h
   ·rename_i us' hs
    simp only[Ia.run,Bc,Br] at h;obtain⟨rfl,rfl⟩:=h;have:=Jo hs hx;subst this;exact Ak (u:= .iface t (.agg ⟨us'⟩)) (w':=w) (by simp[execOp,hu,Uk]) ⟨I,m,G,.refl _ _ _ _ _,by simp only[Ie]⟩
   ·simp[Ia.run] at h
  ·simp[Ia.run] at h
 case nilCheck x=>
  obtain⟨rfl,b,o,hu,cJ⟩:=Ny (eY x) h;exact Ak (u:=a.eval x) (w':=w) (by simp[execOp,hu]) ⟨I,m,G,.refl _ _ _ _ _,by rw[hu];simpa using cJ⟩
 case binOp op t x y p=>
  split at h
  ·rename_i v' hv
   simp only[Ia.run,Bc,Br] at h;obtain⟨rfl,rfl⟩:=h;obtain⟨r,Uk,cJ⟩:=bin_ok (x:=x) (y:=y) hE.1 (eY x) (eY y) hv;refine Ak (u:=r) (w':=w) ?_ ⟨I,m,G,.refl _ _ _ _ _,cJ⟩;show((do let x←(do eqGuard op t x y (a.eval x) (a.eval y);Go.binOp op t (a.eval x) (a.eval y):Sem Value);pure (Next.value x)):Sem Next).run P w=_;rw[mG,Uk];rfl
  ·simp[Ia.run] at h
 case unOp op t x=>
  split at h
  ·rename_i v' hv
   simp only[Ia.run,Bc,Br] at h;obtain⟨rfl,rfl⟩:=h;obtain⟨r,Uk,cJ⟩:=un_ok (P:=P) (eY x) hv;exact Ak (u:=r) (w':=w) (by simp[execOp,Uk]) ⟨I,m,G,.refl _ _ _ _ _,cJ⟩
  ·simp[Ia.run] at h
 case convert s d x=>
  obtain⟨u',w',m',Uk,G',E',cJ⟩:=Aua G (D5 k) (eY x) h;exact Ak (by simp[execOp,Uk]) ⟨I,m',G',E',cJ⟩
 case makeSlice t l c=>
  split at h
  ·obtain⟨u',w',m',Uk,G',E',cJ⟩:=Hna G (eY l) (eY c) h
   exact Ak (by simp[execOp,Uk]) ⟨I,m',G',E',cJ⟩
  ·obtain⟨u',w',m',Uk,G',E',cJ⟩:=KL G (D5 k) (eY l) (eY c) h
   exact Ak (by simp[execOp,Uk]) ⟨I,m',G',E',cJ⟩
 case slice t x lo hi mx=>
  have ho: ∀z:Option Operand,nQ k I m hp w (z.map (Uy fr)) (z.map a.eval):=fun z=>by
   cases z with
   |none=>trivial
   |some z=>exact eY z
  obtain⟨I',u',Uk,G',E',cJ⟩:=F8a G (eY x) (ho lo) (ho hi) (ho mx) h;exact Ak (by simp only[execOp,mG,Uk];rfl) ⟨I',m,G',E',cJ⟩
 case fieldAddr s x f=>
  obtain⟨rfl,u',Uk,cJ⟩:=J2a (eY x) h;exact Ak (by simp[execOp,Uk]) ⟨I,m,G,.refl _ _ _ _ _,cJ⟩
 case field t x f=>
  obtain⟨rfl,u',Uk,cJ⟩:=Eua (eY x) h;exact Ak (by simp[execOp,Uk]) ⟨I,m,G,.refl _ _ _ _ _,cJ⟩
 case indexAddr t x i=>
  obtain⟨rfl,u',Uk,cJ⟩:=Jaa (eY x) (eY i) h;exact Ak (by simp[execOp,Uk]) ⟨I,m,G,.refl _ _ _ _ _,cJ⟩
 case index t x i=>
  obtain⟨rfl,u',Uk,cJ⟩:=Eia (eY x) (eY i) h;exact Ak (by simp[execOp,Uk]) ⟨I,m,G,.refl _ _ _ _ _,cJ⟩
 case extract t i=>
  have hx:=eY t
  split at h
  ·rename_i vs FP
   rw[FP] at hx;simp only[Ie] at hx;obtain⟨us,hu,cU⟩:=hx
   split at h
   ·rename_i v' hv
    simp only[Ia.run,Bc,Br] at h;obtain⟨rfl,rfl⟩:=h;obtain⟨u,h1,h2⟩:=((Ae _ _).1 cU).get hv;exact Ak (u:=u) (w':=w) (by simp[execOp,hu,Instr.extract,h1]) ⟨I,m,G,.refl _ _ _ _ _,h2⟩
   ·simp[Ia.run] at h
  ·simp[Ia.run] at h
 case call c=>
  obtain⟨callee,args,argTypes⟩:=c;simp only at h
  split at h
  ·rename_i x t e2 e3
   have e2':args= #[x]:=sI e2;have e3':argTypes= #[t]:=sI e3;subst e2' e3';obtain⟨rfl,u',Uk,cJ⟩:=len_ok (ty:=type) (eY x) h;exact Ak (by simp[execOp,resolve,invoke,builtin,Uk]) ⟨I,m,G,.refl _ _ _ _ _,cJ⟩
  ·rename_i s x t t' e2 e3
   have e2':args= #[s,x]:=sI e2;have e3':argTypes= #[t,t']:=sI e3;subst e2' e3'
   split at h
   ·obtain⟨u',w',I',m',Uk,G',E',cJ⟩:=A0a (ty:=type) G (y:=⟨k,E.off+dst.getD 0,0⟩) (D5 k) (eY s) (eY x) h
    exact Ak (by simp[execOp,resolve,invoke,builtin,Uk]) ⟨I',m',G',E',cJ⟩
   ·obtain⟨u',w',m',Uk,G',E',cJ⟩:=Faa (ty:=type) G (D5 k) (eY s) (eY x) h
    exact Ak (by simp[execOp,resolve,invoke,builtin,Uk]) ⟨I,m',G',E',cJ⟩
  ·rename_i s x t t' e2 e3
   have e2':args= #[s,x]:=sI e2;have e3':argTypes= #[t,t']:=sI e3;subst e2' e3';obtain⟨u',w',Uk,G',E',cJ⟩:=NE (t':=t') (ty:=type) G (eY s) (eY x) h;exact Ak (by simp[execOp,resolve,invoke,builtin,Uk]) ⟨I,m,G',E',cJ⟩
  ·rename_i _ x y e2
   have e2':args= #[x,y]:=sI e2;subst e2'
   split at h
   ·rename_i kd n kd' n' hx hy
    have h1:=eY x;have h2:=eY y;rw[hx] at h1;rw[hy] at h2;simp only[Ie] at h1 h2;simp only[Ia.run,Bc,Br] at h;obtain⟨rfl,rfl⟩:=h;refine Ak (u:= .int kd (min n n')) ?_ ⟨I,m,G,.refl _ _ _ _ _,by simp only[Ie]⟩;have Uk:=fun ts t=>Y1 (P:=P) w ts t kd kd' n n'
    simp[execOp,resolve,invoke,builtin,h1,h2,Uk]
   ·simp[Ia.run] at h
  ·rename_i _ x y e2
   have e2':args= #[x,y]:=sI e2;subst e2'
   split at h
   ·rename_i kd n kd' n' hx hy
    have h1:=eY x;have h2:=eY y;rw[hx] at h1;rw[hy] at h2;simp only[Ie] at h1 h2;simp only[Ia.run,Bc,Br] at h;obtain⟨rfl,rfl⟩:=h;refine Ak (u:= .int kd (max n n')) ?_ ⟨I,m,G,.refl _ _ _ _ _,by simp only[Ie]⟩;have Uk:=fun ts t=>Y2 (P:=P) w ts t kd kd' n n'
    simp[execOp,resolve,invoke,builtin,h1,h2,Uk]
   ·simp[Ia.run] at h
  ·rename_i x
   split at h
   case h_3=>simp[Ia.run] at h
   case h_2=>rename_i l _ _ _;rw[Jx (by rw[hE.2 l];simp)] at h;simp[Ia.run] at h
   rename_i f cs hx;have sY:=eY x;rw[hx] at sY;simp only[Ie] at sY;obtain⟨us,hu,cB⟩:=sY;have pR:Ue (Ie k I m hp w) (args.toList.map (Uy fr)) (args.toList.map a.eval):=by
    refine⟨Zi,fun j x u h1 h2=>?_⟩;rw[qY] at h1 h2
    cases hj:args.toList[j]? with
    |none=>rw[hj] at h1;cases h1
    |some z=>rw[hj] at h1 h2;cases h1;cases h2;exact eY z
   obtain⟨vs,cU,FP⟩: ∃vs,Ue (Ie k I m hp w) (fnA f (args.toList.map (Uy fr)) cs) vs∧(⟨vs⟩:Array Value)=(if f<1000000 then #[] else⟨us⟩)++args.map a.eval++(if f<1000000 then⟨us⟩ else #[]):=by
    unfold fnA;by_cases Ii:f<1000000
    ·simp only[Ka Ii]
     exact⟨_,pR.append ((Ae _ _).1 cB),by apply sI;simp⟩
    ·simp only[Jx Ii]
     exact⟨_,((Ae _ _).1 cB).append pR,by apply sI;simp⟩
   obtain⟨Uz,fV⟩:=NI G hC cU h;rw[FP] at fV;clear FP cU h;have uP:a.eval x= .func (.func (fnN f)) (if f<1000000 then #[] else⟨us⟩) (if f<1000000 then⟨us⟩ else #[]):=hu;generalize (if f<1000000 then(#[]:Array Value) else⟨us⟩)=FA at uP fV;generalize (if f<1000000 then(⟨us⟩:Array Value) else #[])=FB at uP fV;generalize fnN f=F at uP fV Uz;unfold Il at Uz
   split at Uz
   ·rename_i fn kI
    simp only[Ed,zC] at Uz;have Uk:(execOp a.eval ⟨dst,.call ⟨.value x,args,argTypes⟩,type,pos,after,guard⟩).run P w= .ok (.enter F (FA++args.map a.eval++FB)) w:=by
     have hb:fn.body≠none:=fun hq=>by simp[hq] at Uz
     have uG:fn.name≠ "runtime.NumGoroutine" :=by simpa using Uz.2
     simp[execOp,resolve,uP,Deferred.ofValue,invoke,callFunc,kI,uG,hb]
    unfold yV;rw[Uk];exact fV
   ·cases Uz
  ·simp[Ia.run] at h
 all_goals simp[Ia.run] at h
end
end
section
open Go
variable {st:AS}{v:AV}{a:Act}{o:Oper}{d:Option Nat}{w:World}
structure jZ where
 I:Nat->Prop
 m:Mp
 hp:Hp
 w:World
 df:List Deferred
def aX (k N:Nat)(K:Nat->Prop)(B:jZ)(st:AS)(a:Act)(w:World):Prop:=
 ∃I m,Uj I K m st.hp w/\aL B.I K B.m B.hp B.w I m st.hp w/\(∀t,Ie k I m st.hp w (st.fr t) (a.eval (.tmp t)))/\a.tmps.size=N/\a.defers=B.df
section
variable {P:Program}{K:Nat->Prop}{k N:Nat}{B:jZ}{E:cD}{call:aS}
theorem Eu (a:Act)(d:Option Nat)(u:Value):(a.put d u).tmps.size=a.tmps.size:=by cases d<;>simp[Act.put]
theorem Jp (a:Act)(d:Option Nat)(u:Value):(a.put d u).defers=a.defers:=by cases d<;>rfl
theorem G7 (a:Act)(d:Nat)(u:Value)(t:Nat)(hd:d<a.tmps.size):(a.put (some d) u).eval (.tmp t)=if t=d then u else a.eval (.tmp t):=by
 by_cases h:t=d
 ·subst h
  simp[Act.put,Act.eval,hd]
 ·have h':d≠t:=fun e=>h e.symm
  simp[Act.put,Act.eval,h,Ac1 h']
theorem Sz {I:Nat->Prop}{m:Mp}{hp:Hp}{fr:Nat->AV}{u:Value}(hf: ∀t,Ie k I m hp w (fr t) (a.eval (.tmp t)))(hv:Ie k I m hp w v u)(hd: ∀x,d=some x->x<a.tmps.size):
  ∀t,Ie k I m hp w (Uw fr d v t) ((a.put d u).eval (.tmp t)):=by
 intro t
 cases d with
 |none=>exact hf t
 |some d=>
  rw[G7 a d u t (hd d rfl)];simp only[Uw]
  split
  ·exact hv
  ·exact hf t
theorem aX.op (hE:dS P E)(hC:Av P call)(S:aX k N K B st a w){hp':Hp}(hd: ∀x,o.dst=some x->x<N)(h:(bL P E k call st.fr o).run st.hp=some (v,hp')):
  yV P o a w (fun u w'=>aX k N K B ⟨Uw st.fr o.dst v,hp'⟩ (a.put o.dst u) w'):=by
 obtain⟨I,m,G,E0,hf,hs,rX⟩:=S;have:=MU hE hC G hf h;unfold yV at this⊢;have key: ∀u w',(∃I' m',sF I' K m' hp' w' v k I m st.hp w u)->aX k N K B ⟨Uw st.fr o.dst v,hp'⟩ (a.put o.dst u) w':=by
  rintro u w' ⟨I',m',G',E',R'⟩;exact⟨I',m',G',E0.trans E',Sz (fun t=>Ie.mono E' _ _ _ (hf t)) R' (fun x hx=>by rw[hs];exact hd x hx),by rw[Eu];exact hs,by rw[Jp];exact rX⟩
 split at this
 ·exact key _ _ this
 ·exact key _ _ this
 ·exact this.mono fun e w' he=>by obtain⟨u,e1,h2⟩:=he;exact⟨u,e1,key _ _ h2⟩
 ·exact this.elim
theorem aX.skip(S:aX k N K B st a w)(hd: ∀x,d=some x->x<N):aX k N K B ⟨Uw st.fr d (.sc undef),st.hp⟩ (a.put d undef) w:=by
 obtain⟨I,m,G,E0,hf,hs,rX⟩:=S;exact⟨I,m,G,E0,Sz hf (by simp only[Ie]) (fun x hx=>by rw[hs];exact hd x hx),by rw[Eu];exact hs,by rw[Jp];exact rX⟩
theorem aX.guard(S:aX k N K B st a w){all:Array Oper}{b:Bool}(h:bD all st.fr o=some b):Region.wanted o (yielded all a.tmps)=b:=by
 obtain⟨I,m,G,E0,hf,hs,rX⟩:=S;unfold bD at h;unfold Region.wanted
 split at h
 ·rename_i hg;rw[hg];simpa using h
 ·rename_i j want hg
  rw[hg];simp only
  split at h
  ·rename_i d hd
   have hr:=hf d;unfold yielded;rw[hd];simp only[Adm];simp only[Act.eval,Nh] at hr
   split at h
   ·rename_i c hc
    rw[hc] at hr;simp only[Ie] at hr
    cases ht:a.tmps[d]? with
    |none=>rw[ht] at hr;simp[undef] at hr
    |some u=>
     rw[ht] at hr;simp only[X1] at hr;subst hr;simp only[Bc] at h;rw[<-h]
     cases c<;>cases want<;>rfl
   ·rename_i c hc
    rw[hc] at hr;simp only[Ie] at hr;simp only[Bc] at h;rw[<-h]
    cases ht:a.tmps[d]? with
    |none=>rfl
    |some u=>
     rw[ht] at hr;simp only[X1] at hr;subst hr;rfl
   ·cases h
  ·cases h
theorem Pe (hE:dS P E)(hC:Av P call){all:Array Oper}{Q:Exit->Act->World->Prop}: ∀(os:List Oper) (n:Nat) {st st':AS} {a:Act} {w:World},(∀j,os[j]?=all[n+j]?)->(∀o∈os,∀x,o.dst=some x->x<N)->
  aX k N K B st a w->cW P E k call all os st=some st'->(∀a' w',aX k N K B st' a' w'->Q .normal a' w')->wpOps P all Q (List.range' n os.length) a w
 |[],n,st,st',a,w,_,_,S,h,hQ=>by
  simp only[cW,Bc] at h;subst h;exact hQ a w S
 |o::os,n,st,st',a,w,hl,hd,S,h,hQ=>by
  have h0:all[n]?=some o:=by simpa using(hl 0).symm
  have tD: ∀j,os[j]?=all[n+1+j]?:=fun j=>by have:=hl (j+1);simpa[tJ,OF 1 j] using this
  have uT: ∀o∈os,∀x,o.dst=some x->x<N:=fun p hp=>hd p (T8 _ hp)
  have DD:=hd o (Vc ..);simp only[cW] at h;simp only[wP,Acg,wpOps,h0]
  split at h
  ·rename_i hg
   rw[S.guard hg,Ka rfl]
   split at h
   ·rename_i v hp hr
    refine .inl ((S.op hE hC DD hr).wp fun u w' S'=>?_);exact Pe hE hC os (n+1) tD uT S' h hQ
   ·cases h
  ·rename_i hg
   rw[S.guard hg];simp only[pW,lJ];exact Pe hE hC os (n+1) tD uT (S.skip DD) h hQ
  ·cases h
theorem Vs (hE:dS P E)(hC:Av P call){all:Array Oper}{Q:Exit->Act->World->Prop}{st':AS}{id:Nat}(hd: ∀o∈all.toList,∀x,o.dst=some x->x<N)(S:aX k N K B st a w)(h:cW P E k call all all.toList st=some st')(hQ: ∀a' w',aX k N K B st' a' w'->Q .normal a' w'):
  (Code.region id all false).wp P Q a w:=by
 refine vA ?_;have:=Pe hE hC (Q:=Q) all.toList 0 Zi hd S h hQ;rwa [wN,<-Acj] at this
end
end
section
open Go
variable {o o' a b:It}{v:AV}{E:cD}{f:I8}{hp hp1 If:Hp}{Rp Wq:List I8}{off k:Nat}{x:Nm}{β:Type}
def iU (hp hp':Hp):I8->Prop
 | .all x=>hp x=hp' x
 | .hd x=>(hp x).head=(hp' x).head
 | .cl x off=>eV (hp x) off=eV (hp' x) off
 | .top=>hp=hp'
 | .but _=>True
theorem Kd(h:Uq o off v=some o'):o'.head=o.head:=by
 cases o with
 |box g c f=>
  simp only[Uq] at h
  split at h
  ·cases h;simp[It.head]
  ·cases h
 |no g=>simp[Uq] at h
 |arr g sz e rows f=>simp[Uq] at h
 |map g ag ks rows f=>simp[Uq] at h
theorem D9(h:Uq o off v=some o')(off':Nat):eV o' off'=if off'=off then some v else eV o off':=by
 cases o with
 |box g c f=>
  simp only[Uq] at h
  split at h
  ·rename_i hl
   cases h
   simp only[eV];by_cases e:off'=off
   ·subst e;simp[hl]
   ·rw[Jx e,Ad0 (fun h=>e h.symm)]
  ·cases h
 |no g=>simp[Uq] at h
 |arr g sz e rows f=>simp[Uq] at h
 |map g ag ks rows f=>simp[Uq] at h
theorem Y0 {o1 p:It}(h:Uq o off v=some o1)(hh:o.head=p.head): ∃p1,Uq p off v=some p1:=by
 cases o with
 |box g c f=>
  simp only[Uq] at h
  split at h
  ·rename_i hl
   cases p with
   |box g' c' f'=>
    simp only[It.head,NZ.box.injEq] at hh;exact⟨_,by simp only[Uq];rw[Ka Zo]⟩
   |no g'=>simp[It.head] at hh
   |arr g' sz e rows f'=>simp[It.head] at hh
   |map g' ag ks rows f'=>simp[It.head] at hh
  ·cases h
 |no g=>simp[Uq] at h
 |arr g sz e rows f=>simp[Uq] at h
 |map g ag ks rows f=>simp[Uq] at h
section
variable {α:Type}
theorem Cd : ∀(p:Ia α) {hp hp1:Hp} {R W R1 W1:List I8} {v:α},p.runF hp R W=some (v,hp1,R1,W1)->(∀f∈R,f∈R1)/\(∀f∈W,f∈W1)
 | .ret a,hp,hp1,R,W,R1,W1,v,h=>by
  simp only[Ia.runF,Bc,Br] at h;obtain⟨_,_,rfl,rfl⟩:=h;exact⟨fun _ h=>h,fun _ h=>h⟩
 | .get x k,hp,hp1,R,W,R1,W1,v,h=>by
  simp only[Ia.runF] at h;have:=Cd (k (hp x)) h;exact⟨fun f hf=>this.1 f (T8 _ hf),this.2⟩
 | .put x o k,hp,hp1,R,W,R1,W1,v,h=>by
  simp only[Ia.runF] at h;have:=Cd k h;exact⟨this.1,fun f hf=>this.2 f (T8 _ hf)⟩
 | .hdr x k,hp,hp1,R,W,R1,W1,v,h=>by
  simp only[Ia.runF] at h;have:=Cd (k (hp x).head) h;exact⟨fun f hf=>this.1 f (T8 _ hf),this.2⟩
 | .getC x off k,hp,hp1,R,W,R1,W1,v,h=>by
  simp only[Ia.runF] at h
  split at h
  ·rename_i c hc
   have:=Cd (k c) h;exact⟨fun f hf=>this.1 f (T8 _ (T8 _ hf)),this.2⟩
  ·cases h
 | .putC x off c k,hp,hp1,R,W,R1,W1,v,h=>by
  simp only[Ia.runF] at h
  split at h
  ·have:=Cd k h
   exact⟨fun f hf=>this.1 f (T8 _ hf),fun f hf=>this.2 f (T8 _ hf)⟩
  ·cases h
 | .ext g k,hp,hp1,R,W,R1,W1,v,h=>by
  simp only[Ia.runF] at h
  split at h
  ·have:=Cd (k _) h
   exact⟨fun f hf=>this.1 f (T8 _ hf),fun f hf=>this.2 f (T8 _ hf)⟩
  ·cases h
 | .fail,_,_,_,_,_,_,_,h=>by simp[Ia.runF] at h
theorem Es : ∀(p:Ia α) {hp hp1:Hp} {R W R1 W1:List I8} {v:α},p.runF hp R W=some (v,hp1,R1,W1)->p.run hp=some (v,hp1)
 | .ret a,hp,hp1,R,W,R1,W1,v,h=>by
  simp only[Ia.runF,Bc,Br] at h;simp[Ia.run,h]
 | .get x k,hp,hp1,R,W,R1,W1,v,h=>by
  simp only[Ia.runF] at h;exact Es (k (hp x)) h
 | .put x o k,hp,hp1,R,W,R1,W1,v,h=>by
  simp only[Ia.runF] at h;exact Es k h
 | .hdr x k,hp,hp1,R,W,R1,W1,v,h=>by
  simp only[Ia.runF] at h;exact Es (k (hp x).head) h
 | .getC x off k,hp,hp1,R,W,R1,W1,v,h=>by
  simp only[Ia.runF] at h;simp only[Ia.run]
  split at h
  ·rename_i c hc
   exact Es (k c) h
  ·cases h
 | .putC x off c k,hp,hp1,R,W,R1,W1,v,h=>by
  simp only[Ia.runF] at h;simp only[Ia.run]
  split at h
  ·rename_i c hc
   exact Es k h
  ·cases h
 | .ext g k,hp,hp1,R,W,R1,W1,v,h=>by
  simp only[Ia.runF] at h;simp only[Ia.run]
  split at h
  ·exact Es (k _) h
  ·cases h
 | .fail,_,_,_,_,_,_,_,h=>by simp[Ia.runF] at h
theorem B9 : ∀(p:Ia α) {hp hp1 hp':Hp} {R W R1 W1:List I8} {v:α},p.runF hp R W=some (v,hp1,R1,W1)->(∀f∈R1,iU hp hp' f)->
  ∃oH,p.runF hp' R W=some (v,oH,R1,W1)/\(∀f,iU hp hp' f->iU hp1 oH f)/\((∀f∈W,iU hp hp' f)-> ∀f∈W1,iU hp1 oH f)
 | .ret a,hp,hp1,hp',R,W,R1,W1,v,h,ha=>by
  simp only[Ia.runF,Bc,Br] at h;obtain⟨rfl,rfl,rfl,rfl⟩:=h;exact⟨hp',rfl,fun _ h=>h,fun h=>h⟩
 | .get x k,hp,hp1,hp',R,W,R1,W1,v,h,ha=>by
  simp only[Ia.runF] at h⊢;have hx:iU hp hp' (.all x):=ha _ ((Cd _ h).1 _ (Vc ..));have ih:=B9 (k (hp x)) h ha;simp only[iU] at hx;rwa [<-hx]
 | .put x o k,hp,hp1,hp',R,W,R1,W1,v,h,ha=>by
  simp only[Ia.runF] at h⊢;have key: ∀f,iU hp hp' f->iU (Ur hp x o) (Ur hp' x o) f:=by
   intro f hf
   cases f with
   |all y=>by_cases e:y=x<;>simp only[iU,Ur,e,iW,lJ] at hf⊢;exact hf
   |hd y=>by_cases e:y=x<;>simp only[iU,Ur,e,iW,lJ] at hf⊢;exact hf
   |cl y q=>by_cases e:y=x<;>simp only[iU,Ur,e,iW,lJ] at hf⊢;exact hf
   |top=>simp only[iU] at hf⊢;rw[hf]
   |but l=>trivial
  obtain⟨oH,h1,h2,h3⟩:=B9 k h (fun f hf=>key f (ha f hf));refine⟨oH,h1,fun f hf=>h2 f (key f hf),fun hw=>h3 fun f hf=>?_⟩;rcases sV.1 hf with rfl|hf
  ·simp[iU,Ur]
  ·exact key f (hw f hf)
 | .hdr x k,hp,hp1,hp',R,W,R1,W1,v,h,ha=>by
  simp only[Ia.runF] at h⊢;have hx:iU hp hp' (.hd x):=ha _ ((Cd _ h).1 _ (Vc ..));have ih:=B9 (k (hp x).head) h ha;simp only[iU] at hx;rwa [<-hx]
 | .getC x off k,hp,hp1,hp',R,W,R1,W1,v,h,ha=>by
  simp only[Ia.runF] at h⊢
  split at h
  ·rename_i c hc
   have hx:iU hp hp' (.cl x off):=ha _ ((Cd _ h).1 _ (Vc ..));have ih:=B9 (k c) h ha;simp only[iU] at hx;rw[<-hx,hc];exact ih
  ·cases h
 | .putC x off c k,hp,hp1,hp',R,W,R1,W1,v,h,ha=>by
  simp only[Ia.runF] at h⊢
  split at h
  ·rename_i o1 ho
   have hx:iU hp hp' (.hd x):=ha _ ((Cd _ h).1 _ (Vc ..));simp only[iU] at hx;obtain⟨p1,oH⟩:=Y0 ho hx;rw[oH];simp only;have oK:eV (Ur hp x o1 x) off=eV (Ur hp' x p1 x) off:=by
    rw[Ad,Ad,D9 ho off,D9 oH off,Ka rfl,Ka rfl]
   have key: ∀f,iU hp hp' f->iU (Ur hp x o1) (Ur hp' x p1) f:=by
    intro f hf
    cases f with
    |all y=>
     by_cases e:y=x
     ·subst e
      simp only[iU] at hf⊢;rw[Ad,Ad];rw[<-hf,ho] at oH;exact nN oH
     ·simp only[iU] at hf⊢
      rw[Aj _ _ e,Aj _ _ e];exact hf
    |hd y=>
     by_cases e:y=x
     ·subst e
      simp only[iU] at hf⊢;rw[Ad,Ad,Kd ho,Kd oH];exact hf
     ·simp only[iU] at hf⊢
      rw[Aj _ _ e,Aj _ _ e];exact hf
    |cl y q=>
     by_cases e:y=x
     ·subst e
      simp only[iU] at hf⊢;rw[Ad,Ad,D9 ho,D9 oH]
      split
      ·rfl
      ·exact hf
     ·simp only[iU] at hf⊢
      rw[Aj _ _ e,Aj _ _ e];exact hf
    |top=>
     simp only[iU] at hf⊢;rw[<-hf,ho] at oH;rw[hf,nN oH]
    |but l=>trivial
   obtain⟨q,h1,h2,h3⟩:=B9 k h (fun f hf=>key f (ha f hf));refine⟨q,h1,fun f hf=>h2 f (key f hf),fun hw=>h3 fun f hf=>?_⟩;rcases sV.1 hf with rfl|hf
   ·exact oK
   ·exact key f (hw f hf)
  ·cases h
 | .ext g k,hp,hp1,hp',R,W,R1,W1,v,h,ha=>by
  simp only[Ia.runF] at h⊢
  split at h
  ·have hx:iU hp hp' .top:=ha _ ((Cd _ h).1 _ (Vc ..))
   simp only[iU] at hx;subst hx;rename_i v0 U9 hg;refine⟨hp1,by rw[hg];exact h,fun f hf=>?_,fun _ f _=>?_⟩<;>cases f<;>first|rfl|trivial
  ·cases h
 | .fail,_,_,_,_,_,_,_,_,h,_=>by simp[Ia.runF] at h
def tY (W:List I8)(hp hp1:Hp):Prop:= ∀x,(.all x∈W\/ .top∈W)\/hp1 x=hp x\/ ∃g c c' f,hp x= .box g c f/\hp1 x= .box g c' f/\c'.length=c.length/\ ∀off,.cl x off∉W->c'[off]?=c[off]?
theorem Bx : ∀(p:Ia α) {hp hp1 U9:Hp} {R W R1 W1:List I8} {v:α},p.runF hp R W=some (v,hp1,R1,W1)->tY W U9 hp->tY W1 U9 hp1
 | .ret a,hp,hp1,U9,R,W,R1,W1,v,h,e=>by
  simp only[Ia.runF,Bc,Br] at h;obtain⟨_,rfl,_,rfl⟩:=h;exact e
 | .get x k,hp,hp1,U9,R,W,R1,W1,v,h,e=>by
  simp only[Ia.runF] at h;exact Bx (k (hp x)) h e
 | .put x o k,hp,hp1,U9,R,W,R1,W1,v,h,e=>by
  simp only[Ia.runF] at h;refine Bx k h fun y=>?_
  by_cases hy:y=x
  ·subst hy;exact .inl (.inl (Vc ..))
  ·rcases e y with h|h|⟨g,c,c',f,h1,h2,h3,h4⟩
   ·exact .inl (h.imp (T8 _) (T8 _))
   ·exact .inr (.inl (by rw[Aj _ _ hy];exact h))
   ·exact .inr (.inr ⟨g,c,c',f,h1,by rw[Aj _ _ hy];exact h2,h3,fun off hn=>h4 off fun hm=>hn (T8 _ hm)⟩)
 | .hdr x k,hp,hp1,U9,R,W,R1,W1,v,h,e=>by
  simp only[Ia.runF] at h;exact Bx (k (hp x).head) h e
 | .getC x off k,hp,hp1,U9,R,W,R1,W1,v,h,e=>by
  simp only[Ia.runF] at h
  split at h
  ·exact Bx (k _) h e
  ·cases h
 | .putC x off cv k,hp,hp1,U9,R,W,R1,W1,v,h,e=>by
  simp only[Ia.runF] at h
  split at h
  ·rename_i o1 ho
   refine Bx k h fun y=>?_
   by_cases hy:y=x
   ·subst hy
    rcases e y with h|h|⟨g,c,c',f,h1,h2,h3,h4⟩
    ·exact .inl (h.imp (T8 _) (T8 _))
    ·rw[h] at ho
     cases hb:U9 y with
     |box g c f=>
      rw[hb] at ho;simp only[Uq] at ho
      split at ho
      ·cases ho
       refine .inr (.inr ⟨g,c,_,f,rfl,Ad _ _ _,Zi,fun q hq=>?_⟩);have hqo:off≠q:=fun e=>hq (by subst e;exact Vc ..)
       rw[Ad0 hqo]
      ·cases ho
     |no g=>rw[hb] at ho;simp[Uq] at ho
     |arr g sz e' rows f=>rw[hb] at ho;simp[Uq] at ho
     |map g ag ks rows f=>rw[hb] at ho;simp[Uq] at ho
    ·rw[h2] at ho
     simp only[Uq] at ho
     split at ho
     ·cases ho
      refine .inr (.inr ⟨g,c,_,f,h1,Ad _ _ _,by simpa using h3,fun q hq=>?_⟩);have hqo:off≠q:=fun e=>hq (by subst e;exact Vc ..)
      rw[Ad0 hqo];exact h4 q fun hm=>hq (T8 _ hm)
     ·cases ho
   ·rcases e y with h|h|⟨g,c,c',f,h1,h2,h3,h4⟩
    ·exact .inl (h.imp (T8 _) (T8 _))
    ·exact .inr (.inl (by rw[Aj _ _ hy];exact h))
    ·exact .inr (.inr ⟨g,c,c',f,h1,by rw[Aj _ _ hy];exact h2,h3,fun off hn=>h4 off fun hm=>hn (T8 _ hm)⟩)
  ·cases h
 | .ext g k,hp,hp1,U9,R,W,R1,W1,v,h,e=>by
  simp only[Ia.runF] at h
  split at h
  ·exact Bx (k _) h fun y=> .inl (.inr (Vc ..))
  ·cases h
 | .fail,_,_,_,_,_,_,_,_,h,_=>by simp[Ia.runF] at h
theorem tY.refl (hp:Hp):tY [] hp hp:=fun _=> .inr (.inl rfl)
theorem tY.ag {W:List I8}(e:tY W hp hp1)(hn: ∀x∈W,x.meets f=false):iU hp hp1 f:=by
 have htop:I8.top∉W:=fun hm=>by simpa[I8.meets] using hn _ hm
 by_cases hft:f= .top
 ·subst hft
  have hW:W=[]:=Abu.2 fun y hy=>by have:=hn y hy;cases y<;>simp[I8.meets] at this
  subst hW;simp only[iU]
  funext x
  rcases e x with(h|h)|h|⟨g,c,c',fz,h1,h2,h3,h4⟩
  ·cases h
  ·cases h
  ·exact h.symm
  ·rw[h1,h2]
   congr 1;exact Acy fun j=>(h4 j Zi).symm
 by_cases hbt: ∃l,f= .but l
 ·obtain⟨l,rfl⟩:=hbt;trivial
 have cU: ¬(I8.all f.nm∈W\/I8.top∈W):=fun hm=>hm.elim (fun hm=>by have:=hn _ hm;cases f<;>simp[I8.meets,I8.nm] at this hft hbt) htop
 rcases e f.nm with h|h|⟨g,c,c',fz,h1,h2,h3,h4⟩
 ·exact(cU h).elim
 ·cases f with
  |top=>exact absurd rfl hft
  |but l=>trivial
  |_=>simp only[I8.nm] at h;simp only[iU];rw[h]
 ·cases f with
  |all x=>
   simp only[I8.nm] at h1 h2 h4;simp only[iU];rw[h1,h2];congr 1;refine Acy fun j=>(h4 j fun hm=>?_).symm
   have:=hn _ hm;simp[I8.meets,I8.nm] at this
  |hd x=>
   simp only[I8.nm] at h1 h2 h4;simp only[iU];rw[h1,h2];simp[It.head,h3]
  |cl x off=>
   simp only[I8.nm] at h1 h2 h4;simp only[iU];rw[h1,h2];simp only[eV];refine(h4 off fun hm=>?_).symm;have:=hn _ hm;simp[I8.meets] at this
  |top=>exact absurd rfl hft
  |but l=>trivial
theorem I8.meets_comm (f g:I8):f.meets g=g.meets f:=by
 cases f<;>cases g<;>simp only[I8.meets,I8.nm]<;>first|done|exact BEq.comm|(congr 1<;>exact BEq.comm)
theorem tY.same {W:List I8}(e:tY W hp hp1)(hx: .all x∉W)(ht: .top∉W)(hb: ∀g c f,hp x≠ .box g c f):hp1 x=hp x:=by
 rcases (e x).resolve_left (fun h=>h.elim hx ht) with h|⟨g,c,c',f,h1,_⟩
 ·exact h
 ·exact(hb g c f h1).elim
theorem tY.box {W:List I8}(e:tY W hp hp1)(hx: .all x∉W)(ht: .top∉W){g:Nat}{c:List AV}{f:Bool}(hb:hp x= .box g c f): ∃c',hp1 x= .box g c' f:=by
 rcases (e x).resolve_left (fun h=>h.elim hx ht) with h|⟨g',c',c2,f',h1,h2,_⟩
 ·exact⟨c,by rw[h,hb]⟩
 ·rw[hb] at h1
  cases h1
  exact⟨c2,h2⟩
theorem qH {W:List I8}(h1: .all x∉W)(h2: .cl x off∉W)(h3: .top∉W)(h4: ∀l,.but l∉W): ∀y∈W,y.meets (.cl x off)=false:=by
 intro y hy
 cases y with
 |all z=>
  simp only[I8.meets,I8.nm];refine Aef.2 fun h=>h1 ?_
  rw[beq_iff_eq] at h;subst h;exact hy
 |hd z=>rfl
 |cl z q=>
  simp only[I8.meets];refine Aef.2 fun h=>h2 ?_
  simp only[Ed,beq_iff_eq] at h;obtain⟨rfl,rfl⟩:=h;exact hy
 |top=>exact(h3 hy).elim
 |but l=>exact(h4 l hy).elim
theorem tY.nil(e:tY [] hp hp1):hp1=hp:=by
 have:=e.ag (f:= .top) Zi;exact this.symm
theorem Cf : ∀(p:Ia α) {hp hp1:Hp} {R W R1 W1:List I8} {v:α},p.runF hp R W=some (v,hp1,R1,W1)->(.top∈W1-> .top∈W\/ .top∈R1)/\(∀l,.but l∈W1-> .but l∈W)
 | .ret a,hp,hp1,R,W,R1,W1,v,h=>by
  simp only[Ia.runF,Bc,Br] at h;obtain⟨_,_,_,rfl⟩:=h;exact⟨.inl,fun _ h=>h⟩
 | .get x k,hp,hp1,R,W,R1,W1,v,h=>by
  simp only[Ia.runF] at h;exact Cf (k (hp x)) h
 | .put x o k,hp,hp1,R,W,R1,W1,v,h=>by
  simp only[Ia.runF] at h;obtain⟨h1,h2⟩:=Cf k h;exact⟨fun ht=>(h1 ht).imp (fun h=>by simpa using h) id,fun l hl=>by simpa using h2 l hl⟩
 | .hdr x k,hp,hp1,R,W,R1,W1,v,h=>by
  simp only[Ia.runF] at h;exact Cf (k (hp x).head) h
 | .getC x off k,hp,hp1,R,W,R1,W1,v,h=>by
  simp only[Ia.runF] at h
  split at h
  ·exact Cf (k _) h
  ·cases h
 | .putC x off c k,hp,hp1,R,W,R1,W1,v,h=>by
  simp only[Ia.runF] at h
  split at h
  ·obtain⟨h1,h2⟩:=Cf k h
   exact⟨fun ht=>(h1 ht).imp (fun h=>by simpa using h) id,fun l hl=>by simpa using h2 l hl⟩
  ·cases h
 | .ext g k,hp,hp1,R,W,R1,W1,v,h=>by
  simp only[Ia.runF] at h
  split at h
  ·obtain⟨_,h2⟩:=Cf (k _) h
   exact⟨fun _=> .inr ((Cd _ h).1 _ (Vc ..)),fun l hl=>by simpa using h2 l hl⟩
  ·cases h
 | .fail,_,_,_,_,_,_,_,h=>by simp[Ia.runF] at h
theorem Qp{p:Ia α}{q:Ia β}{v:α}{u:β}{Wp Rq:List I8}(h1:p.runF hp [] []=some (v,hp1,Rp,Wp))(h2:q.runF hp1 [] []=some (u,If,Rq,Wq))(ha:apartF ⟨Rp,Wp⟩ ⟨Rq,Wq⟩=true):
  ∃hq,q.runF hp [] []=some (u,hq,Rq,Wq)/\p.runF hq [] []=some (v,If,Rp,Wp):=by
 simp only[apartF,Ed,nU,zC] at ha;obtain⟨xN,cT⟩:=ha;have ep:=Bx p h1 (tY.refl hp);have eq2:=Bx q h2 (tY.refl hp1);obtain⟨hq,h3,a3,w3⟩:=B9 q (hp':=hp) h2 (fun f hf=>by
  have:=ep.ag (f:=f) fun x hx=>(xN x hx).1 f hf
  cases f<;>simp only[iU] at this⊢ <;>exact this.symm)
 have eq0:=Bx q h3 (tY.refl hp);obtain⟨hr,h4,a4,w4⟩:=B9 p (hp':=hq) h1 (fun f hf=>eq0.ag fun x hx=>cT x hx f hf);have ep4:=Bx p h4 (tY.refl hq);refine⟨hq,h3,?_⟩;have w3:=w3 Zi;have w4:=w4 Zi;have lH:hr=If:=by
  by_cases t1:I8.top∈Wp
  ·have hW:Wq=[]:=Abu.2 fun y hy=>by have:=(xN _ t1).2 y hy;simp[I8.meets] at this
   subst hW;have e0:=eq0.nil;subst e0;rw[h1] at h4;simp only[Bc,Br] at h4;rw[eq2.nil];exact h4.2.1.symm
  by_cases t2:I8.top∈Wq
  ·have hW:Wp=[]:=Abu.2 fun y hy=>by have:=(xN y hy).2 _ t2;cases y<;>simp[I8.meets] at this
   subst hW;have e0:=ep.nil;subst e0;rw[h2] at h3;simp only[Bc,Br] at h3;rw[ep4.nil];exact h3.2.1.symm
  funext x
  by_cases c1:I8.all x∈Wp
  ·have e1:=w4 _ c1
   simp only[iU] at e1;have e2:=eq2.ag (f:= .all x) fun y hy=>by rw[I8.meets_comm];exact(xN _ c1).2 y hy
   simp only[iU] at e2;rw[<-e1,e2]
  ·by_cases c2:I8.all x∈Wq
   ·have e1:=w3 _ c2
    simp only[iU] at e1;have e2:=ep4.ag (f:= .all x) fun y hy=>(xN y hy).2 _ c2
    simp only[iU] at e2;rw[<-e2,<-e1]
   ·cases hx:hp x with
    |no g=>
     have hb: ∀g c f,hp x≠ .box g c f:=fun g c f h=>by rw[hx] at h;cases h
     have e1:=ep.same c1 t1 hb;have e3:=eq0.same c2 t2 hb;rw[ep4.same c1 t1 (by rw[e3];exact hb),eq2.same c2 t2 (by rw[e1];exact hb),e1,e3]
    |arr g sz e rows f=>
     have hb: ∀g c f,hp x≠ .box g c f:=fun g c f h=>by rw[hx] at h;cases h
     have e1:=ep.same c1 t1 hb;have e3:=eq0.same c2 t2 hb;rw[ep4.same c1 t1 (by rw[e3];exact hb),eq2.same c2 t2 (by rw[e1];exact hb),e1,e3]
    |map g ag ks rows f=>
     have hb: ∀g c f,hp x≠ .box g c f:=fun g c f h=>by rw[hx] at h;cases h
     have e1:=ep.same c1 t1 hb;have e3:=eq0.same c2 t2 hb;rw[ep4.same c1 t1 (by rw[e3];exact hb),eq2.same c2 t2 (by rw[e1];exact hb),e1,e3]
    |box g c f=>
     obtain⟨b1,e1⟩:=ep.box c1 t1 hx;obtain⟨b2,e2⟩:=eq2.box c2 t2 e1;obtain⟨b3,e3⟩:=eq0.box c2 t2 hx;obtain⟨b4,e4⟩:=ep4.box c1 t1 e3;rw[e2,e4];congr 1;refine Acy fun j=>?_
     have cell:eV (hr x) j=eV (If x) j:=by
      by_cases m1:I8.cl x j∈Wp
      ·have f1:=w4 _ m1
       have f2:=eq2.ag (f:= .cl x j) fun y hy=>by rw[I8.meets_comm];exact(xN _ m1).2 y hy
       simp only[iU] at f1 f2;rw[<-f1,f2]
      ·by_cases m2:I8.cl x j∈Wq
       ·have f1:=w3 _ m2
        have f2:=ep4.ag (f:= .cl x j) fun y hy=>(xN y hy).2 _ m2
        simp only[iU] at f1 f2;rw[<-f2,<-f1]
       ·have nb1: ∀l,.but l∉Wp:=fun l hl=>by simpa using(Cf p h1).2 l hl
        have nb2: ∀l,.but l∉Wq:=fun l hl=>by simpa using(Cf q h2).2 l hl
        have f1:=ep.ag (f:= .cl x j) (qH c1 m1 t1 nb1);have f2:=eq2.ag (f:= .cl x j) (qH c2 m2 t2 nb2);have f3:=eq0.ag (f:= .cl x j) (qH c2 m2 t2 nb2);have f4:=ep4.ag (f:= .cl x j) (qH c1 m1 t1 nb1);simp only[iU] at f1 f2 f3 f4;rw[<-f4,<-f3,<-f2,<-f1]
     rw[e2,e4] at cell;exact cell
 rw[<-lH];exact h4
/-! ### what a call leaves as it was -/
theorem eqS_ok {a b:Value}(h:eqS a b=true):a=b:=by
 unfold eqS at h
 split at h<;>simp_all
mutual
theorem eqA_ok : ∀(a b:AV),wL a b=true->a=b
 | .any,b,h=>by cases b<;>simp[wL] at h;rfl
 | .sc v,b,h=>by
  cases b<;>simp[wL] at h
  rw[eqS_ok h]
 | .sl f s r,b,h=>by
  cases b<;>simp[wL] at h
  obtain⟨⟨rfl,rfl⟩,h⟩:=h;rw[Na _ _ h]
 | .dp c o,b,h=>by
  cases b<;>simp[wL] at h
  obtain⟨rfl,h⟩:=h;rw[Fc _ _ h]
 | .own x g n,b,h=>by cases b<;>simp[wL] at h;obtain⟨⟨rfl,rfl⟩,rfl⟩:=h;rfl
 | .ptr x g n,b,h=>by cases b<;>simp[wL] at h;obtain⟨⟨rfl,rfl⟩,rfl⟩:=h;rfl
 | .eptr x g i n,b,h=>by cases b<;>simp[wL] at h;obtain⟨⟨⟨rfl,rfl⟩,rfl⟩,rfl⟩:=h;rfl
 | .agg c,b,h=>by
  cases b<;>simp[wL] at h
  rw[Fc _ _ h]
 | .tup c,b,h=>by
  cases b<;>simp[wL] at h
  rw[Fc _ _ h]
 | .vec s r,b,h=>by
  cases b<;>simp[wL] at h
  obtain⟨rfl,h⟩:=h;rw[Na _ _ h]
 | .fn f c,b,h=>by
  cases b<;>simp[wL] at h
  obtain⟨rfl,h⟩:=h;rw[Fc _ _ h]
 | .bsl x g s o n,b,h=>by cases b<;>simp[wL] at h;obtain⟨⟨⟨⟨rfl,rfl⟩,rfl⟩,rfl⟩,rfl⟩:=h;rfl
 | .mp x g,b,h=>by cases b<;>simp[wL] at h;obtain⟨rfl,rfl⟩:=h;rfl
 | .dmp ..,b,h=>by cases b<;>simp[wL] at h
theorem Fc : ∀(a b:List AV),sE a b=true->a=b
 |[],b,h=>by cases b<;>simp[sE] at h;rfl
 |x::l,b,h=>by
  cases b<;>simp[sE] at h
  rw[eqA_ok _ _ h.1,Fc _ _ h.2]
theorem Na : ∀(a b:List (List AV)),xR a b=true->a=b
 |[],b,h=>by cases b<;>simp[xR] at h;rfl
 |x::l,b,h=>by
  cases b<;>simp[xR] at h
  rw[Fc _ _ h.1,Na _ _ h.2]
end
theorem EA(h:eqO a b=true):a=b:=by
 cases a<;>cases b<;>simp[eqO] at h
 ·rw[h]
 ·obtain⟨⟨rfl,h⟩,rfl⟩:=h;rw[Fc _ _ h]
 ·obtain⟨⟨⟨⟨rfl,rfl⟩,rfl⟩,h⟩,rfl⟩:=h;rw[Na _ _ h]
theorem EF {l:List Nm}{hp':Hp}(hl: ∀x∈l,hp x=hp' x)(hm:I8.meets (.but l) f=false):iU hp hp' f:=by
 cases f with
 |top=>simp[I8.meets] at hm
 |but _=>trivial
 |all x=>simp[I8.meets,I8.nm] at hm;simp only[iU];exact hl x hm
 |hd x=>simp[I8.meets,I8.nm] at hm;simp only[iU];rw[hl x hm]
 |cl x o=>simp[I8.meets,I8.nm] at hm;simp only[iU];rw[hl x hm]
theorem Hea : ∀a:AV,neV a a=false:=by
 intro a
 cases a<;>try rfl
 ·rename_i v;cases v<;>simp[neV]
 ·simp[neV]
theorem Wm : ∀l:List AV,neL l l=false
 |[]=>rfl
 |a::l=>by simp[neL,Hea,Wm l]
theorem Hfa (a:It):neO a a=false:=by
 cases a<;>simp[neO,Wm]
theorem of_eqP(h:eqP a b=true):a=b:=by
 unfold eqP at h
 split at h
 ·rename_i h1;exact EA h1
 ·split at h
  ·cases h
  ·exact @of_decide_eq_true _ (_) h
theorem eqP_of(h:a=b):eqP a b=true:=by
 subst h;unfold eqP
 split
 ·rfl
 ·rw[Hfa]
  exact @decide_eq_true _ (_) rfl
theorem Fq{a b:Hp}:gG E k a b []=[]:=by simp[gG]
theorem Dt{a b:Hp}{W:List I8}(h: .top∉W):gG E k a b W=W:=by simp[gG,h]
theorem N7(h0:E.ws≠0){a b:Hp}{W:List I8}(h: .top∈W): ∃l,gG E k a b W=[.but l]/\ ∀x∈l,a x=b x:=by
 refine⟨_,by simp only[gG,Jx h0];rw[Ka (by simpa using h)],fun x hx=>?_⟩;have:=(Acw.1 hx).2
 split at this
 ·exact of_eqP this
 ·exact EA this
theorem Y3{p:Ia α}{q:Ia β}{v:α}{u:β}{Wp Rq:List I8}(h1:p.runF hp [] []=some (v,hp1,Rp,Wp))(h2:q.runF hp1 [] []=some (u,If,Rq,Wq))
  (ha:apartF ⟨Rp,gG E k hp hp1 Wp⟩ ⟨Rq,gG E k hp1 If Wq⟩=true):
  ∃hq,q.runF hp [] []=some (u,hq,Rq,Wq)/\p.runF hq [] []=some (v,If,Rp,Wp)/\gG E k hp hq Wq=gG E k hp1 If Wq/\gG E k hq If Wp=gG E k hp hp1 Wp:=by
 by_cases h0:E.ws=0
 ·have e: ∀a b W,gG E k a b W=W:=fun a b W=>by simp[gG,h0]
  simp only[e] at ha⊢;obtain⟨hq,a,b⟩:=Qp h1 h2 ha;exact⟨hq,a,b,Zi⟩
 by_cases t1: .top∈Wp
 ·have r1: .top∈Rp:=((Cf p h1).1 t1).resolve_left Zi
  obtain⟨l,hl,hk⟩:=N7 (E:=E) (k:=k) h0 (a:=hp) (b:=hp1) t1;rw[hl] at ha;simp only[apartF,Ed,nU,zC] at ha;obtain⟨xN,cT⟩:=ha;have hWq:gG E k hp1 If Wq=[]:=Abu.2 fun y hy=>by have:=cT y hy _ r1;cases y<;>simp[I8.meets] at this
  have hW0:Wq=[]:=by
   by_cases t2: .top∈Wq
   ·obtain⟨l2,pP,_⟩:=N7 (E:=E) (k:=k) h0 (a:=hp1) (b:=If) t2
    rw[pP] at hWq;cases hWq
   ·rw[Dt t2] at hWq;exact hWq
  subst hW0;have e2:If=hp1:=(Bx q h2 (tY.refl hp1)).nil;subst e2;obtain⟨hq,h3,_,_⟩:=B9 q (hp':=hp) h2 (fun f hf=>by
   have:=EF (l:=l) (hp:=If) (hp':=hp) (fun x hx=>(hk x hx).symm) ((xN _ (FH.2 rfl)).1 f hf);exact this)
  have e3:hq=hp:=(Bx q h3 (tY.refl hp)).nil;subst e3;exact⟨hq,h3,h1,by rw[Fq,Fq],rfl⟩
 by_cases t2: .top∈Wq
 ·have r2: .top∈Rq:=((Cf q h2).1 t2).resolve_left Zi
  obtain⟨l,hl,hk⟩:=N7 (E:=E) (k:=k) h0 (a:=hp1) (b:=If) t2;rw[hl,Dt t1] at ha;simp only[apartF,Ed,nU,zC] at ha;obtain⟨xN,cT⟩:=ha;have hW0:Wp=[]:=Abu.2 fun y hy=>by have:=(xN y hy).1 _ r2;cases y<;>simp[I8.meets] at this
  subst hW0;have e1:hp1=hp:=(Bx p h1 (tY.refl hp)).nil;subst e1;obtain⟨hr,h4,_,_⟩:=B9 p (hp':=If) h1 (fun f hf=>EF hk (cT _ (FH.2 rfl) f hf));have e4:hr=If:=(Bx p h4 (tY.refl If)).nil;subst e4;exact⟨hr,h2,h4,rfl,by rw[Fq,Fq]⟩
 ·rw[Dt t1,Dt t2] at ha
  obtain⟨hq,a,b⟩:=Qp h1 h2 ha;exact⟨hq,a,b,by rw[Dt t2,Dt t2],by rw[Dt t1,Dt t1]⟩
end
end
section
open Go
variable {st st':AS}{v:AV}{a:Act}{listed:Array Bool}{fs:List gZ}{j x:Nat}{fr:Nat->AV}{o p:Oper}{d:Option Nat}{w:World}
section
variable {P:Program}{K:Nat->Prop}{k N:Nat}{B:jZ}{E:cD}{call:aS}{all:Array Oper}
theorem Jv {fr':Nat->AV}(h: ∀x∈o.op.operands,Uy fr x=Uy fr' x):bL P E k call fr o=bL P E k call fr' o:=by
 obtain⟨dst,op,type,pos,after,guard⟩:=o;have pairs: ∀ps:Array (Nat×Operand),(∀x∈ps.map (·.2),Uy fr x=Uy fr' x)->
   (ps.toList.map fun p=>Uy fr p.2)=(ps.toList.map fun p=>Uy fr' p.2)/\(ps.toList.map fun p=>(p.1,Uy fr p.2))=(ps.toList.map fun p=>(p.1,Uy fr' p.2)):=fun ps hp=>by
  have: ∀p∈ps.toList,Uy fr p.2=Uy fr' p.2:=fun p hm=>hp p.2 (Array.mem_map.2 ⟨p,by simpa using hm,rfl⟩)
  exact⟨GJ this,GJ fun p hm=>by rw[this p hm]⟩
 cases op<;>simp only[Op.operands] at h<;>simp only[bL]
 case build t ps=>obtain⟨e1,e2⟩:=pairs ps fun x hx=>h x (by simpa using hx);rw[e1,e2]
 case buildSlice t n ps=>
  obtain⟨e1,e2⟩:=pairs ps fun x hx=>h x (by simpa using hx)
  have e3:(ps.toList.any fun p=>(cK (Uy fr p.2)).any Wx)=(ps.toList.any fun p=>(cK (Uy fr' p.2)).any Wx):=by
   have:=congrArg (fun l:List AV=>l.any fun v=>(cK v).any Wx) e1;simp only[List.any_map] at this;exact this
  rw[e1,e2,e3]
 case makeMap t r=>cases r<;>rfl
 case makeFunc fn first caps=>
  have hc: ∀x∈caps.toList,Uy fr x=Uy fr' x:=fun x hx=>h x (by simp at hx⊢;exact .inr hx)
  have hc': ∀x∈first.toList,Uy fr x=Uy fr' x:=fun x hx=>h x (by simp at hx⊢;exact .inl hx)
  cases fn<;>simp only
  rw[GJ hc,GJ hc']
 case slice t x lo hi mx=>cases lo<;>cases hi<;>cases mx<;>simp_all
 case call c=>
  obtain⟨callee,args,argTypes⟩:=c;have ha: ∀x∈args.toList,Uy fr x=Uy fr' x:=fun x hx=>h x (by simp[Call.operands] at hx⊢;exact .inr hx)
  simp only
  split
  ·rename_i x t e1 e2
   rw[ha x (by rw[e1];simp)]
  ·rename_i s x t t' e1 e2
   rw[ha x (by rw[e1];simp),ha s (by rw[e1];simp)]
  ·rename_i s x t t' e1 e2
   rw[ha x (by rw[e1];simp),ha s (by rw[e1];simp)]
  ·rename_i _ x y e1
   rw[ha x (by rw[e1];simp),ha y (by rw[e1];simp)]
  ·rename_i _ x y e1
   rw[ha x (by rw[e1];simp),ha y (by rw[e1];simp)]
  ·rename_i x
   rw[GJ ha,h x (by simp[Call.operands])]
  ·rfl
 all_goals (first|rfl|(simp_all;done))
theorem Er{t:Nat}(h:d≠some t):Uw fr d v t=fr t:=by
 cases d with
 |none=>rfl
 |some x=>simp only[Uw];rw[Jx (fun e=>h (by rw[e]))]
theorem Dka{d':Option Nat}{v':AV}(h: ∀x,d=some x->d'≠some x):Uw (Uw fr d v) d' v'=Uw (Uw fr d' v') d v:=by
 funext t
 cases d with
 |none=>rfl
 |some x=>
  cases d' with
  |none=>rfl
  |some y=>
   have sX:y≠x:=fun e=>h x rfl (by rw[e])
   simp only[Uw];by_cases e1:t=x
   ·have:t≠y:=fun e=>sX (by rw[<-e,e1])
    simp[e1,sX.symm]
   ·simp[e1]
theorem R8(h: ∀x,d=some x->x∉fS all o):bL P E k call (Uw fr d v) o=bL P E k call fr o:=
 Jv fun x hx=>by
  cases x with
  |tmp t=>
   refine Er fun e=>h t e ?_
   exact FI _ (Ad8.2 ⟨.tmp t,by simpa using hx,rfl⟩)
  |const c=>cases c<;>rfl
  |func f=>rfl
  |global g=>rfl
theorem O7(h: ∀x,d=some x->x∉fS all o):bD all (Uw fr d v) o=bD all fr o:=by
 unfold bD
 cases hg:o.guard with
 |none=>rfl
 |some jb=>
  obtain⟨j,b⟩:=jb;simp only
  cases hd:(all[j]?).bind (·.dst) with
  |none=>rfl
  |some t=>
   simp only;rw[Er fun e=>h t e (by simp[fS,hg,hd])]
theorem kE{f:gZ}:eK P E k call all o st=some (st',f)↔ ∃b v hp R W,bD all st.fr o=some b/\(if b then bL P E k call st.fr o else .ret (.sc undef)).runF st.hp [] []=some (v,hp,R,W)/\
  st'=⟨Uw st.fr o.dst v,hp⟩/\f=⟨R,gG E k st.hp hp W⟩:=by
 unfold eK;constructor
 ·intro h
  split at h
  ·rename_i hg
   split at h
   ·rename_i v hp R W hr
    simp only[Bc,Br] at h;exact⟨true,v,hp,R,W,hg,hr,h.1.symm,h.2.symm⟩
   ·cases h
  ·rename_i hg
   simp only[Bc,Br] at h;exact⟨false,_,st.hp,[],[],hg,rfl,h.1.symm,by rw[Fq];exact h.2.symm⟩
  ·cases h
 ·rintro⟨b,v,hp,R,W,hg,hr,rfl,rfl⟩
  rw[hg]
  cases b with
  |true=>simp only[iW] at hr;simp only[hr]
  |false=>
   simp only[pW,lJ,Ia.runF,Bc,Br] at hr;obtain⟨rfl,rfl,rfl,rfl⟩:=hr;rw[Fq]
theorem Yd(h:L2 all o p=true):(∀d,o.dst=some d->d∉fS all p)/\(∀d,o.dst=some d->p.dst≠some d)/\(∀d,p.dst=some d->d∉fS all o):=by
 refine⟨fun d hd=>?_,fun d hd=>?_,fun d hd=>?_⟩<;>simp[L2,hd] at h
 ·exact h.1.1
 ·exact h.1.2
 ·exact h.2
theorem Yx{st1 st2:AS}{f1 f2:gZ}(h1:eK P E k call all o st=some (st1,f1))(h2:eK P E k call all p st1=some (st2,f2))(hs:L2 all o p=true)(hf:apartF f1 f2=true):
  ∃st1',eK P E k call all p st=some (st1',f2)/\eK P E k call all o st1'=some (st2,f1):=by
 obtain⟨s1,s2,s3⟩:=Yd hs;obtain⟨b1,v1,hp1,R1,W1,g1,r1,rfl,rfl⟩:=kE.1 h1;obtain⟨b2,v2,If,R2,W2,g2,r2,rfl,rfl⟩:=kE.1 h2;simp only at g2 r2;rw[O7 s1] at g2;rw[R8 s1] at r2;obtain⟨hq,q1,q2,q3,q4⟩:=Y3 r1 r2 hf;refine⟨⟨Uw st.fr p.dst v2,hq⟩,kE.2 ⟨b2,v2,hq,R2,W2,g2,q1,rfl,by simp only;rw[q3]⟩,kE.2 ⟨b1,v1,If,R1,W1,?_,?_,?_,by simp only;rw[q4]⟩⟩
 ·simp only;rw[O7 s3];exact g1
 ·simp only;rw[R8 s3];exact q2
 ·simp only;rw[Dka s2]
/-! ### orders -/
inductive nL (all:Array Oper):Nat->Nat->Prop where
 |one {j:Nat} {o:Oper} {e:Edge}:all[j]?=some o->e∈o.after->Region.binds .any e=true->nL all j e.on
 |more {j x:Nat} {o:Oper} {e:Edge}:all[j]?=some o->e∈o.after->Region.binds .any e=true->nL all e.on x->nL all j x
def wC (all:Array Oper)(listed:Array Bool):Prop:= ∀j o e,listed.getD j false=true->all[j]?=some o->e∈o.after->Region.binds .any e=true->listed.getD e.on false=true
theorem wC.waits(h:wC all listed)(hw:nL all j x):listed.getD j false=true->listed.getD x false=true:=by
 induction hw with
 |one ho he hb=>exact fun hj=>h _ _ _ hj ho he hb
 |more ho he hb _ ih=>exact fun hj=>ih (h _ _ _ hj ho he hb)
theorem E9(h:wC all listed)(hr:j∈Region.ready .any all listed)(hw:nL all j x):listed.getD x false=true:=by
 obtain⟨_,o,ho,cU⟩:=OE.1 hr
 cases hw with
 |one yK he hb=>rw[ho] at yK;cases yK;exact cU _ he hb
 |more yK he hb hw=>rw[ho] at yK;cases yK;exact h.waits hw (cU _ he hb)
theorem wC.set(h:wC all listed)(hr:j∈Region.ready .any all listed):wC all (listed.setIfInBounds j true):=by
 intro x o e hx ho he hb;by_cases hjx:j=x
 ·subst hjx
  obtain⟨_,o',yK,cU⟩:=OE.1 hr;rw[ho] at yK;cases yK;exact getD_set_true (cU e he hb)
 ·rw[GI false hjx] at hx
  exact getD_set_true (h x o e hx ho he hb)
def zW (P:Program)(E:cD)(k:Nat)(call:aS)(all:Array Oper)(fs:List gZ)(stf:AS):Nat->Array Bool->AS->Prop
 |0,listed,st=>Region.ready .any all listed=[]/\st=stf
 |n+1,listed,st=>(Region.ready .any all listed=[]->st=stf)/\ ∀i∈Region.ready .any all listed,∃o st',all[i]?=some o/\eK P E k call all o st=some (st',fs.getD i ⟨[],[]⟩)/\
   zW P E k call all fs stf n (listed.setIfInBounds i true) st'
theorem A2a{stf:AS}{i:Nat}{oi:Oper}(hi:all[i]?=some oi): ∀(n:Nat) (listed:Array Bool) (st st1:AS),wC all listed->
  (∀j oj,all[j]?=some oj->j≠i->listed.getD j true=false-> ¬nL all j i->L2 all oi oj=true/\apartF (fs.getD i ⟨[],[]⟩) (fs.getD j ⟨[],[]⟩)=true)->
  i∈Region.ready .any all listed->eK P E k call all oi st=some (st1,fs.getD i ⟨[],[]⟩)->zW P E k call all fs stf n (listed.setIfInBounds i true) st1->zW P E k call all fs stf (n+1) listed st:=by
 intro n
 induction n with
 |zero=>
  intro listed st st1 _ _ hr hs H;refine⟨fun h=>(by rw[h] at hr;cases hr),fun j hj=>?_⟩;by_cases CV:j=i
  ·subst CV;exact⟨oi,st1,hi,hs,H⟩
  ·have:=ready_mono hj CV
   rw[H.1] at this
   cases this
 |succ n ih=>
  intro listed st st1 hD jD hr hs H;refine⟨fun h=>(by rw[h] at hr;cases hr),fun j hj=>?_⟩;by_cases CV:j=i
  ·subst CV;exact⟨oi,st1,hi,hs,H⟩
  ·obtain⟨oj,st2,rT,kM,H2⟩:=H.2 j (ready_mono hj CV)
   have hjun:=(OE.1 hj).1;have hiun:=(OE.1 hr).1;have hnw: ¬nL all j i:=fun hw=>by
    have h1:=E9 hD hj hw;rcases Nat.lt_or_ge i listed.size with h'|h'
    ·simp[h'] at hiun h1;rw[hiun] at h1;cases h1
    ·simp[Array.getElem?_eq_none h'] at h1
   obtain⟨a1,a2⟩:=jD j oj rT CV hjun hnw;obtain⟨st1',q1,q2⟩:=Yx hs kM a1 a2;refine⟨oj,st1',rT,q1,ih (listed.setIfInBounds j true) st1' st2 (hD.set hj) (fun x ox hx hxi CH mX=>?_) (ready_mono hr (Ne.symm CV)) q2 ?_⟩
   ·refine jD x ox hx hxi ?_ mX
    by_cases hjx:j=x
    ·subst hjx;exact hjun
    ·rw[GI true hjx] at CH;exact CH
   ·rw[Array.setIfInBounds_comm _ _ CV]
    exact H2
theorem Jl : ∀(os:List Oper) {st stf:AS} {acc fs:List gZ},aG P E k call all os st acc=some (stf,fs)-> ∀j,j<acc.length->fs.getD j ⟨[],[]⟩=acc.reverse.getD j ⟨[],[]⟩
 |[],st,stf,acc,fs,h,j,hj=>by
  simp only[aG,Bc,Br] at h;rw[h.2]
 |o::os,st,stf,acc,fs,h,j,hj=>by
  simp only[aG] at h
  split at h
  ·rename_i st' f hs
   rw[Jl os h j (by simp;omega)];simp only[FL,Aeg];rw[Acu (by simpa using hj)]
  ·cases h
theorem Ye {fs:List gZ}{stf:AS}(rY: ∀j o e,all[j]?=some o->e∈o.after->Region.binds .any e=true->e.on<j)
  (jD: ∀i j oi oj,i<j->all[i]?=some oi->all[j]?=some oj-> ¬nL all j i->L2 all oi oj=true/\apartF (fs.getD i ⟨[],[]⟩) (fs.getD j ⟨[],[]⟩)=true):
  ∀(os:List Oper) (n:Nat) (listed:Array Bool) (st:AS) (acc:List gZ),(∀j,os[j]?=all[n+j]?)->acc.length=n->aG P E k call all os st acc=some (stf,fs)->listed.size=all.size->(∀j,j<all.size->listed.getD j true=decide (j<n))->
  zW P E k call all fs stf os.length listed st
 |[],n,listed,st,acc,hl,hn,h,aZ,nW=>by
  simp only[aG,Bc,Br] at h;refine⟨?_,h.1⟩;refine Abu.2 fun j hj=>?_
  obtain⟨h0,o,ho,_⟩:=OE.1 hj;have Ii:j<all.size:=(Xc.1 ho).1;rw[nW j Ii] at h0;have hnj: ¬j<n:=by simpa using h0
  have:=hl (j - n);rw[show n+(j - n)=j by omega,ho] at this
  cases this
 |o::os,n,listed,st,acc,hl,hn,h,aZ,nW=>by
  have h0:all[n]?=some o:=by simpa using(hl 0).symm
  have Ii:n<all.size:=(Xc.1 h0).1;have tD: ∀j,os[j]?=all[n+1+j]?:=fun j=>by have:=hl (j+1);simpa[tJ,OF 1 j] using this
  simp only[aG] at h
  split at h
  case h_2=>cases h
  rename_i st' f hs;have kI:fs.getD n ⟨[],[]⟩=f:=by
   rw[Jl os h n (by simp;omega)];simp only[FL,Aeg];rw[Ab9 (by simp;omega)];simp[hn]
  have nC: ∀j,j<n->listed.getD j false=true:=fun j hj=>by
   have:=nW j Zo;rw[sK hj] at this;have yN:j<listed.size:=Zo;simpa[yN] using this
  refine A2a h0 os.length listed st st' (fun j o' e hj ho he hb=>?_) (fun j oj hj Ir CH hnw=>?_) ?_ (by rw[kI];exact hs) ?_
  ·have eQ:j<all.size:=(Xc.1 ho).1
   have yN:j<listed.size:=Zo;have:=nW j eQ;have FV:j<n:=by
    have e1:listed.getD j true=listed.getD j false:=by simp[yN]
    rw[e1,hj] at this;exact GP this.symm
   exact nC _ (Nat.lt_trans (rY j o' e ho he hb) FV)
  ·have eQ:j<all.size:=(Xc.1 hj).1
   rw[nW j eQ] at CH;have hnj: ¬j<n:=by simpa using CH
   exact jD n j o oj Zo h0 hj hnw
  ·refine OE.2 ⟨by rw[nW n Ii];simp,o,h0,fun e he hb=>nC _ (rY n o e h0 he hb)⟩
  ·refine Ye rY jD os (n+1) _ st' (f::acc) tD (by simp[hn]) h (by simpa using aZ) (fun j hj=>?_)
   by_cases FV:n=j
   ·subst FV
    have yN:n<listed.size:=Zo;simp[yN]
   ·rw[GI true FV,nW j hj]
    exact decide_eq_decide.2 ⟨fun h=>Zo,fun h=>Zo⟩
theorem Wt (r:List Nat)(i:Nat): ∀(es:List Edge) (m:Nat),(es.foldl (fun m e=>if Region.binds .any e then m|||(1<<<e.on|||r.getD e.on 0) else m) m).testBit i=true->
  m.testBit i=true\/ ∃e∈es,Region.binds .any e=true/\(e.on=i\/(r.getD e.on 0).testBit i=true)
 |[],m,h=> .inl h
 |e::es,m,h=>by
  rw[List.foldl_cons] at h;rcases Wt r i es _ h with h1|⟨e',DB,h1⟩
  ·split at h1
   ·rename_i hb
    rw[Nat.testBit_or,Nat.testBit_or,GM,GM] at h1;rcases h1 with h1|h1|h1
    ·exact .inl h1
    ·rw[Nat.one_shiftLeft,Nat.testBit_two_pow] at h1
     exact .inr ⟨e,Zi,hb,.inl (GP h1)⟩
    ·exact .inr ⟨e,Zi,hb,.inr h1⟩
   ·exact .inl h1
  ·exact .inr ⟨e',by simp[DB],h1⟩
theorem Fm : ∀(os:List Oper) (acc:List Nat) (n:Nat),acc.length=n->(∀j,os[j]?=all[n+j]?)->(∀j i,(acc.reverse.getD j 0).testBit i=true->nL all j i)-> ∀j i,((waits os acc).getD j 0).testBit i=true->nL all j i
 |[],acc,n,hn,hl,ha,j,i,h=>ha j i h
 |o::os,acc,n,hn,hl,ha,j,i,h=>by
  have h0:all[n]?=some o:=by simpa using(hl 0).symm
  have tD: ∀j,os[j]?=all[n+1+j]?:=fun j=>by have:=hl (j+1);simpa[tJ,OF 1 j] using this
  refine Fm os _ (n+1) (by simp[hn]) tD (fun j i hi=>?_) j i h;simp only[Aeg,FL] at hi;rw[Acz] at hi
  split at hi
  ·exact ha j i (by simpa[FL] using hi)
  ·rename_i hj
   rw[List.getElem?_singleton] at hi
   split at hi
   ·rename_i hj0
    have FV:j=n:=by simp at hj hj0;omega
    subst FV;simp only[X1,wMask] at hi;rcases Wt _ i _ _ hi with h1|⟨e,he,hb,h1⟩
    ·simp at h1
    ·rcases h1 with rfl|h1
     ·exact .one h0 (by simpa using he) hb
     ·exact .more h0 (by simpa using he) hb (ha _ _ h1)
   ·simp at hi
theorem A1a (hE:dS P E)(hC:Av P call){fs:List gZ}{stf:AS}{Q:Exit->Act->World->Prop}(hd: ∀o∈all.toList,∀x,o.dst=some x->x<N)(hQ: ∀a' w',aX k N K B stf a' w'->Q .normal a' w'):
  ∀(n:Nat) (listed:Array Bool) {st:AS} {a:Act} {w:World},zW P E k call all fs stf n listed st->aX k N K B st a w->wpAny P .any all Q n listed a w
 |0,listed,st,a,w,h,S=>by
  obtain⟨h1,rfl⟩:=h;exact⟨h1,hQ a w S⟩
 |n+1,listed,st,a,w,h,S=>by
  refine⟨fun hr=>hQ a w (h.1 hr▸S),fun i hi=>?_⟩;obtain⟨o,st',ho,hs,H⟩:=h.2 i hi;have DD:=hd o (by have:=Acs ho;simpa using this);obtain⟨b,v,hp,R,W,g,r,rfl,hf⟩:=kE.1 hs;unfold wpOp;simp only[ho];rw[S.guard g]
  cases b with
  |true=>
   simp only[iW] at r⊢;exact .inl ((S.op hE hC DD (Es _ r)).wp fun u w' S'=>A1a hE hC hd hQ n _ H S')
  |false=>
   simp only[pW,lJ,Ia.runF,Bc,Br] at r⊢;obtain⟨rfl,rfl,_⟩:=r;exact A1a hE hC hd hQ n _ H (S.skip DD)
theorem aX.drawn(S:aX k N K B st a w)(n:Nat):aX k N K B st a {w with drawn:=n}:=by
 obtain⟨I,m,G,E0,hf,hs,rX⟩:=S;obtain⟨G2,E2⟩:=G.world (w':={w with drawn:=n}) (fun _ _=>rfl) ⟨fun _ _=>rfl,D5 _,rfl,rfl,rfl⟩ (fun _ h=>h) (fun _ h=> .inl h) G.ilt;exact⟨I,m,G2,E0.trans E2,fun t=>Ie.mono E2 _ _ _ (hf t),hs,rX⟩
theorem Kga(h:aG P E k call all all.toList st []=some (st',fs))(h1:K3 all=true)(h2:Gu all fs=true):zW P E k call all fs st' all.size (Array.replicate all.size false) st:=by
 simp only[K3,Ed,nU,sJ,GM] at h1;obtain⟨h1a,h1b⟩:=h1;simp only[Gu,nU,sJ,GM] at h2;have uH: ∀j o,all[j]?=some o->all.getD j default=o:=fun j o h=>by simp[h]
 have hlex:=Ye (P:=P) (E:=E) (k:=k) (call:=call) (all:=all) (fs:=fs) (stf:=st') (fun j o e hj he hb=>by
   have Ii:=(Xc.1 hj).1;have:=h1a j Ii e (by rw[uH j o hj];simpa using he);rcases this with h|h
   ·rw[hb] at h;cases h
   ·exact GP h)
  (fun i j oi oj xG hi hj hnw=>by
   have Ii:=(Xc.1 hj).1;have nw:((waits all.toList []).getD j 0).testBit i≠true:=fun hc=>hnw (Fm all.toList [] 0 rfl Zi Zi j i hc)
   have a1:=(h1b j Ii i xG).resolve_left nw;have a2:=(h2 j Ii i xG).resolve_left nw;rw[uH i oi hi,uH j oj hj] at a1;exact⟨a1,a2⟩)
  all.toList 0 (Array.replicate all.size false) st [] Zi rfl h Zi (fun j hj=>by simp[hj])
 rwa [wN] at hlex
theorem N6 (hm:P.follows .mixedOrders=true)(hE:dS P E)(hC:Av P call){Q:Exit->Act->World->Prop}{id:Nat}(hd: ∀o∈all.toList,∀x,o.dst=some x->x<N)(S:aX k N K B st a w)
  (h:aG P E k call all all.toList st []=some (st',fs)) (h1:K3 all=true) (h2:Gu all fs=true) (hQ: ∀a' w',aX k N K B st' a' w'->Q .normal a' w'):
  (Code.region id all true).wp P Q a w:=
 wp_region_any hm (A1a hE hC hd hQ all.size _ (Kga h h1 h2) (S.drawn _))
end
end
section
open Go
variable {st:AS}{a:Act}{w:World}
section
variable {P:Program}{K:Nat->Prop}{k N:Nat}{B:jZ}{E:cD}{call:aS}
theorem aX.dryOne(S:aX k N K B st a w)(s:Nat):aX k N K B (Ab.dryOne s st) a w:=by
 unfold Ab.dryOne
 split
 ·rename_i x g off oG
  split
  ·rename_i v hp' hr
   obtain⟨I,m,G,E0,hf,hs,rX⟩:=S;have h0:=hf s;rw[oG] at h0;obtain⟨I',G',E',R',_⟩:=Pk G h0 hr;refine⟨I',m,G',E0.trans E',fun t=>?_,hs,rX⟩;simp only
   split
   ·rename_i ht;subst ht;exact Iq.rep R'
   ·exact Ie.mono E' _ _ _ (hf t)
  ·exact S
 ·exact S
theorem aX.dryAll {a:Act}{w:World}: ∀(ss:List Nat) {st:AS},aX k N K B st a w->aX k N K B (Ab.dryAll ss st) a w
 |[],_,S=>S
 |s::ss,_,S=>aX.dryAll ss (S.dryOne s)
theorem Mo (hm:P.follows .mixedOrders=true)(hE:dS P E)(hC:Av P call){Q:Exit->Act->World->Prop}{ops:Array Oper}{draw:Bool}{st':AS}{id:Nat}(hd: ∀o∈ops.toList,∀x,o.dst=some x->x<N)
  (S:aX k N K B st a w) (h:bR P E k call ops draw st=some st') (hQ: ∀a' w',aX k N K B st' a' w'->Q .normal a' w'):(Code.region id ops draw).wp P Q a w:=by
 unfold bR at h
 cases draw with
 |true=>
  simp only[iW] at h
  split at h
  ·rename_i st1 fs hr
   split at h
   ·rename_i hc
    simp only[Ed] at hc
    cases h
    exact N6 hm (E:=E.dry) (dS.dry hE.1) hC hd S hr hc.1 hc.2 hQ
   ·split at h
    ·rename_i st2 fs2 tP
     split at h
     ·rename_i hc
      simp only[Ed] at hc
      cases h
      exact N6 hm (E:=E.dry) (dS.dry hE.1) hC hd (aX.dryAll _ S) tP hc.1 hc.2 hQ
     ·cases h
    ·cases h
  ·cases h
 |false=>
  simp only[pW,lJ] at h;exact Vs hE hC hd S h hQ
open Classical in
noncomputable def kH (p:Nat->Prop):Nat:=if h: ∃n,p n/\ ∀m,p m->n<=m then Classical.choose h else 0
theorem C4 {p:Nat->Prop}(h: ∃n,p n):p (kH p)/\ ∀m,p m->kH p<=m:=by
 have pJ: ∃n,p n/\ ∀m,p m->n<=m:=by
  obtain⟨n,hn⟩:=h
  induction n using Nat.strongRecOn with
  |_ n ih=>
   by_cases hc: ∃m,m<n/\p m
   ·obtain⟨m,hm,hp⟩:=hc
    exact ih m hm hp
   ·exact⟨n,hn,fun m hm=>GN fun Ii=>hc ⟨m,Ii,hm⟩⟩
 unfold kH;rw[dif_pos pJ];exact GL pJ
def xP :Ex->Exit
 | .normal=> .normal
 | .exit id=> .exit id
 | .ret=> .ret
 | .panic v=> .panic [{v:=v,recovered:=false}]
theorem C2 {call:aS}: ∀(n:Nat) (c:Code) (st:AS) {e:Ex} {s:AS},bP P E k call n c st=some (e,s)-> ∀v,e≠ .panic v
 |0,_,_,_,_,h=>by simp[bP] at h
 |n+1,c,st,e,s,h=>by
  intro v hv;subst hv
  cases c with
  |region i ops d=>
   simp only[bP] at h
   cases hr:bR P E k call ops d st<;>simp[hr] at h
  |seq x y=>
   simp only[bP] at h
   split at h
   ·exact C2 n y _ h v rfl
   ·exact C2 n x _ h v rfl
  |cond q x y=>
   simp only[bP] at h
   split at h
   ·split at h
    ·exact C2 n x _ h v rfl
    ·exact C2 n y _ h v rfl
   ·cases h
  |block id x=>
   simp only[bP] at h
   split at h
   ·split at h<;>simp at h
   ·exact C2 n x _ h v rfl
  |loop x=>
   simp only[bP] at h
   split at h
   ·exact C2 n (.loop x) _ h v rfl
   ·exact C2 n x _ h v rfl
  |scope x=>
   simp only[bP] at h;exact C2 n x _ h v rfl
  |_=>simp[bP] at h
theorem Cn (hm:P.follows .mixedOrders=true)(hE:dS P E)(hC:Av P call): ∀(n:Nat) (c:Code) {Q:Exit->Act->World->Prop} {st st':AS} {e:Ex} {a:Act} {w:World},Im N c=true->aX k N K B st a w->bP P E k call n c st=some (e,st')->
  (∀a' w',aX k N K B st' a' w'->Q (xP e) a' w')->c.wp P Q a w
 |0,c,Q,st,st',e,a,w,_,_,h,_=>by simp[bP] at h
 |n+1,c,Q,st,st',e,a,w,hs,S,h,hQ=>by
  cases c with
  |skip=>
   simp only[bP,Bc,Br] at h;obtain⟨rfl,rfl⟩:=h;exact wp_skip (hQ a w S)
  |label l=>
   simp only[bP,Bc,Br] at h;obtain⟨rfl,rfl⟩:=h;exact wp_label (hQ a w S)
  |region id ops d=>
   simp only[bP] at h
   cases hr:bR P E k call ops d st with
   |none=>rw[hr] at h;cases h
   |some s=>
    rw[hr] at h;simp only[wD,Bc,Br] at h;obtain⟨rfl,rfl⟩:=h;refine Mo hm hE hC (fun o ho x hx=>?_) S hr hQ;simp only[Im,nU,Ed] at hs;have:=(hs o ho).1;rw[hx] at this;simpa using this
  |seq x y=>
   simp only[Im,Ed] at hs;simp only[bP] at h
   split at h
   ·rename_i s h1
    exact nM (Cn hm hE hC n x hs.1 S h1 fun a' w' S'=>Cn hm hE hC n y hs.2 S' h hQ)
   ·rename_i Ir
    refine nM (Cn hm hE hC n x hs.1 S h fun a' w' S'=>?_);have:=hQ a' w' S'
    cases e with
    |normal=>exact(Ir st' h).elim
    |exit id=>exact this
    |ret=>exact this
    |panic v=>exact this
  |cond c x y=>
   simp only[Im,Ed] at hs;simp only[bP] at h
   split at h
   ·rename_i t ht
    have hc:a.eval c= .bool t:=by
     obtain⟨I,m,G,E0,hf,aZ,rX⟩:=S;have:=D0 G hf c;rw[ht] at this;simpa only[Ie] using this
    refine wp_cond hc ?_
    cases t with
    |true=>exact Cn hm hE hC n x hs.1.2 S (by simpa using h) hQ
    |false=>exact Cn hm hE hC n y hs.2 S (by simpa using h) hQ
   ·cases h
  |block id x=>
   simp only[Im] at hs;simp only[bP] at h
   split at h
   ·rename_i i s h1
    refine Aem (Cn hm hE hC n x hs S h1 fun a' w' S'=>?_);simp only[xP,Exit.inBlock]
    split at h
    ·rename_i hi
     simp only[Bc,Br] at h;obtain⟨rfl,rfl⟩:=h;rw[Ka hi];exact hQ a' w' S'
    ·rename_i hi
     simp only[Bc,Br] at h;obtain⟨rfl,rfl⟩:=h;rw[Jx hi];exact hQ a' w' S'
   ·rename_i Ir
    refine Aem (Cn hm hE hC n x hs S h fun a' w' S'=>?_);have:=hQ a' w' S'
    cases e with
    |normal=>exact this
    |exit i=>exact(Ir i st' h).elim
    |ret=>exact this
    |panic v=>exact this
  |loop x=>
   simp only[Im] at hs;refine wp_loop (I:=fun a w=> ∃g s,g<=n+1/\aX k N K B s a w/\bP P E k call g (.loop x) s=some (e,st'))
    (μ:=fun a w=>kH fun g=> ∃s,g<=n+1/\aX k N K B s a w/\bP P E k call g (.loop x) s=some (e,st')) ⟨n+1,st,D5 _,S,h⟩ ?_
   intro a w hI;obtain⟨⟨s,hg,S,h⟩,_⟩:=C4 (p:=fun g=> ∃s,g<=n+1/\aX k N K B s a w/\bP P E k call g (.loop x) s=some (e,st')) hI;generalize oJ:kH (fun g=> ∃s,g<=n+1/\aX k N K B s a w/\bP P E k call g (.loop x) s=some (e,st'))=g at hg h
   cases g with
   |zero=>simp[bP] at h
   |succ g'=>
    have Ii:g'<n+1:=Zo;simp only[bP] at h
    split at h
    ·rename_i s1 h1
     refine Cn hm hE hC g' x hs S h1 fun a' w' S'=>⟨⟨g',s1,Zo,S',h⟩,?_⟩
     have:=(C4 (p:=fun g=> ∃s,g<=n+1/\aX k N K B s a' w'/\bP P E k call g (.loop x) s=some (e,st')) ⟨g',s1,Zo,S',h⟩).2 g' ⟨s1,Zo,S',h⟩;exact Nat.lt_succ_of_le this
    ·rename_i Ir
     refine Cn hm hE hC g' x hs S h fun a' w' S'=>?_
     have:=hQ a' w' S'
     cases e with
     |normal=>exact(Ir st' h).elim
     |exit i=>exact this
     |ret=>exact this
     |panic v=>exact this
  |scope x=>
   simp only[Im] at hs;simp only[bP] at h;exact Aeh (Cn hm hE hC n x hs S h fun a' w' S'=>by have:=hQ a' w' S';cases e<;>exact this)
  |exit id=>
   simp only[bP,Bc,Br] at h;obtain⟨rfl,rfl⟩:=h;exact wp_exit (hQ a w S)
  |ret=>
   simp only[bP,Bc,Br] at h;obtain⟨rfl,rfl⟩:=h;exact wp_ret (hQ a w S)
  |_=>simp[bP] at h
termination_by n=>n
end
end
end Go.Ab
