/- A part of the proof: Ab9, Ab10, Ab11, Ab12, Ab13, Ab29, Ab14, Ab15, Ab16, Ab17, Ab18. -/
import Derived.Test.YtpmoibjpjlhcgaaGreatDoorT00
import Derived.Laws.IdiomStrings
import Derived.RangeFuncRecord
import Derived.Scope
set_option linter.unusedSimpArgs false
set_option linter.unusedVariables false
namespace Go.Ab
section
open Go
section
variable {P:Program}{I K:Nat->Prop}{m:Mp}{hp hp':Hp}{w:World}{k:Nat}
/-! ### addresses -/
theorem Nz {n:Nat}{a v:AV}{u:Value}(hr:Rep k I m hp w a u)(h:(shiftA n a).run hp=some (v,hp')):
  hp'=hp/\ ∃b o,u= .pointer (some ⟨b,o,none⟩)/\Rep k I m hp w v (.pointer (some ⟨b,o+n,none⟩)):=by
 cases a with
 |ptr x g off=>
  simp only[shiftA,Prog.run] at h
  cases hx:hp x with
  |no g'=>rw[hx] at h;simp[Prog.run,AObj.head] at h
  |map _ _ _ _ _=>rw[hx] at h;simp[Prog.run,AObj.head] at h
  |arr g' sz e rows f=>rw[hx] at h;simp[Prog.run,AObj.head] at h
  |box g' cells f=>
   rw[hx] at h
   simp only[AObj.head] at h
   split at h
   ·rename_i hg
    subst hg
    simp only[Prog.run,Option.some.injEq,Prod.mk.injEq] at h
    obtain⟨rfl,rfl⟩:=h
    simp only[Rep] at hr⊢
    obtain⟨h1,h2,h3⟩:=hr
    obtain⟨b,c,hm,rfl⟩:=h3 cells f hx
    exact⟨trivial,b,off,rfl,h1,h2,fun cells fz hx=>⟨b,c,hm,rfl⟩⟩
   ·simp[Prog.run] at h
 |eptr x g i off=>
  simp only[shiftA,Prog.run] at h
  cases hx:hp x with
  |no g'=>rw[hx] at h;simp[Prog.run,AObj.head] at h
  |map _ _ _ _ _=>rw[hx] at h;simp[Prog.run,AObj.head] at h
  |box g' cells f=>rw[hx] at h;simp[Prog.run,AObj.head] at h
  |arr g' sz e rows f=>
   rw[hx] at h
   simp only[AObj.head] at h
   split at h
   ·rename_i hg
    subst hg
    simp only[Prog.run,Option.some.injEq,Prod.mk.injEq] at h
    obtain⟨rfl,rfl⟩:=h
    simp only[Rep] at hr⊢
    obtain⟨h1,h2,h3⟩:=hr
    obtain⟨b,c,hm,rfl⟩:=h3 sz e rows f hx
    refine⟨trivial,b,_,rfl,h1,h2,fun sz' e' rows' fz' hx'=>⟨b,c,hm,?_⟩⟩
    rw[hx] at hx';cases hx'
    rw[Nat.add_assoc]
   ·simp[Prog.run] at h
 |dp cells off=>
  simp only[shiftA,Prog.run,Option.some.injEq,Prod.mk.injEq] at h
  obtain⟨rfl,rfl⟩:=h
  refine⟨rfl,?_⟩
  simp only[Rep,RepD] at hr⊢
  obtain⟨b,o,us,rfl,hb,hc,hl⟩:=hr
  exact⟨b,_,rfl,b,o,us,by rw[Nat.add_assoc],hb,hc,hl⟩
 |any|sc|sl|own|agg|tup|vec|fn|bsl|mp|dmp=>simp[shiftA,Prog.run] at h
theorem Pu {t:TypeId}(h:P.cellsOf t≠0): ∃i,P.info? t=some i/\P.cellsOf t=i.size:=by
 unfold Program.cellsOf at h
 cases hi:P.info? t with
 |none=>simp[hi] at h
 |some i=>exact⟨i,rfl,by simp[Program.cellsOf,hi]⟩
theorem Lua {s:TypeId}{f:Nat}{a v:AV}{u:Value}(hr:Rep k I m hp w a u)(h:(fieldP P s a f).run hp=some (v,hp')):
  hp'=hp/\ ∃u',(Instr.fieldAt s u f).run P w= .ok u' w/\Rep k I m hp w v u':=by
 unfold fieldP at h
 split at h
 ·rename_i off sz ft hf
  split at h
  ·simp[Prog.run] at h
  ·rename_i hz
   obtain⟨e1,b,o,rfl,h2⟩:=Nz hr h
   refine⟨e1,_,?_,h2⟩
   unfold flds at hf
   split at hf
   ·rename_i fs hu
    rw[List.getElem?_map] at hf
    cases hfs:fs.toList[f]? with
    |none=>rw[hfs] at hf;cases hf
    |some fl=>
     rw[hfs] at hf
     simp only[Option.map_some,Option.some.injEq,Prod.mk.injEq] at hf
     obtain⟨rfl,rfl,rfl⟩:=hf
     obtain⟨i,hi,hs⟩:=Pu hz
     have hfs':fs[f]?=some fl:=by simpa using hfs
     rw[hs] at hz
     simp[Instr.fieldAt,run_underlying hu,hfs',Instr.sureAddr,fieldPlace,sizeOf,typeInfo,hi,hz,Bb]
   ·simp at hf
 ·simp[Prog.run] at h
theorem Lga {t:TypeId}{a i v:AV}{u ui:Value}(hr:Rep k I m hp w a u)(hri:Rep k I m hp w i ui)(h:(indexP P t a i).run hp=some (v,hp')):
  hp'=hp/\ ∃u',(Instr.indexAt t u ui).run P w= .ok u' w/\Rep k I m hp w v u':=by
 cases i with
 |sc vi=>
  cases vi with
  |int kd n=>
   simp only[Rep] at hri
   subst hri
   simp only[indexP] at h
   split at h
   case isFalse=>simp[Prog.run] at h
   rename_i hn
   split at h
   · -- data
    rename_i f sz rows
    split at h
    ·rename_i e he
     have ht:=A8 he
     split at h
     case isFalse=>simp[Prog.run] at h
     rename_i hc
     obtain⟨rfl,hinfo⟩:=hc
     simp only[tOk,Bool.and_eq_true] at hinfo
     obtain⟨i,hi⟩:=Option.isSome_iff_exists.1 hinfo.1
     split at h
     ·rename_i r hrow
      simp only[Prog.run,Option.some.injEq,Prod.mk.injEq] at h
      obtain⟨rfl,rfl⟩:=h
      refine⟨rfl,?_⟩
      simp only[Rep,RepD] at hr
      obtain⟨A,cap,rfl,h1,h2,h3,h4⟩:=hr
      have hlt:n.toNat<rows.length:=(List.getElem?_eq_some_iff.1 hrow).1
      rcases h4 with rfl|⟨b,o,us,rfl,hb,hcc,hrr⟩
      ·simp at hlt
      ·obtain⟨hev,hal⟩:=(Ak _ _).1 hrr
       refine⟨.pointer (some ⟨b,o+n.toNat*P.cellsOf e,none⟩),?_,?_⟩
       ·have hlt':n<(rows.length:Int):=Zo
        simp[Instr.indexAt,run_underlying ht,asIntOf,sizeOf,typeInfo,hi,hn,hlt',Bb,Program.cellsOf]
       ·simp only[Rep,RepD]
        refine⟨b,o+n.toNat*P.cellsOf e,(us.drop (n.toNat*P.cellsOf e)).take (P.cellsOf e),rfl,hb,fun j v hv=>?_,?_⟩
        ·rw[List.getElem?_take] at hv
         split at hv
         ·rw[List.getElem?_drop] at hv
          have:=hcc _ v hv
          rwa [<-Nat.add_assoc] at this
         ·cases hv
        ·rw[A1]
         have:=(hal.drop (n.toNat*P.cellsOf e)).take (P.cellsOf e)
         rwa [hev.row hrow] at this
     ·simp[Prog.run] at h
    ·simp[Prog.run] at h
   · -- what is owned
    rename_i x g len
    split at h
    ·rename_i e he
     have ht:=A8 he
     simp only[Prog.run] at h
     cases hx:hp x with
     |no g'=>rw[hx] at h;simp[Prog.run,AObj.head] at h
     |map _ _ _ _ _=>rw[hx] at h;simp[Prog.run,AObj.head] at h
     |box g' c f=>rw[hx] at h;simp[Prog.run,AObj.head] at h
     |arr g' sz e' rows f=>
      rw[hx] at h
      simp only[AObj.head] at h
      split at h
      case isFalse=>simp[Prog.run] at h
      rename_i hc
      obtain⟨rfl,rfl,hinfo,hlt⟩:=hc
      simp only[tOk,Bool.and_eq_true] at hinfo
      obtain⟨i,hi⟩:=Option.isSome_iff_exists.1 hinfo.1
      simp only[Prog.run,Option.some.injEq,Prod.mk.injEq] at h
      obtain⟨rfl,rfl⟩:=h
      refine⟨rfl,?_⟩
      simp only[Rep] at hr
      obtain⟨h1,h2,h3⟩:=hr
      obtain⟨h4,h5⟩:=h3 _ e' rows f hx
      rcases h5 with⟨_,_,h0⟩|⟨b,cap,hm,rfl⟩
      ·omega
      ·refine⟨.pointer (some ⟨b,n.toNat*P.cellsOf e,none⟩),?_,?_⟩
       ·have hlt':n<(len:Int):=Zo
        simp[Instr.indexAt,run_underlying ht,asIntOf,sizeOf,typeInfo,hi,hn,hlt',Bb,Program.cellsOf]
       ·simp only[Rep]
        refine⟨h1,h2,fun sz e rows fz hx'=>⟨b,cap,hm,?_⟩⟩
        rw[hx] at hx';cases hx';rfl
    ·simp[Prog.run] at h
   · -- a box's part
    rename_i x g sz off len
    split at h
    ·rename_i e he
     have ht:=A8 he
     simp only[Prog.run] at h
     cases hx:hp x with
     |no g'=>rw[hx] at h;simp[Prog.run,AObj.head] at h
     |map _ _ _ _ _=>rw[hx] at h;simp[Prog.run,AObj.head] at h
     |arr g' sz e' rows f=>rw[hx] at h;simp[Prog.run,AObj.head] at h
     |box g' c f=>
      rw[hx] at h
      simp only[AObj.head] at h
      split at h
      case isFalse=>simp[Prog.run] at h
      rename_i hc
      obtain⟨rfl,rfl,hinfo,hlt⟩:=hc
      simp only[tOk,Bool.and_eq_true] at hinfo
      obtain⟨i,hi⟩:=Option.isSome_iff_exists.1 hinfo.1
      simp only[Prog.run,Option.some.injEq,Prod.mk.injEq] at h
      obtain⟨rfl,rfl⟩:=h
      refine⟨rfl,?_⟩
      simp only[Rep] at hr
      obtain⟨h1,h2,h3⟩:=hr
      obtain⟨b,c',cap,hm,h4,h5,rfl⟩:=h3 _ f hx
      refine⟨.pointer (some ⟨b,off+n.toNat*P.cellsOf e,none⟩),?_,?_⟩
      ·have hlt':n<(len:Int):=Zo
       simp[Instr.indexAt,run_underlying ht,asIntOf,sizeOf,typeInfo,hi,hn,hlt',Bb,Program.cellsOf]
      ·simp only[Rep]
       exact⟨h1,h2,fun cells fz hx'=>⟨b,c',hm,rfl⟩⟩
    ·simp[Prog.run] at h
   ·split at h
    ·rename_i len e he
     split at h
     case isFalse=>simp[Prog.run] at h
     rename_i hc
     obtain⟨hlt,hinfo⟩:=hc
     simp only[tOk,Bool.and_eq_true] at hinfo
     obtain⟨i,hi⟩:=Option.isSome_iff_exists.1 hinfo.1
     obtain⟨e1,b,o,rfl,h2⟩:=Nz hr h
     refine⟨e1,_,?_,h2⟩
     have ht:P.underlying t=some (.array len e):=by
      unfold Ay at he
      split at he
      ·rename_i n' e' he';cases he;exact he'
      ·cases he
     have hlt':n<(len:Int):=Zo
     simp[Instr.indexAt,run_underlying ht,asIntOf,Instr.sureAddr,sizeOf,typeInfo,hi,hn,hlt',Bb,Program.cellsOf]
    ·simp[Prog.run] at h
  |_=>simp[indexP,Prog.run] at h
 |any|sl|dp|own|ptr|eptr|agg|tup|vec|fn|bsl|mp|dmp=>simp[indexP,Prog.run] at h
/-! ### parts of a value -/
theorem Cda {t:TypeId}{cs:List AV}{us:List Value}{off:Nat}{v:AV}(hr:AllR (Rep k I m hp w) cs us)(h:(partA P t cs off).run hp=some (v,hp')):
  hp'=hp/\ ∃u',(part t ⟨us⟩ off).run P w= .ok u' w/\Rep k I m hp w v u':=by
 unfold partA at h
 split at h
 ·simp[Prog.run] at h
 rename_i htok
 simp only[Bool.not_eq_true,Bool.not_eq_false',tOk,Bool.and_eq_true] at htok
 obtain⟨hinfo,hu⟩:=htok
 obtain⟨i,hi⟩:=Option.isSome_iff_exists.1 hinfo
 obtain⟨d,hd⟩:=Option.isSome_iff_exists.1 hu
 split at h
 ·rename_i hagg
  split at h
  ·rename_i hle
   simp only[Prog.run,Option.some.injEq,Prod.mk.injEq] at h
   obtain⟨rfl,rfl⟩:=h
   refine⟨rfl,.agg ⟨(us.drop off).take (P.cellsOf t)⟩,?_,?_⟩
   ·have hrun:(isAgg t).run P w= .ok true w:=by
     unfold isAggB at hagg
     rw[hd] at hagg
     unfold isAgg
     rw[Sem.run_bind,run_underlying hd]
     cases d<;>simp at hagg<;>rfl
    have e:(#[].extract 0 0:Array Value)= #[]:=rfl
    simp only[part,Sem.run_bind,hrun,Result.andThen_ok,if_true,sizeOf,typeInfo,run_program,hi,Sem.run_pure]
    congr 2
    apply Array.ext'
    simp[Program.cellsOf,hi,List.take_drop]
   ·simp only[Rep]
    exact⟨_,rfl,(Ah _ _).2 ((hr.drop off).take _)⟩
  ·simp[Prog.run] at h
 ·rename_i hagg
  split at h
  ·rename_i v' hv
   simp only[Prog.run,Option.some.injEq,Prod.mk.injEq] at h
   obtain⟨rfl,rfl⟩:=h
   obtain⟨u',hu',h1⟩:=hr.get hv
   refine⟨rfl,u',?_,h1⟩
   have hrun:(isAgg t).run P w= .ok false w:=by
    unfold isAggB at hagg
    rw[hd] at hagg
    unfold isAgg
    rw[Sem.run_bind,run_underlying hd]
    cases d<;>simp at hagg<;>rfl
   have hu2:(⟨us⟩:Array Value)[off]?=some u':=by simpa using hu'
   simp[part,Sem.run_bind,hrun,hu2]
  ·simp[Prog.run] at h
theorem E0a {t:TypeId}{x v:AV}{u:Value}{f:Nat}(hr:Rep k I m hp w x u)(h:(fieldVP P t x f).run hp=some (v,hp')):
  hp'=hp/\ ∃u',(Instr.field t u f).run P w= .ok u' w/\Rep k I m hp w v u':=by
 unfold fieldVP at h
 split at h
 ·rename_i off sz ft cs hf
  simp only[Rep] at hr
  obtain⟨us,rfl,hr⟩:=hr
  obtain⟨e1,u',h3,h4⟩:=Cda ((Ah _ _).1 hr) h
  refine⟨e1,u',?_,h4⟩
  unfold flds at hf
  split at hf
  ·rename_i fs hu
   rw[List.getElem?_map] at hf
   cases hfs:fs.toList[f]? with
   |none=>rw[hfs] at hf;cases hf
   |some fl=>
    rw[hfs] at hf
    simp only[Option.map_some,Option.some.injEq,Prod.mk.injEq] at hf
    obtain⟨rfl,rfl,rfl⟩:=hf
    have hfs':fs[f]?=some fl:=by simpa using hfs
    simp[Instr.field,run_underlying hu,hfs',asAgg,h3]
  ·simp at hf
 ·simp[Prog.run] at h
theorem Era {t:TypeId}{x i v:AV}{u ui:Value}(hr:Rep k I m hp w x u)(hri:Rep k I m hp w i ui)(h:(indexVP P t x i).run hp=some (v,hp')):
  hp'=hp/\ ∃u',(Instr.index t u ui).run P w= .ok u' w/\Rep k I m hp w v u':=by
 cases i with
 |sc vi=>
  cases vi with
  |int kd n=>
   simp only[Rep] at hri
   subst hri
   simp only[indexVP] at h
   split at h
   case isFalse=>simp[Prog.run] at h
   rename_i hn
   split at h
   ·rename_i cs
    split at h
    ·rename_i len e he
     split at h
     case isFalse=>simp[Prog.run] at h
     rename_i hc
     obtain⟨hlt,hinfo⟩:=hc
     simp only[tOk,Bool.and_eq_true] at hinfo
     obtain⟨i,hi⟩:=Option.isSome_iff_exists.1 hinfo.1
     simp only[Rep] at hr
     obtain⟨us,rfl,hr⟩:=hr
     obtain⟨e1,u',h3,h4⟩:=Cda ((Ah _ _).1 hr) h
     have ht:P.underlying t=some (.array len e):=by
      unfold Ay at he
      split at he
      ·rename_i n' e' he';cases he;exact he'
      ·cases he
     have hlt':n<(len:Int):=Zo
     refine⟨e1,u',?_,h4⟩
     simp[Instr.index,run_underlying ht,asIntOf,sizeOf,typeInfo,hi,hn,hlt']
     simpa[Program.cellsOf,hi] using h3
    ·simp[Prog.run] at h
   ·rename_i s
    split at h
    ·rename_i hs
     split at h
     ·rename_i b hb
      simp only[Prog.run,Option.some.injEq,Prod.mk.injEq] at h
      obtain⟨rfl,rfl⟩:=h
      simp only[Rep] at hr
      subst hr
      refine⟨rfl,.int .u8 b.toNat,?_,by simp only[Rep]⟩
      have ht:P.underlying t=some .string:=by
       unfold strB at hs
       split at hs
       ·rename_i he';exact he'
       ·cases hs
      have hb':s[n.toNat]?=some b:=by
       have hlt:n.toNat<s.data.size:=(Array.getElem?_eq_some_iff.1 hb).1
       have:n.toNat<s.size:=hlt
       rw[getElem?_pos s n.toNat this]
       rw[getElem?_pos s.data n.toNat hlt] at hb
       exact hb
      simp[Instr.index,run_underlying ht,asIntOf,hn,hb']
     ·simp[Prog.run] at h
    ·simp[Prog.run] at h
   ·simp[Prog.run] at h
  |_=>simp[indexVP,Prog.run] at h
 |any|sl|dp|own|ptr|eptr|agg|tup|vec|fn|bsl|mp|dmp=>simp[indexVP,Prog.run] at h
theorem Fo {t:TypeId}(h:strB P t=true):P.underlying t=some .string:=by
 unfold strB at h
 split at h
 ·rename_i he';exact he'
 ·cases h
theorem Jb {t:TypeId}(h:(slel P t).isSome): ∃e,P.underlying t=some (.slice e):=by
 obtain⟨e,he⟩:=Option.isSome_iff_exists.1 h
 exact⟨e,A8 he⟩
theorem Ks (w:World){t e ty:TypeId}(ht:P.underlying t=some (.slice e))(A:Option Addr)(n c:Nat):(Builtin.len_ #[t] ty #[.slice A n c]).run P w= .ok (.int .i64 n) w:=by
 simp[Builtin.len_,run_underlying ht,goInt]
theorem len_ok {t ty:TypeId}{x v:AV}{u:Value}(hr:Rep k I m hp w x u)(h:(lenP P t x).run hp=some (v,hp')):
  hp'=hp/\ ∃u',(Builtin.len_ #[t] ty #[u]).run P w= .ok u' w/\Rep k I m hp w v u':=by
 cases x with
 |sc vi=>
  simp only[Rep] at hr
  subst hr
  unfold lenP at h
  split at h
  all_goals first|(simp[Prog.run] at h;done)|(rename_i heq;simp at heq;done)|skip
  ·rename_i s heq
   simp only[AV.sc.injEq] at heq
   subst heq
   split at h
   ·rename_i hs
    simp only[Prog.run,Option.some.injEq,Prod.mk.injEq] at h
    obtain⟨rfl,rfl⟩:=h
    exact⟨rfl,.int .i64 s.size,by simp[Builtin.len_,run_underlying (Fo hs),goInt],by simp only[Rep]⟩
   ·simp[Prog.run] at h
  ·rename_i heq
   simp only[AV.sc.injEq] at heq
   subst heq
   split at h
   ·rename_i hs
    obtain⟨e,he⟩:=Jb hs
    simp only[Prog.run,Option.some.injEq,Prod.mk.injEq] at h
    obtain⟨rfl,rfl⟩:=h
    exact⟨rfl,.int .i64 0,Ks w he none 0 0,by simp only[Rep]⟩
   ·simp[Prog.run] at h
 |sl f sz rows=>
  simp only[lenP] at h
  split at h
  ·rename_i hs
   obtain⟨e,he⟩:=Jb hs
   simp only[Prog.run,Option.some.injEq,Prod.mk.injEq] at h
   obtain⟨rfl,rfl⟩:=h
   simp only[Rep,RepD] at hr
   obtain⟨A,cap,rfl,_⟩:=hr
   exact⟨rfl,_,Ks w he A _ cap,by simp only[Rep]⟩
  ·simp[Prog.run] at h
 |own x g n=>
  simp only[lenP] at h
  split at h
  case isFalse=>simp[Prog.run] at h
  rename_i hs
  obtain⟨e,he⟩:=Jb hs
  simp only[Prog.run] at h
  cases hx:hp x with
  |no g'=>rw[hx] at h;simp[Prog.run,AObj.head] at h
  |map _ _ _ _ _=>rw[hx] at h;simp[Prog.run,AObj.head] at h
  |box g' cells f=>rw[hx] at h;simp[Prog.run,AObj.head] at h
  |arr g' sz e rows f=>
   rw[hx] at h
   simp only[AObj.head] at h
   split at h
   ·rename_i hg
    subst hg
    simp only[Prog.run,Option.some.injEq,Prod.mk.injEq] at h
    obtain⟨rfl,rfl⟩:=h
    simp only[Rep] at hr
    obtain⟨_,_,hr⟩:=hr
    obtain⟨_,hr⟩:=hr sz e rows f hx
    rcases hr with⟨_,rfl,rfl⟩|⟨b,cap,_,rfl⟩
    ·exact⟨rfl,_,Ks w he none 0 0,by simp only[Rep]⟩
    ·exact⟨rfl,_,Ks w he _ n cap,by simp only[Rep]⟩
   ·simp[Prog.run] at h
 |bsl x g sz off n=>
  simp only[lenP] at h
  split at h
  case isFalse=>simp[Prog.run] at h
  rename_i hs
  obtain⟨e,he⟩:=Jb hs
  simp only[Prog.run] at h
  cases hx:hp x with
  |no g'=>rw[hx] at h;simp[Prog.run,AObj.head] at h
  |map _ _ _ _ _=>rw[hx] at h;simp[Prog.run,AObj.head] at h
  |arr g' sz e rows f=>rw[hx] at h;simp[Prog.run,AObj.head] at h
  |box g' cells f=>
   rw[hx] at h
   simp only[AObj.head] at h
   split at h
   ·rename_i hg
    subst hg
    simp only[Prog.run,Option.some.injEq,Prod.mk.injEq] at h
    obtain⟨rfl,rfl⟩:=h
    simp only[Rep] at hr
    obtain⟨_,_,hr⟩:=hr
    obtain⟨b,c',cap,hm,h4,h5,rfl⟩:=hr cells f hx
    exact⟨rfl,_,Ks w he _ n cap,by simp only[Rep]⟩
   ·simp[Prog.run] at h
 |any|ptr|eptr|dp|agg|tup|vec|fn|mp|dmp=>simp[lenP,Prog.run] at h
/-! ### scalars -/
theorem Lza {op:BinOp}{kd:IntKind}{a b:Int}{v:Value}(h:evInt op kd a b=some v)(t:TypeId)(hs:op≠ .shl/\op≠ .shr):
  (binOp op t (.int kd a) (.int kd b)).run P w= .ok v w:=by
 cases op<;>simp only[evInt,Option.some.injEq,reduceCtorEq] at h<;>first
  |(exact absurd rfl hs.1)
  |(exact absurd rfl hs.2)
  |(subst h;simp[binOp,Op.intArith,Op.intBits,Op.intCmp];done)
  |(split at h
    ·cases h
    ·rename_i hb
     simp only[Option.some.injEq] at h
     subst h
     simp[binOp,Op.intDiv,hb])
theorem Lxa {op:BinOp}{a b:ByteArray}{v:Value}(h:evStr op a b=some v)(t:TypeId):(binOp op t (.string a) (.string b)).run P w= .ok v w:=by
 have e: ∀x y:ByteArray,(x.toList==y.toList)=decide (x=y):=fun x y=>by
  rw[ByteArray.toList_eq,ByteArray.toList_eq]
  by_cases hxy:x=y
  ·subst hxy;simp
  ·have hd:x.data≠y.data:=fun h=>hxy (ByteArray.ext h)
   simp[hd,hxy]
 cases op<;>simp only[evStr,Option.some.injEq,reduceCtorEq] at h
 case add=>
  split at h
  ·rename_i hc
   simp only[Option.some.injEq] at h
   subst h
   have hc': ¬(9223372036854775807<((a.size:Int)+(b.size:Int))):=Zo
   simp[binOp,Op.stringOp,IntKind.max,IntKind.signed,IntKind.bits,hc']
  ·cases h
 case eql=>subst h;simp[binOp,Op.stringOp,e]
 case neq=>subst h;simp[binOp,Op.stringOp,e]
 case lss=>subst h;simp[binOp,Op.stringOp]
end
end
section
open Go
section
variable {P:Program}{I K:Nat->Prop}{m:Mp}{hp hp':Hp}{w:World}{k:Nat}
/-! ### cut -/
def oRep (k:Nat)(I:Nat->Prop)(m:Mp)(hp:Hp)(w:World):Option AV->Option Value->Prop
 |none,none=>True
 |some a,some u=>Rep k I m hp w a u
 |_,_=>False
theorem Eo {d n:Nat}{a:Option AV}{u:Option Value}(h:bound d a=some n)(hr:oRep k I m hp w a u):
  (a=none/\u=none/\n=d)\/ ∃kd x,u=some (.int kd x)/\0<=x/\n=x.toNat:=by
 cases a with
 |none=>cases u with
  |none=>simp[bound] at h;exact .inl ⟨rfl,rfl,h.symm⟩
  |some u=>simp[oRep] at hr
 |some a=>
  cases u with
  |none=>simp[oRep] at hr
  |some u=>
   unfold bound at h
   split at h
   ·rename_i heq;cases heq
   ·rename_i kd x heq
    cases heq
    split at h
    ·rename_i hx
     cases h
     simp only[oRep,Rep] at hr
     subst hr
     exact .inr ⟨kd,x,rfl,hx,rfl⟩
    ·cases h
   ·cases h
theorem B8 (w:World){kd:IntKind}{x:Int}{y:Nat}{c:BoundsCode}(h0:0<=x)(hy:x.toNat<=y):(Instr.sliceBound (.int kd x) y c).run P w= .ok x.toNat w:=by
 have:x<=(y:Int):=Zo
 simp[Instr.sliceBound,asIntOf,h0,this]
theorem Cq (w:World)(isSlice:Bool){len cap l h:Nat}{lo hi:Option AV}{ul uh:Option Value}(rl:oRep k I m hp w lo ul)(rh:oRep k I m hp w hi uh)(hl:bound 0 lo=some l)(hh:bound len hi=some h)
  (h1:l<=h) (h2:h<=len) (h3:len<=cap):(Instr.sliceBounds isSlice len cap ul uh none).run P w= .ok (l,h,cap) w:=by
 rcases Eo hl rl with⟨_,rfl,rfl⟩|⟨kd,x,rfl,hx,rfl⟩<;>rcases Eo hh rh with⟨_,rfl,rfl⟩|⟨kd',y,rfl,hy,rfl⟩
 ·simp[Instr.sliceBounds]
 ·simp[Instr.sliceBounds,B8 w hy (show y.toNat<=cap by omega)]
 ·simp[Instr.sliceBounds,B8 w hx (show x.toNat<=h by omega)]
 ·simp[Instr.sliceBounds,B8 w hy (show y.toNat<=cap by omega),B8 w hx h1]
theorem L9 (w:World){len cap l h q:Nat}{lo hi mx:Option AV}{ul uh um:Option Value}(rl:oRep k I m hp w lo ul)(rh:oRep k I m hp w hi uh)(rm:oRep k I m hp w mx um)(hl:bound 0 lo=some l)(hh:bound len hi=some h)(hm:bound 0 mx=some q)
  (h1:l<=h) (h2:h<=q) (h3:q<=cap) (hs:hi.isSome) (ms:mx.isSome):(Instr.sliceBounds true len cap ul uh um).run P w= .ok (l,h,q) w:=by
 rcases Eo hm rm with⟨rfl,_,_⟩|⟨kz,z,rfl,hz,rfl⟩
 ·simp at ms
 rcases Eo hh rh with⟨rfl,_,_⟩|⟨kd',y,rfl,hy,rfl⟩
 ·simp at hs
 rcases Eo hl rl with⟨_,rfl,rfl⟩|⟨kd,x,rfl,hx,rfl⟩
 ·simp[Instr.sliceBounds,B8 w hz h3,B8 w hy h2]
 ·simp[Instr.sliceBounds,B8 w hz h3,B8 w hy h2,B8 w hx h1]
theorem RepD.cut {J:Nat->Prop}{f f':Bool}{sz l h cap c':Nat}{rows:List (List AV)}{A:Option Addr}(hr:RepD J w (.sl f sz rows) (.slice A rows.length cap))(h1:l<=h)(h2:h<=rows.length)(hc:h<=c')(hcc:c'<=cap)(hf:f'=true->c'=h):
  RepD J w (.sl f' sz ((rows.take h).drop l)) (.slice (if c'=l then A else A.map (·.add (l*sz))) (h - l) (c' - l)):=by
 simp only[RepD] at hr⊢
 obtain⟨A',cap',he,h3,h4,h5,h6⟩:=hr
 simp only[Value.slice.injEq] at he
 obtain⟨rfl,_,rfl⟩:=he
 have hlen:((rows.take h).drop l).length=h - l:=by rw[List.length_drop,List.length_take];omega
 refine⟨_,_,by rw[hlen],by rw[hlen];omega,Zo,fun hft=>by rw[hlen,hf hft],?_⟩
 by_cases hlh:h=l
 ·left
  apply List.eq_nil_of_length_eq_zero
  rw[hlen];omega
 ·rcases h6 with rfl|⟨b,o,us,rfl,hb,hcc',hrr⟩
  ·simp at h2;omega
  ·right
   obtain⟨hev,hal⟩:=(Ak _ _).1 hrr
   refine⟨b,o+l*sz,(us.take (h*sz)).drop (l*sz),?_,hb,fun j v hv=>?_,?_⟩
   ·rw[if_neg Zo]
    simp[Bb]
   ·rw[List.getElem?_drop,List.getElem?_take] at hv
    split at hv
    ·have:=hcc' _ v hv
     rwa [<-Nat.add_assoc] at this
    ·cases hv
   ·rw[Ak]
    refine⟨(hev.take h).drop l,?_⟩
    rw[(hev.take h).flatten_drop,hev.flatten_take]
    exact(hal.take _).drop _
theorem D6 (w:World){t e:TypeId}(ht:P.underlying t=some (.slice e)){i:TypeInfo}(hi:P.info? e=some i){A:Option Addr}{len cap l h q:Nat}{ul uh um:Option Value}(hb:(Instr.sliceBounds true len cap ul uh um).run P w= .ok (l,h,q) w):
  (Instr.sliceAt t (.slice A len cap) ul uh um).run P w= .ok (.slice (if q=l then A else A.map (·.add (l*i.size))) (h - l) (q - l)) w:=by
 simp[Instr.sliceAt,Instr.slice,run_underlying ht,hb,sizeOf,typeInfo,hi]
theorem Le {t:TypeId}(h:tOk P t=true):(∃i,P.info? t=some i/\P.cellsOf t=i.size)/\(P.underlying t).isSome:=by
 simp only[tOk,Bool.and_eq_true] at h
 obtain⟨i,hi⟩:=Option.isSome_iff_exists.1 h.1
 exact⟨⟨i,hi,by simp[Program.cellsOf,hi]⟩,h.2⟩
theorem Wa {t e:TypeId}{n:Nat}(h:Ay P t=some (n,e)):P.underlying t=some (.array n e):=by
 unfold Ay at h
 split at h
 ·rename_i n' e' he';cases h;exact he'
 ·cases h
theorem C7 {u:Option Value}(h:oRep k I m hp w none u):u=none:=by cases u<;>simp_all[oRep]
theorem Hia (G:Gam I K m hp w){t:TypeId}{x v:AV}{lo hi mx:Option AV}{u:Value}{ul uh um:Option Value}(hr:Rep k I m hp w x u)(rl:oRep k I m hp w lo ul)(rh:oRep k I m hp w hi uh)(rm:oRep k I m hp w mx um)
  (h:(sliceP P t x lo hi mx).run hp=some (v,hp')):
  ∃I' u',(Instr.sliceAt t u ul uh um).run P w= .ok u' w/\Gam I' K m hp' w/\Ext I K m hp w I' m hp' w/\Rep k I' m hp' w v u':=by
 cases x with
 |sc vi=>
  simp only[Rep] at hr
  subst hr
  unfold sliceP at h
  split at h
  all_goals first|(simp[Prog.run] at h;done)|(rename_i heq;simp at heq;done)|skip
  rename_i s heq
  simp only[AV.sc.injEq] at heq
  subst heq
  split at h
  ·rename_i l hh _ _ _
   split at h
   ·rename_i hc
    simp only[Prog.run,Option.some.injEq,Prod.mk.injEq] at h
    obtain⟨rfl,rfl⟩:=h
    have hum:=C7 rm
    subst hum
    have hb:=Cq (P:=P) w false rl rh ‹bound 0 lo=_› ‹bound s.size hi=_› hc.1 hc.2 (Nat.le_refl _)
    refine⟨I,.string (s.extract l hh),?_,G,.refl _ _ _ _ _,by simp only[Rep]⟩
    simp[Instr.sliceAt,Instr.slice,run_underlying (Fo ‹strB P t=true›),hb]
   ·simp[Prog.run] at h
  ·simp[Prog.run] at h
 |sl f sz rows=>
  simp only[sliceP] at h
  have hr0:=hr
  simp only[Rep,RepD] at hr0
  obtain⟨A,cap,rfl,h1,h2,h3,h4⟩:=hr0
  simp only[Rep] at hr
  split at h
  ·rename_i e l hh _ _ _
   split at h
   case isFalse=>simp[Prog.run] at h
   rename_i hc
   obtain⟨c1,c2,rfl,c4⟩:=hc
   simp only[Prog.run,Option.some.injEq,Prod.mk.injEq] at h
   obtain⟨rfl,rfl⟩:=h
   have hum:=C7 rm
   subst hum
   obtain⟨⟨i,hi,hsz⟩,_⟩:=Le c4
   have hb:=Cq (P:=P) w true rl rh ‹bound 0 lo=_› ‹bound rows.length _=_› c1 c2 h1
   refine⟨I,_,D6 w (A8 ‹slel P t=_›) hi hb,G,.refl _ _ _ _ _,?_⟩
   simp only[Rep]
   rw[<-hsz]
   exact hr.cut c1 c2 Zo (Nat.le_refl _) Zi
  ·rename_i e l hh mm _ _ _
   split at h
   ·rename_i q _
    split at h
    case isFalse=>simp[Prog.run] at h
    rename_i hc
    obtain⟨c1,rfl,c2,rfl,c3,c4⟩:=hc
    simp only[Prog.run,Option.some.injEq,Prod.mk.injEq] at h
    obtain⟨rfl,rfl⟩:=h
    obtain⟨⟨i,hi,hsz⟩,_⟩:=Le c4
    have hb:=L9 (P:=P) (len:=rows.length) (cap:=cap) w rl rh rm ‹bound 0 lo=_› ‹bound rows.length _=_› ‹bound 0 (some mm)=_› c1 (Nat.le_refl _) Zo c3 rfl
    refine⟨I,_,D6 w (A8 ‹slel P t=_›) hi hb,G,.refl _ _ _ _ _,?_⟩
    simp only[Rep]
    rw[<-hsz]
    exact hr.cut c1 c2 (Nat.le_refl _) Zo (fun _=>rfl)
   ·simp[Prog.run] at h
  ·simp[Prog.run] at h
 |own x g n=>
  simp only[sliceP,Prog.run] at h
  cases hx:hp x with
  |no g'=>rw[hx] at h;simp[Prog.run] at h
  |map _ _ _ _ _=>rw[hx] at h;simp[Prog.run] at h
  |box g' c f=>rw[hx] at h;simp[Prog.run] at h
  |arr g' sz e' rows f=>
   rw[hx] at h
   simp only at h
   split at h
   ·rename_i e l hh _ _ _
    split at h
    case isFalse=>simp[Prog.run] at h
    rename_i hc
    obtain⟨rfl,c1,c2,rfl,c4⟩:=hc
    have hum:=C7 rm
    subst hum
    obtain⟨⟨i,hi,hsz⟩,_⟩:=Le c4
    obtain⟨hn,_,hd⟩:=G.ownRows hx hr
    have hr0:=hr
    simp only[Rep] at hr0
    obtain⟨r1,r2,r3⟩:=hr0
    obtain⟨r4,r5⟩:=r3 _ e' rows f hx
    split at h
    ·rename_i hl0
     subst hl0
     simp only[Prog.run,Option.some.injEq,Prod.mk.injEq] at h
     obtain⟨rfl,rfl⟩:=h
     rcases r5 with⟨m0,rfl,rfl⟩|⟨b,cap,hm,rfl⟩
     ·have hb:=Cq (P:=P) w true (cap:=0) rl rh ‹bound 0 lo=_› ‹bound 0 _=_› c1 c2 (Nat.le_refl _)
      refine⟨I,_,D6 w (A8 ‹slel P t=_›) hi hb,G,.refl _ _ _ _ _,?_⟩
      simp only[Rep]
      refine⟨r1,r2,fun sz e rows' fz hx'=>⟨Zo,.inl ⟨m0,?_,Zo⟩⟩⟩
      have:hh=0:=Zo
      subst this;simp
     ·have hcap:n<=cap:=by
       have ho:=G.obj x
       rw[hx] at ho
       rcases ho with⟨h1,_⟩|⟨b',cap',us,mk,h1,h2,h3,h4,h5,h6,h7,h8,h9⟩
       ·rw[h1] at hm;cases hm
       ·rw[h1] at hm;cases hm;omega
      have hb:=Cq (P:=P) w true (cap:=cap) rl rh ‹bound 0 lo=_› ‹bound n _=_› c1 c2 hcap
      refine⟨I,_,D6 w (A8 ‹slel P t=_›) hi hb,G,.refl _ _ _ _ _,?_⟩
      simp only[Rep]
      refine⟨r1,r2,fun sz e rows' fz hx'=>?_⟩
      rw[hx] at hx';cases hx'
      refine⟨Zo,.inr ⟨b,cap,hm,?_⟩⟩
      simp[Bb]
    ·simp only[Prog.run,Option.some.injEq,Prod.mk.injEq] at h
     obtain⟨rfl,rfl⟩:=h
     obtain⟨I',G',E',hb'⟩:=G.freeze hx
     have hdat:=hd I' E'.isub hb'
     have hlen:(rows.take n).length=n:=by rw[List.length_take];omega
     have hu: ∃A cap,u= .slice A (rows.take n).length cap/\n<=cap:=by
      have:=hdat
      simp only[RepD] at this
      obtain⟨A,cap,e1,e2,_⟩:=this
      exact⟨A,cap,e1,Zo⟩
     obtain⟨A,cap,rfl,hcap⟩:=hu
     rw[hlen] at hdat⊢
     have hb:=Cq (P:=P) w true (cap:=cap) rl rh ‹bound 0 lo=_› ‹bound n _=_› c1 c2 hcap
     refine⟨I',_,D6 w (A8 ‹slel P t=_›) hi hb,G',E',?_⟩
     simp only[Rep]
     rw[<-hsz]
     have hcut:=RepD.cut (rows:=rows.take n) (f':=false) (c':=cap) (l:=l) (h:=hh) (cap:=cap) (A:=A) (by rw[hlen];exact hdat) c1 (by rw[hlen];exact c2) Zo (Nat.le_refl _) Zi
     rwa [List.take_take,Nat.min_eq_left c2] at hcut
   ·rename_i e l hh mm _ _ _
    split at h
    ·rename_i q _
     split at h
     case isFalse=>simp[Prog.run] at h
     rename_i hc
     obtain⟨rfl,c1,rfl,c2,rfl,c3,c4⟩:=hc
     simp only[Prog.run,Option.some.injEq,Prod.mk.injEq] at h
     obtain⟨rfl,rfl⟩:=h
     obtain⟨⟨i,hi,hsz⟩,_⟩:=Le c4
     obtain⟨hn,_,hd⟩:=G.ownRows hx hr
     obtain⟨I',G',E',hb'⟩:=G.freeze hx
     have hdat:=hd I' E'.isub hb'
     have hlen:(rows.take n).length=n:=by rw[List.length_take];omega
     have hu: ∃A cap,u= .slice A (rows.take n).length cap/\n<=cap:=by
      have:=hdat
      simp only[RepD] at this
      obtain⟨A,cap,e1,e2,_⟩:=this
      exact⟨A,cap,e1,Zo⟩
     obtain⟨A,cap,rfl,hcap⟩:=hu
     rw[hlen] at hdat⊢
     have hb:=L9 (P:=P) (len:=n) (cap:=cap) w rl rh rm ‹bound 0 lo=_› ‹bound n _=_› ‹bound 0 (some mm)=_› c1 (Nat.le_refl _) Zo c3 rfl
     refine⟨I',_,D6 w (A8 ‹slel P t=_›) hi hb,G',E',?_⟩
     simp only[Rep]
     rw[<-hsz]
     have hcut:=RepD.cut (rows:=rows.take n) (f':=true) (c':=hh) (l:=l) (h:=hh) (cap:=cap) (A:=A) (by rw[hlen];exact hdat) c1 (by rw[hlen];exact c2) (Nat.le_refl _) Zo (fun _=>rfl)
     rwa [List.take_take,Nat.min_eq_left c2] at hcut
    ·simp[Prog.run] at h
   ·split at h<;>simp[Prog.run] at h
 |ptr x g off=>
  simp only[sliceP] at h
  split at h
  case h_2=>simp[Prog.run] at h
  rename_i n e l _ _
  split at h
  case h_2=>simp[Prog.run] at h
  rename_i hh _
  simp only[Prog.run] at h
  cases hx:hp x with
  |no g'=>rw[hx] at h;simp[Prog.run,AObj.head] at h
  |map _ _ _ _ _=>rw[hx] at h;simp[Prog.run,AObj.head] at h
  |arr g' sz e' rows f=>rw[hx] at h;simp[Prog.run,AObj.head] at h
  |box g' cells f=>
   rw[hx] at h
   simp only[AObj.head] at h
   split at h
   case isFalse=>simp[Prog.run] at h
   rename_i hc
   obtain⟨rfl,hmax,hl,c1,c2,hok⟩:=hc
   simp only[Prog.run,Option.some.injEq,Prod.mk.injEq] at h
   obtain⟨rfl,rfl⟩:=h
   have h3:=C7 rm
   subst h3
   obtain⟨⟨i,hi,hsz⟩,_⟩:=Le hok
   simp only[Rep] at hr
   obtain⟨hd,hg,hr⟩:=hr
   obtain⟨b',c',hm,rfl⟩:=hr cells f hx
   have hb:=Cq (P:=P) w false rl rh ‹bound 0 lo=_› ‹bound n _=_› c1 c2 (Nat.le_refl _)
   refine⟨I,.slice (some (if n=l then⟨b',off,none⟩ else(⟨b',off,none⟩:Addr).add (l*i.size))) (hh - l) (n - l),?_,G,.refl _ _ _ _ _,?_⟩
   ·simp[Instr.sliceAt,run_underlying (Wa ‹Ay P t=_›),Instr.sureAddr,hb,sizeOf,typeInfo,hi]
   ·simp only[Rep]
    have hroom:off+n*P.cellsOf e<=c':=by
     have ho:=G.obj x
     rw[hx] at ho
     obtain⟨b2,c2',us2,T2,mk2,o1,_,o3,o4,_,_⟩:=ho
     rw[o1] at hm
     cases hm
     have q:=((Ah _ _).1 o4).1
     have q2:=o3.2
     have q3:cells.length<=us2.size:=Nat.le_trans (Nat.le_of_eq q) (by rw[List.length_take,Array.length_toList];exact Nat.min_le_right ..)
     rw[<-q2]
     omega
    have hroom2:(if n=l then off else off+l*P.cellsOf e)+(n - l)*P.cellsOf e<=c':=by
     have hln:l<=n:=Zo
     obtain⟨d,rfl⟩:=Nat.exists_eq_add_of_le hln
     rw[Nat.add_mul] at hroom
     rw[Nat.add_sub_cancel_left]
     split
     ·have:d=0:=Zo
      subst this
      omega
     ·omega
    refine⟨hd,hg,fun cells' fz' hx'=>⟨b',c',n - l,hm,Zo,⟨Zo,hroom2⟩,?_⟩⟩
    rw[hsz]
    by_cases hnl:n=l
    ·simp[hnl]
    ·simp[hnl,Bb]
 |dp cells off=>
  simp only[sliceP] at h
  split at h
  ·rename_i n e _
   split at h
   case isFalse=>simp[Prog.run] at h
   rename_i hc
   obtain⟨hl,hok,hmax⟩:=hc
   simp only[Prog.run,Option.some.injEq,Prod.mk.injEq] at h
   obtain⟨rfl,rfl⟩:=h
   have h1:=C7 rl
   have h2:=C7 rh
   have h3:=C7 rm
   subst h1 h2 h3
   obtain⟨⟨i,hi,hsz⟩,_⟩:=Le hok
   simp only[Rep,RepD] at hr
   obtain⟨b,o,us,rfl,hb,hcc,hl'⟩:=hr
   obtain⟨q1,q2,q3⟩:=Ez (P.cellsOf e) n (cells.drop off) hl
   refine⟨I,.slice (some (if n=0 then⟨b,o+off,none⟩ else(⟨b,o+off,none⟩:Addr).add (0*i.size))) n n,?_,G,.refl _ _ _ _ _,?_⟩
   ·simp[Instr.sliceAt,run_underlying (Wa ‹Ay P t=_›),Instr.sureAddr,Instr.sliceBounds,sizeOf,typeInfo,hi]
   ·simp only[Rep,RepD]
    refine⟨_,n,by rw[q3],by rw[q3];exact Nat.le_refl _,hmax,fun _=>q3.symm,.inr ⟨b,o+off,(us.drop off).take (n*P.cellsOf e),?_,hb,fun j v hv=>?_,?_⟩⟩
    ·simp[Addr.add]
    ·rw[List.getElem?_take] at hv
     split at hv
     ·rw[List.getElem?_drop] at hv
      have:=hcc _ v hv
      rwa [<-Nat.add_assoc] at this
     ·cases hv
    ·rw[Ak,q1]
     exact⟨q2,(((A1 _ _).1 hl').drop off).take _⟩
  ·simp[Prog.run] at h
 |any|eptr|agg|tup|vec|fn|bsl|mp|dmp=>simp[sliceP,Prog.run] at h
end
end
section
open Go
section
variable {P:Program}{I K:Nat->Prop}{m:Mp}{hp hp':Hp}{w:World}{k:Nat}
theorem zdat_ok {ct:TypeId}{v:Value}(h:v.oneCell'=true):RepD I w (zdat P ct v) v:=by
 unfold zdat
 split
 ·simp only[RepD]
  exact⟨none,0,rfl,Nat.le_refl _,by simp[maxLen],Zi,.inl trivial⟩
 ·simp only[RepD]
  exact⟨trivial,h⟩
theorem Kb {t:TypeId}{z:List AV}(h:zrow P t=some z)(hl:z.length=P.cellsOf t)(hz:zok P t=true): ∃i v,P.info? t=some i/\i.zero=some v/\v.cells.size=i.size/\0<i.size/\P.cellsOf t=i.size/\P.bytesOf t=i.bytes/\AllR (RepD I w) z v.cells.toList:=by
 obtain⟨i,v,h1,h2,h3,h4,h5,h6⟩:=Wm hz
 refine⟨i,v,h1,h2,h3,h4,h5,h6,?_⟩
 unfold zrow at h
 have hzs:zeros P t=some v.cells.toList:=by simp[zeros,h1,h2]
 rw[hzs] at h
 simp only at h
 split at h
 ·rename_i hall
  simp only[Option.some.injEq] at h
  subst h
  have hlen:(List.zipWith (zdat P) (tcs P t) v.cells.toList).length=v.cells.toList.length:=by rw[hl,h5,Array.length_toList,h3]
  refine⟨hlen,fun j a u ha hu=>?_⟩
  have hone:u.oneCell'=true:=List.all_eq_true.1 hall u (List.mem_of_getElem? hu)
  rw[List.getElem?_zipWith] at ha
  cases hc:(tcs P t)[j]? with
  |none=>rw[hc] at ha;cases ha
  |some c=>
   rw[hc,hu] at ha
   cases ha
   exact zdat_ok hone
 ·cases h
theorem T4 {α:Type}(r:List α): ∀(n j:Nat),(List.replicate n r).flatten[j]?=if j<n*r.length then r[j%r.length]? else none
 |0,j=>Zi
 |n+1,j=>by
  rw[List.replicate_succ,List.flatten_cons,List.getElem?_append]
  split
  ·rename_i hj
   have:j<(n+1)*r.length:=by rw[Nat.add_mul];omega
   rw[if_pos this,Nat.mod_eq_of_lt hj]
  ·rename_i hj
   rw[T4 r n (j - r.length)]
   by_cases hc:j - r.length<n*r.length
   ·rw[if_pos hc,if_pos (by rw[Nat.add_mul];omega)]
    congr 1
    exact(Nat.mod_eq_sub_mod Zo).symm
   ·rw[if_neg hc,if_neg (by rw[Nat.add_mul];omega)]
theorem Jd {z:List AV}{zc:Array Value}(h:AllR (RepD I w) z zc.toList)(hpos:0<zc.size)(l n:Nat)(hn:l*zc.size<=n):
  RepRows I w zc.size (List.replicate l z) ((madeCells zc n).toList.take ((List.replicate l z).length*zc.size)):=by
 rw[Ak]
 have hzl:z.length=zc.size:=by rw[h.1,Array.length_toList]
 refine⟨fun r hr=>by rw[(List.mem_replicate.1 hr).2];exact hzl,?_,fun j a u ha hu=>?_⟩
 ·have e1:(List.replicate l z).flatten.length=l*zc.size:=by simp[hzl]
  have e2:(madeCells zc n).toList.length=n:=by simp[size_madeCells]
  rw[e1,List.length_take,e2,List.length_replicate]
  omega
 ·rw[T4] at ha
  rw[hzl] at ha
  split at ha
  ·rename_i hj
   rw[List.getElem?_take] at hu
   split at hu
   ·have hjn:j<n:=Zo
    simp only[madeCells] at hu
    have hmod:j%zc.size<zc.size:=Nat.mod_lt _ hpos
    rw[Array.getElem?_toList,Array.getElem?_map,Array.getElem?_range] at hu
    simp only[hjn,if_true,Option.map_some,Option.some.injEq] at hu
    refine h.2 (j%zc.size) a u ha ?_
    rw[<-hu,Array.getElem?_toList,getElem!_pos zc (j%zc.size) hmod]
    exact Array.getElem?_eq_getElem hmod
   ·cases hu
  ·cases ha
theorem make_ok (G:Gam I K m hp w){y:Nm}(hy:y.d<=k){t:TypeId}{l c v:AV}{ul uc:Value}(hl:Rep k I m hp w l ul)(hc:Rep k I m hp w c uc)(h:(makeP P y t l c).run hp=some (v,hp')):
  ∃u' w' m',(Instr.makeSlice t ul uc).run P w= .ok u' w'/\Gam I K m' hp' w'/\Ext I K m hp w I m' hp' w'/\Rep k I m' hp' w' v u':=by
 unfold makeP at h
 split at h
 ·rename_i kl nl kc nc
  simp only[Rep] at hl hc
  subst hl hc
  split at h
  ·rename_i e he
   split at h
   ·rename_i z hz
    split at h
    case isFalse=>simp[Prog.run] at h
    rename_i hcond
    obtain⟨h0,h1,h2,h3,h4,h5⟩:=hcond
    obtain⟨i,zv,hi,hzz,hsz,hpos,hcs,hbs,hall⟩:=Kb (I:=I) (w:=w) hz h4 h5
    have hcn:(0:Int)<=nc:=Zo
    obtain⟨C,rfl⟩:=Int.eq_ofNat_of_zero_le hcn
    obtain⟨L,rfl⟩:=Int.eq_ofNat_of_zero_le h0
    have hb:(i.bytes:Int)*(C:Int)<=281474976710656:=by
     rw[hbs] at h3
     rw[Int.mul_comm]
     omega
    have hr:=run_make (P:=P) w t e i zv (A8 he) hi hzz kl kc L C Zo Zo hb Zo
    simp only[Int.toNat_natCast] at hr h
    have hLC:L<=C:=Zo
    rw[hcs] at h
    have hmk:=Jd (I:=I) (w:=w) hall (by rw[hsz];exact hpos) L (C*i.size) (by rw[hsz];exact Nat.mul_le_mul_right _ hLC)
    rw[hsz] at hmk
    have hmax:C<=maxLen:=by simp only[maxLen];omega
    obtain⟨m',G',E',R'⟩:=Li (us:=(madeCells zv.cells (C*i.size)).toList) (cap:=C) (mk:=(0,0)) (w1:=w.alloc (.cells (madeCells zv.cells (C*i.size)) e)) G hy (noMark0 _) (by simp[size_madeCells]) (by simpa using hLC) hmax hmk h (.inl rfl)
    refine⟨_,_,m',hr,G',E',?_⟩
    simpa using R'
   ·simp[Prog.run] at h
  ·simp[Prog.run] at h
 ·simp[Prog.run] at h
theorem Kqa (G:Gam I K m hp w){j:Nat}{t:TypeId}{l c v:AV}{ul uc:Value}(hl:Rep k I m hp w l ul)(hc:Rep k I m hp w c uc)(h:(makeBP P ⟨k,j,0⟩ t l c).run hp=some (v,hp')):
  ∃u' w' m',(Instr.makeSlice t ul uc).run P w= .ok u' w'/\Gam I K m' hp' w'/\Ext I K m hp w I m' hp' w'/\Rep k I m' hp' w' v u':=by
 unfold makeBP at h
 split at h
 ·rename_i kl nl kc nc
  simp only[Rep] at hl hc
  subst hl hc
  split at h
  ·rename_i e he
   split at h
   ·rename_i z hz
    split at h
    case isFalse=>simp[Prog.run] at h
    rename_i hcond
    obtain⟨h0,rfl,h2,h3,h4,h5⟩:=hcond
    obtain⟨i,zv,hi,hzz,hsz,hpos,hcs,hbs,hall⟩:=Kb (I:=I) (w:=w) hz h4 h5
    obtain⟨C,rfl⟩:=Int.eq_ofNat_of_zero_le h0
    have hb:(i.bytes:Int)*(C:Int)<=281474976710656:=by
     rw[hbs] at h3
     rw[Int.mul_comm]
     omega
    have hr:=run_make (P:=P) w t e i zv (A8 he) hi hzz kl kc C C Zo Zo hb Zo
    simp only[Int.toNat_natCast] at hr h
    have hmk:=Jd (I:=I) (w:=w) hall (by rw[hsz];exact hpos) C (C*i.size) (by rw[hsz];exact Nat.le_refl _)
    rw[hsz,Ak,List.length_replicate] at hmk
    have hfull:(madeCells zv.cells (C*i.size)).toList.take (C*i.size)=(madeCells zv.cells (C*i.size)).toList:=List.take_of_length_le (by simp[size_madeCells])
    rw[hfull] at hmk
    have hmax:C<=maxLen:=by simp only[maxLen];omega
    simp only[Prog.run,Option.some.injEq,Prod.mk.injEq] at h
    obtain⟨rfl,rfl⟩:=h
    obtain⟨G2,E2⟩:=G.alloc (x:=⟨k,j,0⟩) (o:= .box ((hp ⟨k,j,0⟩).gen+1) (List.replicate C z).flatten false) (.cells (madeCells zv.cells (C*i.size)) e) (C*i.size) (by simp[AObj.gen])
     (fun w' m' hb hm E=>⟨w.heap.size,C*i.size,_,e,(0,0),hm,hb,⟨noMark0 _,by simp[size_madeCells]⟩,by rw[Nq hmk.2];exact(Ah _ _).2 (hmk.2.imp fun a u h=>Rep.mono E _ a u (RepD.rep h)),fun h=>(by cases h),fun _=>G.fresh⟩) (.inl rfl)
    refine⟨_,_,_,hr,by simpa using G2,by simpa using E2,?_⟩
    simp only[Rep]
    exact⟨Nat.le_refl _,by rw[Ae];exact Nat.le_refl _,fun cells fz hx=>⟨w.heap.size,C*i.size,C,Ae _ _ _,Nat.le_refl _,⟨hmax,by rw[hcs];omega⟩,Zi⟩⟩
   ·simp[Prog.run] at h
  ·simp[Prog.run] at h
 ·simp[Prog.run] at h
/-! ### built -/
theorem Lta (vs:List Value)(off:Nat): ∀(n:Nat) (cells:Array Value),off+n+vs.length<=cells.size->
  ((vs.zipIdx n).foldl (fun cs (c,j)=>cs.setIfInBounds (off+j) c) cells).toList=cells.toList.take (off+n)++vs++cells.toList.drop (off+n+vs.length):=by
 induction vs with
 |nil=>intro n cells _;simp
 |cons v vs ih=>
  intro n cells h
  simp only[List.length_cons] at h
  rw[List.zipIdx_cons,List.foldl_cons,ih (n+1) _ (by simp;omega)]
  have e:=list_seg_step cells.toList (off+n) v vs (by simp;omega)
  simpa[Array.toList_setIfInBounds,Nat.add_assoc] using e
theorem Qm {place:Nat->Option (Nat×Nat)}{cells:Array Value}{i:Nat}{v:Value}{rest:List (Nat×Value)}{off size:Nat}(hp:place i=some (off,size))(hs:v.cells.size=size)(hl:off+v.cells.size<=cells.size):
  Instr.fill place cells ((i,v)::rest)=Instr.fill place (cells.toList.take off++v.cells.toList++cells.toList.drop (off+v.cells.size)).toArray rest:=by
 simp only[Instr.fill,hp]
 rw[if_neg (by simp;omega)]
 congr 1
 apply Array.ext'
 have:=Lta v.cells.toList off 0 cells (by simpa using hl)
 simp only[Nat.add_zero,Array.length_toList] at this
 rw[<-this,<-Array.foldl_toList]
 simp
def PartsR (k:Nat)(I:Nat->Prop)(m:Mp)(hp:Hp)(w:World):List (Nat×AV)->List (Nat×Value)->Prop
 |[],[]=>True
 |(i,a)::as,(j,u)::us=>i=j/\AllR (Rep k I m hp w) (cellsA a) u.cells.toList/\PartsR k I m hp w as us
 |_,_=>False
theorem So {place:Nat->Option (Nat×Nat)}: ∀{parts:List (Nat×AV)} {us:List (Nat×Value)} {cells out:List AV} {cs:Array Value},PartsR k I m hp w parts us->AllR (Rep k I m hp w) cells cs.toList->fillA place cells parts=some out->
  ∃cs',Instr.fill place cs us=some cs'/\AllR (Rep k I m hp w) out cs'.toList
 |[],[],cells,out,cs,_,hc,h=>by
  simp only[fillA,Option.some.injEq] at h
  subst h
  exact⟨cs,rfl,hc⟩
 |[],_::_,_,_,_,hp,_,_=>by simp[PartsR] at hp
 |(i,a)::as,[],_,_,_,hp,_,_=>by simp[PartsR] at hp
 |(i,a)::as,(j,u)::us,cells,out,cs,hpr,hc,h=>by
  obtain⟨rfl,h1,h2⟩:=hpr
  simp only[fillA] at h
  split at h
  ·cases h
  ·rename_i off size hpl
   split at h
   ·rename_i hcond
    obtain⟨hs,hl⟩:=hcond
    have hl1:=h1.1
    have hl2:=hc.1
    simp only[Array.length_toList] at hl1 hl2
    obtain⟨cs',h3,h4⟩:=So (cs:=(cs.toList.take off++u.cells.toList++cs.toList.drop (off+u.cells.size)).toArray) h2 (by
     have:=hc.splice h1 off hl
     simpa using this) h
    exact⟨cs',by rw[Qm hpl Zo Zo];exact h3,h4⟩
   ·cases h
theorem Mma {t:TypeId}{parts:List (Nat×AV)}{us:Array (Nat×Value)}{v:AV}(hr:PartsR k I m hp w parts us.toList)(h:(buildP P t parts).run hp=some (v,hp')):
  hp'=hp/\ ∃u',(Instr.build t us).run P w= .ok u' w/\Rep k I m hp w v u':=by
 unfold buildP at h
 split at h
 case isFalse=>simp[Prog.run] at h
 rename_i hok
 simp only[Ba,Bool.and_eq_true] at hok
 obtain⟨hz,hok⟩:=hok
 obtain⟨zl,hzl⟩:=Option.isSome_iff_exists.1 hz
 unfold zeros at hzl
 cases hi:P.info? t with
 |none=>simp[hi] at hzl
 |some it=>
  cases hzz:it.zero with
  |none=>simp[hi,hzz] at hzl
  |some z=>
   have hzl':zeros P t=some z.cells.toList:=by simp[zeros,hi,hzz]
   split at h
   case h_2=>simp[Prog.run] at h
   rename_i cs hf
   simp only[Prog.run,Option.some.injEq,Prod.mk.injEq] at h
   obtain⟨rfl,rfl⟩:=h
   refine⟨rfl,?_⟩
   rw[hzl'] at hf
   simp only[Option.getD_some] at hf
   have hz0:AllR (Rep k I m hp w) (z.cells.toList.map .sc) z.cells.toList:=by
    refine⟨Zi,fun j a u ha hu=>?_⟩
    rw[List.getElem?_map,hu] at ha
    cases ha
    simp only[Rep]
   obtain⟨cs',h1,h2⟩:=So hr hz0 hf
   have fin:P.built t us.toList=some cs'-> ∃u',(Instr.build t us).run P w= .ok u' w/\Rep k I m hp w (.agg cs) u':=fun hb=>
    ⟨.agg cs',run_build w t us cs' hb,by simp only[Rep];exact⟨cs'.toList,rfl,(Ah _ _).2 h2⟩⟩
   cases hu:P.underlying t with
   |none=>rw[hu] at hok;simp at hok
   |some d=>
    rw[hu] at hok
    cases d with
    |array n e=>
     simp only at hok
     obtain⟨ie,hie⟩:=Option.isSome_iff_exists.1 hok
     have ha:Ay P t=some (n,e):=by simp[Ay,hu]
     rw[ha] at h1
     refine fin ?_
     simp only[Program.built,hi,hu,hzz,hie]
     rw[<-h1]
     congr 1
     funext i
     simp[Program.cellsOf,hie]
    |struct fs=>
     simp only at hok
     have ha:Ay P t=none:=by simp[Ay,hu]
     rw[ha] at h1
     refine fin ?_
     have hm: ∀l:List Field,(l.all fun f=>(P.info? f.type).isSome)=true->l.mapM (fun f=>(P.info? f.type).map fun i=>(f.offset,i.size))=some (l.map fun f=>(f.offset,P.cellsOf f.type)):=by
      intro l hl
      induction l with
      |nil=>rfl
      |cons f l ih=>
       simp only[List.all_cons,Bool.and_eq_true] at hl
       obtain⟨ii,hii⟩:=Option.isSome_iff_exists.1 hl.1
       rw[List.mapM_cons,ih hl.2,hii]
       simp[Program.cellsOf,hii]
     simp only[Program.built,hi,hu,hzz,hm _ hok]
     rw[<-h1]
     congr 1
     funext i
     simp[flds,hu]
     cases fs[i]?<;>rfl
    |_=>simp at hok
/-! ### equal structs -/
def La (P:Program)(E:TypeId->Bool):Prop:=
 ∀t,E t=true-> ∀(w:World) (x y:Operand) (us vs:List Value) (b:Bool),fitsL P (tcs P t) (us.map .sc)=true->fitsL P (tcs P t) (vs.map .sc)=true->eqL (us.map .sc) (vs.map .sc)=some b->
  (do eqGuard .eql t x y (.agg ⟨us⟩) (.agg ⟨vs⟩);binOp .eql t (.agg ⟨us⟩) (.agg ⟨vs⟩):Sem Value).run P w= .ok (.bool b) w/\
  (do eqGuard .neq t x y (.agg ⟨us⟩) (.agg ⟨vs⟩);binOp .neq t (.agg ⟨us⟩) (.agg ⟨vs⟩):Sem Value).run P w= .ok (.bool (!b)) w
theorem eqV_sc {a b:AV}{r:Bool}(h:eqV a b=some r): ∃u v,a= .sc u/\b= .sc v:=by
 unfold eqV at h
 split at h
 ·exact⟨_,_,rfl,rfl⟩
 ·exact⟨_,_,rfl,rfl⟩
 ·exact⟨_,_,rfl,rfl⟩
 ·cases h
theorem Xx : ∀{xs ys:List AV} {us vs:List Value} {b:Bool},eqL xs ys=some b->AllR (Rep k I m hp w) xs us->AllR (Rep k I m hp w) ys vs->xs=us.map .sc/\ys=vs.map .sc
 |[],[],us,vs,b,_,h1,h2=>by
  have e1:us=[]:=List.eq_nil_of_length_eq_zero (by rw[<-h1.1];rfl)
  have e2:vs=[]:=List.eq_nil_of_length_eq_zero (by rw[<-h2.1];rfl)
  subst e1 e2
  exact⟨rfl,rfl⟩
 |[],_::_,us,vs,b,h,_,_=>by simp[eqL] at h
 |_::_,[],us,vs,b,h,_,_=>by simp[eqL] at h
 |x::xs,y::ys,us,vs,b,h,h1,h2=>by
  obtain⟨u,us',rfl,a1,a2⟩:=h1.cons_inv
  obtain⟨v,vs',rfl,b1,b2⟩:=h2.cons_inv
  simp only[eqL] at h
  split at h
  ·rename_i r s hv hl
   obtain⟨e1,e2⟩:=Xx hl a2 b2
   obtain⟨u',v',rfl,rfl⟩:=eqV_sc hv
   simp only[Rep] at a1 b1
   subst a1 b1
   exact⟨by rw[e1];rfl,by rw[e2];rfl⟩
  ·cases h
theorem Esa (w:World)(op:BinOp)(t:TypeId)(x y:Operand)(kd kd':IntKind)(n n':Int):(eqGuard op t x y (.int kd n) (.int kd' n')).run P w= .ok () w:=by
 cases op<;>simp[eqGuard]
theorem Sl (w:World)(op:BinOp)(t:TypeId)(x y:Operand)(s s':ByteArray):(eqGuard op t x y (.string s) (.string s')).run P w= .ok () w:=by
 cases op<;>simp[eqGuard]
theorem Xq (w:World)(op:BinOp)(t:TypeId)(x y:Operand)(p q:Bool):(eqGuard op t x y (.bool p) (.bool q)).run P w= .ok () w:=by
 cases op<;>simp[eqGuard]
theorem M0 (w:World)(d:Nat)(p:Option Nat){t kt et:TypeId}(hu:P.underlying t=some (.map kt et)):(Op.equalIn (d+1) t (.map p) (.map none)).run P w= .ok p.isNone w:=by
 cases p<;>simp[Op.equalIn,run_underlying hu]
theorem Kh (w:World)(d:Nat)(a:Addr)(n c:Nat){t et:TypeId}(hu:P.underlying t=some (.slice et)):(Op.equalIn (d+1) t (.slice (some a) n c) (.slice none 0 0)).run P w= .ok false w:=by
 simp[Op.equalIn,run_underlying hu]
def ELaw (P:Program)(E:Cfg):Prop:=La P E.eq/\ ∀l,E.yl l=false
theorem ELaw.dry {P:Program}{E:Cfg}(h:La P E.eq):ELaw P E.dry:=⟨h,fun _=>rfl⟩
theorem bin_ok {E:TypeId->Bool}(hE:La P E){op:BinOp}{t:TypeId}{x y:Operand}{a b v:AV}{u u':Value}(ha:Rep k I m hp w a u)(hb:Rep k I m hp w b u')(h:Cva P E op t a b=some v):
  ∃r,(do eqGuard op t x y u u';binOp op t u u':Sem Value).run P w= .ok r w/\Rep k I m hp w v r:=by
 unfold Cva at h
 split at h
 ·rename_i kd n kd' n'
  simp only[Rep] at ha hb
  subst ha hb
  have hg:=Esa (P:=P) w op t x y kd kd' n n'
  split at h
  ·split at h
   ·cases h
   ·rename_i hn
    simp only[Option.some.injEq] at h
    subst h
    refine⟨.int kd (kd.wrap (n*2^min n'.toNat kd.bits)),?_,by simp only[Rep]⟩
    simp[hg,binOp,Op.shift,hn]
  ·split at h
   ·cases h
   ·rename_i hn
    simp only[Option.some.injEq] at h
    subst h
    refine⟨.int kd (n.fdiv (2^min n'.toNat kd.bits)),?_,by simp only[Rep]⟩
    simp[hg,binOp,Op.shift,hn]
  ·rename_i h1 h2
   split at h
   ·rename_i hk
    subst hk
    cases hv:evInt op kd n n' with
    |none=>rw[hv] at h;cases h
    |some r=>
     rw[hv] at h
     simp only[Option.map_some,Option.some.injEq] at h
     subst h
     exact⟨r,by simp[Sem.run_bind,hg,Lza hv t ⟨h1,h2⟩],by simp only[Rep]⟩
   ·cases h
 ·rename_i s s'
  simp only[Rep] at ha hb
  subst ha hb
  have hg:=Sl (P:=P) w op t x y s s'
  cases hv:evStr op s s' with
  |none=>rw[hv] at h;cases h
  |some r=>
   rw[hv] at h
   simp only[Option.map_some,Option.some.injEq] at h
   subst h
   exact⟨r,by simp[Sem.run_bind,hg,Lxa hv t],by simp only[Rep]⟩
 ·rename_i p q
  simp only[Rep] at ha hb
  subst ha hb
  have hg:=Xq (P:=P) w op t x y p q
  split at h
  ·rename_i hbl
   have hu:P.underlying t=some .bool:=by
    unfold bolB at hbl
    split at hbl
    ·rename_i he;exact he
    ·cases hbl
   split at h<;>simp only[Option.some.injEq,reduceCtorEq] at h
   ·subst h
    refine⟨.bool (p==q),?_,by simp only[Rep]⟩
    simp only[Sem.run_bind,hg,Result.andThen_ok,binOp]
    simp[Op.equal,Op.maxDepth,run_equalIn_bool' (P:=P) w 9999 t p q hu]
   ·subst h
    refine⟨.bool (p !=q),?_,by simp only[Rep]⟩
    simp only[Sem.run_bind,hg,Result.andThen_ok,binOp]
    simp[Op.equal,Op.maxDepth,run_equalIn_bool' (P:=P) w 9999 t p q hu]
    cases p<;>cases q<;>rfl
  ·cases h
 ·rename_i p
  simp only[Rep] at ha hb
  subst ha hb
  have hg:(eqGuard op t x y (.map p) (.map none)).run P w= .ok () w:=by cases op<;>simp[eqGuard]
  split at h
  ·rename_i hbl
   obtain⟨kt,et,hu⟩: ∃kt et,P.underlying t=some (.map kt et):=by
    unfold mapB at hbl
    split at hbl
    ·rename_i he;exact⟨_,_,he⟩
    ·cases hbl
   have hq:(Op.equal t (.map p) (.map none)).run P w= .ok p.isNone w:=by
    exact M0 w 9999 p hu
   split at h<;>simp only[Option.some.injEq,reduceCtorEq] at h
   ·subst h
    refine⟨.bool p.isNone,?_,by simp only[Rep]⟩
    simp only[Sem.run_bind,hg,Result.andThen_ok,binOp]
    simp[hq]
   ·subst h
    refine⟨.bool p.isSome,?_,by simp only[Rep]⟩
    simp only[Sem.run_bind,hg,Result.andThen_ok,binOp]
    simp[hq]
  ·cases h
 ·rename_i f sz r0 rs0
  simp only[Rep,RepD] at ha hb
  subst hb
  obtain⟨A,cap,rfl,_,_,_,ha⟩:=ha
  obtain⟨b0,o0,us0,rfl,_⟩: ∃b o us,A=some ⟨b,o,none⟩/\True:=by
   rcases ha with ha|⟨b,o,us,h1,_⟩
   ·cases ha
   ·exact⟨b,o,us,h1,trivial⟩
  generalize (r0::rs0).length=nl at*
  have hg:(eqGuard op t x y (.slice (some ⟨b0,o0,none⟩) nl cap) (.slice none 0 0)).run P w= .ok () w:=by cases op<;>simp[eqGuard]
  split at h
  ·rename_i hbl
   obtain⟨et,hu⟩: ∃et,P.underlying t=some (.slice et):=by
    unfold slel at hbl
    split at hbl
    ·rename_i he;exact⟨_,he⟩
    ·cases hbl
   have hq:(Op.equal t (.slice (some ⟨b0,o0,none⟩) nl cap) (.slice none 0 0)).run P w= .ok false w:=by
    exact Kh w 9999 _ _ _ hu
   split at h<;>simp only[Option.some.injEq,reduceCtorEq] at h
   ·subst h
    refine⟨.bool false,?_,by simp only[Rep]⟩
    simp only[Sem.run_bind,hg,Result.andThen_ok,binOp]
    simp[hq]
   ·subst h
    refine⟨.bool true,?_,by simp only[Rep]⟩
    simp only[Sem.run_bind,hg,Result.andThen_ok,binOp]
    simp[hq]
  ·cases h
 ·rename_i xs ys
  simp only[Rep] at ha hb
  obtain⟨us,rfl,ha⟩:=ha
  obtain⟨vs,rfl,hb⟩:=hb
  split at h
  ·rename_i hEt
   obtain⟨hEt,hf1,hf2⟩:=hEt
   split at h
   ·rename_i r he
    simp only[Option.some.injEq] at h
    subst h
    obtain⟨e1,e2⟩:=Xx he ((Ah _ _).1 ha) ((Ah _ _).1 hb)
    rw[e1,e2] at he
    rw[e1] at hf1
    rw[e2] at hf2
    exact⟨_,(hE t hEt w x y us vs r hf1 hf2 he).1,by simp only[Rep]⟩
   ·rename_i r he
    simp only[Option.some.injEq] at h
    subst h
    obtain⟨e1,e2⟩:=Xx he ((Ah _ _).1 ha) ((Ah _ _).1 hb)
    rw[e1,e2] at he
    rw[e1] at hf1
    rw[e2] at hf2
    exact⟨_,(hE t hEt w x y us vs r hf1 hf2 he).2,by simp only[Rep]⟩
   ·cases h
  ·cases h
 ·cases h
theorem un_ok {op:UnOp}{a v:AV}{u:Value}(ha:Rep k I m hp w a u)(h:evUn op a=some v): ∃r,(Op.unary op u).run P w= .ok r w/\Rep k I m hp w v r:=by
 unfold evUn at h
 split at h
 ·simp only[Rep] at ha
  subst ha
  split at h<;>simp only[Option.some.injEq,reduceCtorEq] at h<;>subst h
  ·exact⟨_,rfl,by simp only[Rep]⟩
  ·exact⟨_,rfl,by simp only[Rep]⟩
 ·simp only[Rep] at ha
  subst ha
  split at h<;>simp only[Option.some.injEq,reduceCtorEq] at h
  subst h
  exact⟨_,rfl,by simp only[Rep]⟩
 ·cases h
/-! ### lists that are built -/
theorem PartsR.mono {I':Nat->Prop}{m':Mp}{w':World}(E:Ext I K m hp w I' m' hp' w'): ∀{as:List (Nat×AV)} {us:List (Nat×Value)},PartsR k I m hp w as us->PartsR k I' m' hp' w' as us
 |[],[],_=>trivial
 |[],_::_,h=>by simp[PartsR] at h
 |(_,_)::_,[],h=>by simp[PartsR] at h
 |(_,_)::_,(_,_)::_,⟨h1,h2,h3⟩=>⟨h1,h2.imp fun a u h=>Rep.mono E k a u h,h3.mono E⟩
theorem Gt {e:TypeId}{ie:TypeInfo}(hie:P.info? e=some ie): ∀{parts:List (Nat×AV)} {us:List (Nat×Value)} {I:Nat->Prop} {hp hp':Hp} {rows rows':List (List AV)} {cs:Array Value},Gam I K m hp w->PartsR k I m hp w parts us->
  Even ie.size rows->AllR (RepD I w) rows.flatten cs.toList->(rowsOfParts P e parts rows).run hp=some (rows',hp')->
  ∃I' cs',Gam I' K m hp' w/\Ext I K m hp w I' m hp' w/\Instr.fill (fun i=>some (i*ie.size,ie.size)) cs us=some cs'/\Even ie.size rows'/\AllR (RepD I' w) rows'.flatten cs'.toList/\rows'.length=rows.length
 |[],[],I,hp,hp',rows,rows',cs,G,_,he,ha,h=>by
  simp only[rowsOfParts,Prog.run,Option.some.injEq,Prod.mk.injEq] at h
  obtain⟨rfl,rfl⟩:=h
  exact⟨I,cs,G,.refl _ _ _ _ _,rfl,he,ha,rfl⟩
 |[],_::_,_,_,_,_,_,_,_,hp,_,_,_=>by simp[PartsR] at hp
 |(i,a)::as,[],_,_,_,_,_,_,_,hp,_,_,_=>by simp[PartsR] at hp
 |(i,a)::as,(j,u)::us,I,hp,hp',rows,rows',cs,G,hpr,he,ha,h=>by
  obtain⟨rfl,h1,h2⟩:=hpr
  have hcs:P.cellsOf e=ie.size:=by simp[Program.cellsOf,hie]
  simp only[rowsOfParts] at h
  split at h
  case isFalse=>simp[Prog.run] at h
  rename_i hc
  obtain⟨hl,hi⟩:=hc
  obtain⟨r,hp1,r1,h3⟩:=Aa h
  obtain⟨I1,G1,E1,d1⟩:=Ea G h1 r1
  have hlen:u.cells.size=ie.size:=by have:=h1.1;simp at this;omega
  have hrl:r.length=ie.size:=by have:=d1.1;simp at this;omega
  have hle:i*ie.size+ie.size<=rows.length*ie.size:=by
   have:=Nat.mul_le_mul_right ie.size (show i+1<=rows.length from hi)
   rw[Nat.add_mul,Nat.one_mul] at this;exact this
  have hcl:cs.size=rows.length*ie.size:=by have:=ha.1;rw[he.length] at this;simpa using this.symm
  have ha1:AllR (RepD I1 w) rows.flatten cs.toList:=ha.imp fun a u h=>RepD.mono E1.isub (fun _ _=>rfl) _ _ h
  have hset:AllR (RepD I1 w) (rows.set i r).flatten (cs.toList.take (i*ie.size)++u.cells.toList++cs.toList.drop (i*ie.size+u.cells.size)):=by
   rw[Mo he hi]
   have a5:=((ha1.take (i*ie.size)).append d1).append (ha1.drop (i*ie.size+ie.size))
   rwa [hlen]
  have hpr2:PartsR k I1 m hp1 w as us:=h2.mono E1
  obtain⟨I2,cs',G2,E2,f1,f2,f3,f4⟩:=Gt hie (cs:=(cs.toList.take (i*ie.size)++u.cells.toList++cs.toList.drop (i*ie.size+u.cells.size)).toArray) G1 hpr2 (he.set hrl) (by simpa using hset) h3
  refine⟨I2,cs',G2,E1.trans E2,?_,f2,f3,by rw[f4,List.length_set]⟩
  rw[Qm (off:=i*ie.size) (size:=ie.size) rfl hlen Zo]
  exact f1
theorem Px (G:Gam I K m hp w){y:Nm}(hy:y.d<=k){t:TypeId}{len:Nat}{parts:List (Nat×AV)}{us:Array (Nat×Value)}{v:AV}(hr:PartsR k I m hp w parts us.toList)(h:(buildSliceP P y t len parts).run hp=some (v,hp')):
  ∃u' w' I' m',(Instr.buildSlice t len us).run P w= .ok u' w'/\Gam I' K m' hp' w'/\Ext I K m hp w I' m' hp' w'/\Rep k I' m' hp' w' v u':=by
 unfold buildSliceP at h
 split at h
 ·rename_i e he
  split at h
  ·rename_i z hz
   split at h
   case isFalse=>simp[Prog.run] at h
   rename_i hc
   obtain⟨hzl,hzo,hsz,hmax⟩:=hc
   obtain⟨i,zv,hi,hzz,hzs,hpos,hcs,hbs,hall⟩:=Kb (I:=I) (w:=w) hz hzl hzo
   obtain⟨rows,hp1,r1,h2⟩:=Aa h
   clear h
   have hmk:=Jd (I:=I) (w:=w) hall (by rw[hzs];exact hpos) len (len*i.size) (by rw[hzs];exact Nat.le_refl _)
   rw[hzs,Ak,List.length_replicate] at hmk
   have hfull:(madeCells zv.cells (len*i.size)).toList.take (len*i.size)=(madeCells zv.cells (len*i.size)).toList:=List.take_of_length_le (by simp[size_madeCells])
   rw[hfull] at hmk
   obtain⟨I1,cs',G1,E1,f1,f2,f3,f4⟩:=Gt hi G hr hmk.1 hmk.2 r1
   rw[List.length_replicate] at f4
   rw[hcs] at h2 hsz
   have hcsz:cs'.size=len*i.size:=by have:=f3.1;rw[f2.length,f4] at this;simpa using this.symm
   obtain⟨m',G',E',R'⟩:=Li (us:=cs'.toList) (cap:=len) (mk:=(0,0)) (w1:=w.alloc (.cells cs' e)) G1 hy (noMark0 _) (by simpa using hcsz) Zo hmax
    (by rw[Ak,f4,List.take_of_length_le (by simp[hcsz])];exact⟨f2,f3⟩) h2 (.inl rfl)
   rw[f4] at R'
   refine⟨_,_,I1,m',?_,G',E1.trans E',R'⟩
   have hlim: ¬(16777216<len*i.size):=Zo
   have hfill:Instr.fill (fun j=>some (j*i.size,i.size)) (Array.map (fun x=>zv.cells[x%zv.cells.size]!) (Array.range (len*i.size))) us.toList=some cs':=f1
   by_cases h0:len*i.size=0
   ·have h00:Array.map (fun x=>zv.cells[x%zv.cells.size]!) (Array.range (len*i.size))= #[]:=by rw[h0];apply Array.ext';simp
    rw[h00] at hfill
    have h0':len=0\/i.size=0:=Nat.mul_eq_zero.1 h0
    simp[Instr.buildSlice,run_underlying (A8 he),sizeOf,typeInfo,hi,h0,newRow,Array.range_zero',hfill]
   ·simp[Instr.buildSlice,run_underlying (A8 he),sizeOf,typeInfo,zeroValue,hi,hzz,hlim,h0,newRow,hfill]
  ·simp[Prog.run] at h
 ·simp[Prog.run] at h
end
end
section
open Go
section
variable {P:Program}{I K:Nat->Prop}{m:Mp}{hp hp':Hp}{w:World}{k:Nat}
theorem Hj : ∀{rows:List (List AV)} {l:List UInt8} {news:List Value},bytesOfRows rows=some l->AllR (RepD I w) rows.flatten news-> ∃ns:List Int,news=ns.map (Value.int .u8)/\l=ns.map fun n=>UInt8.ofNat n.toNat
 |[],l,news,h,ha=>by
  simp only[bytesOfRows,Option.some.injEq] at h
  subst h
  have:news=[]:=List.eq_nil_of_length_eq_zero (by rw[<-ha.1];rfl)
  exact⟨[],this,rfl⟩
 |r::rs,l,news,h,ha=>by
  unfold bytesOfRows at h
  split at h
  ·rename_i heq;cases heq
  ·rename_i n rs' heq
   cases heq
   cases hr:bytesOfRows rs with
   |none=>rw[hr] at h;cases h
   |some l'=>
    rw[hr] at h
    simp only[Option.map_some,Option.some.injEq] at h
    obtain⟨v,vs,rfl,h1,h2⟩:=AllR.cons_inv (show AllR (RepD I w) (.sc (.int .u8 n)::rs.flatten) news by simpa using ha)
    obtain⟨ns,e1,e2⟩:=Hj hr h2
    simp only[RepD] at h1
    exact⟨n::ns,by rw[h1.1,e1];rfl,by rw[<-h,e2];rfl⟩
  ·cases h
theorem Xc {x:AV}{u:Value}{sz:Nat}{rows:List (List AV)}(hx0: ∀s,x≠ .sc (.string s))(hr:Rep k I m hp w x u)(h:(rowsP x).run hp=some ((sz,rows),hp')):
  ∃A cap,u= .slice A rows.length cap/\(A=none->rows=[]):=by
 cases x with
 |sl f sz' rows'=>
  simp only[rowsP,Prog.run,Option.some.injEq,Prod.mk.injEq] at h
  obtain⟨⟨rfl,rfl⟩,rfl⟩:=h
  simp only[Rep,RepD] at hr
  obtain⟨A,cap,rfl,h1,h2,_,h4⟩:=hr
  refine⟨A,cap,rfl,fun hA=>?_⟩
  rcases h4 with h4|⟨b,o,us,hb,_⟩
  ·exact h4
  ·rw[hb] at hA;cases hA
 |own y g n=>
  simp only[rowsP,Prog.run] at h
  cases hx:hp y with
  |no g'=>rw[hx] at h;simp[Prog.run] at h
  |map _ _ _ _ _=>rw[hx] at h;simp[Prog.run] at h
  |box g' c f=>rw[hx] at h;simp[Prog.run] at h
  |arr g' sz' e rows' f=>
   rw[hx] at h
   simp only at h
   split at h
   ·rename_i hc
    obtain⟨rfl,hn⟩:=hc
    simp only[Prog.run,Option.some.injEq,Prod.mk.injEq] at h
    obtain⟨⟨rfl,rfl⟩,rfl⟩:=h
    simp only[Rep] at hr
    obtain⟨_,_,hr⟩:=hr
    obtain⟨_,hr⟩:=hr sz' e rows' f hx
    have hl:(rows'.take n).length=n:=by rw[List.length_take];omega
    rcases hr with⟨h0,rfl,rfl⟩|⟨b,cap,hm,rfl⟩
    ·exact⟨none,0,Zi,fun _=>Zi⟩
    ·exact⟨_,cap,by rw[hl],fun hA=>(by cases hA)⟩
   ·simp[Prog.run] at h
 |sc v=>
  simp only[Rep] at hr
  subst hr
  unfold rowsP at h
  split at h
  all_goals first|(simp[Prog.run] at h;done)|skip
  ·rename_i heq;simp at heq
  ·rename_i heq;simp at heq
  ·rename_i heq
   simp only[AV.sc.injEq] at heq
   subst heq
   simp only[Prog.run,Option.some.injEq,Prod.mk.injEq] at h
   obtain⟨⟨rfl,rfl⟩,rfl⟩:=h
   exact⟨none,0,rfl,fun _=>rfl⟩
  ·rename_i s heq
   exact absurd heq (hx0 s)
  ·rename_i heq;simp at heq
 |bsl x g sz' off n=>
  simp only[rowsP,Prog.run] at h
  cases hx:hp x with
  |no g'=>rw[hx] at h;simp[Prog.run] at h
  |map _ _ _ _ _=>rw[hx] at h;simp[Prog.run] at h
  |arr g' sz e rows f=>rw[hx] at h;simp[Prog.run] at h
  |box g' cells f=>
   rw[hx] at h
   simp only at h
   split at h
   case isFalse=>simp[Prog.run] at h
   rename_i hc
   obtain⟨rfl,hl,hdat⟩:=hc
   simp only[Prog.run,Option.some.injEq,Prod.mk.injEq] at h
   obtain⟨⟨rfl,rfl⟩,rfl⟩:=h
   simp only[Rep] at hr
   obtain⟨_,_,hr⟩:=hr
   obtain⟨b,c',cap,hm,h4,h5,rfl⟩:=hr cells f hx
   obtain⟨_,_,q3⟩:=Ez sz' n (cells.drop off) (by rw[List.length_drop];omega)
   exact⟨_,cap,by rw[q3],Zi⟩
 |any|dp|ptr|eptr|agg|tup|vec|fn|mp|dmp=>simp[rowsP,Prog.run] at h
theorem Nb {t:TypeId}{kd:IntKind}(h:intK P t=some kd):P.underlying t=some (.int kd):=by
 unfold intK at h
 split at h
 ·rename_i k' he;cases h;exact he
 ·cases h
theorem Vv (s:ByteArray)(cap:Nat)(h:s.size<=cap):
  RepRows I w 1 (s.data.toList.map fun b=>[.sc (.int .u8 b.toNat)]) ((bytesRow s cap).toList.take ((s.data.toList.map fun b=>[AV.sc (.int .u8 b.toNat)]).length*1))/\(bytesRow s cap).toList.length=cap*1:=by
 have hf: ∀l:List UInt8,(l.map fun b=>[AV.sc (.int .u8 b.toNat)]).flatten=l.map fun b=>AV.sc (.int .u8 b.toNat):=by
  intro l;induction l with
  |nil=>rfl
  |cons a l ih=>simp[ih]
 have ha:AllR (RepD I w) (s.data.toList.map fun b=>AV.sc (.int .u8 b.toNat)) (s.data.toList.map fun b=>Value.int .u8 b.toNat):=by
  refine⟨Zi,fun j a u h1 h2=>?_⟩
  rw[List.getElem?_map] at h1 h2
  cases hc:s.data.toList[j]? with
  |none=>rw[hc] at h1;cases h1
  |some b=>rw[hc] at h1 h2;cases h1;cases h2;simp only[RepD];exact⟨trivial,rfl⟩
 have hsz:s.data.size=s.size:=rfl
 have hrow:(bytesRow s cap).toList=(s.data.toList.map fun b=>Value.int .u8 b.toNat)++List.replicate (cap - s.size) (.int .u8 0):=by simp[bytesRow]
 rw[hrow]
 constructor
 ·rw[Ak,hf]
  refine⟨fun r hr=>?_,?_⟩
  ·obtain⟨b,_,rfl⟩:=List.mem_map.1 hr;rfl
  ·rw[List.take_left' Zi];exact ha
 ·simp[hsz];omega
theorem X6 (G:Gam I K m hp w){y:Nm}(hy:y.d<=k){src dst:TypeId}{x v:AV}{u:Value}(hr:Rep k I m hp w x u)(h:(convertP P y src dst x).run hp=some (v,hp')):
  ∃u' w' m',(convert src dst u).run P w= .ok u' w'/\Gam I K m' hp' w'/\Ext I K m hp w I m' hp' w'/\Rep k I m' hp' w' v u':=by
 unfold convertP at h
 split at h
 ·rename_i kd n
  simp only[Rep] at hr
  subst hr
  split at h
  ·rename_i kd' hk
   split at h
   ·rename_i hs
    simp only[Prog.run,Option.some.injEq,Prod.mk.injEq] at h
    obtain⟨rfl,rfl⟩:=h
    obtain⟨d,hd⟩:=Option.isSome_iff_exists.1 hs
    refine⟨.int kd' (kd'.wrap n),w,m,?_,G,.refl _ _ _ _ _,by simp only[Rep]⟩
    simp[convert,run_underlying hd,run_underlying (Nb hk),Conv.intToInt]
   ·simp[Prog.run] at h
  ·simp[Prog.run] at h
 ·rename_i s
  simp only[Rep] at hr
  subst hr
  split at h
  case isFalse=>simp[Prog.run] at h
  rename_i hs
  split at h
  ·rename_i hd
   simp only[Prog.run,Option.some.injEq,Prod.mk.injEq] at h
   obtain⟨rfl,rfl⟩:=h
   refine⟨.string s,w,m,?_,G,.refl _ _ _ _ _,by simp only[Rep]⟩
   simp[convert,run_underlying (Fo hs),run_underlying (Fo hd)]
  ·split at h
   ·rename_i e he
    split at h
    ·rename_i hc
     obtain⟨h1,h2,h3⟩:=hc
     have hrun:=run_bytes_of_string (P:=P) w src dst e s (Fo hs) (A8 he) (Nb h1)
     have hge:=grownCap_ge w s.size 0 e
     have hle:=grownCap_le_maxLen w s.size 0 e h3
     obtain⟨a1,a2⟩:=Vv (I:=I) (w:=w) s (grownCap w s.size 0 e) hge
     have hlen:(s.data.toList.map fun b=>[AV.sc (.int .u8 b.toNat)]).length=s.size:=Zi
     obtain⟨m',G',E',R'⟩:=Li (w:=w) (us:=(bytesRow s (grownCap w s.size 0 e)).toList) (cap:=grownCap w s.size 0 e) (mk:=((bytesRow s (grownCap w s.size 0 e)).size,(bytesRow s (grownCap w s.size 0 e)).size+1))
      G hy (fun j hj=>by simp only[Array.toArray_toList] at hj;simp;omega) a2 (by rw[hlen];exact hge) hle a1 h (.inr rfl)
     rw[hlen] at R'
     exact⟨_,_,m',hrun,G',E',R'⟩
    ·simp[Prog.run] at h
   ·simp[Prog.run] at h
 ·rename_i hn1 hn2
  split at h
  case h_2=>simp[Prog.run] at h
  rename_i e he
  split at h
  case isFalse=>simp[Prog.run] at h
  rename_i hc
  obtain⟨hd,h8⟩:=hc
  obtain⟨⟨sz,rows⟩,hp1,r1,h2⟩:=Aa h
  clear h
  obtain⟨rfl,hsrc⟩:=R8 (P:=P) G hr r1
  obtain⟨A,cap,rfl,hA⟩:=Xc hn2 hr r1
  simp only at h2
  split at h2
  case h_2=>simp[Prog.run] at h2
  rename_i l hl
  split at h2
  case isFalse=>simp[Prog.run] at h2
  rename_i hsz
  simp only[Prog.run,Option.some.injEq,Prod.mk.injEq] at h2
  obtain⟨rfl,rfl⟩:=h2
  obtain⟨news,hS,hN,hE⟩:=hsrc 1 hsz
  obtain⟨ns,rfl,rfl⟩:=Hj hl hN
  refine⟨.string ⟨⟨ns.map fun n=>UInt8.ofNat n.toNat⟩⟩,w,m,?_,G,.refl _ _ _ _ _,by simp only[Rep]⟩
  rw[run_convert_bytes_string w src dst e A rows.length cap (A8 he) (Nb h8) (Fo hd)]
  have hfold: ∀(ns:List Int) (r:ByteArray),ns.foldl (fun r n=>r.push (UInt8.ofNat n.toNat)) r=⟨r.data++(ns.map fun n=>UInt8.ofNat n.toNat).toArray⟩:=by
   intro ns;induction ns with
   |nil=>intro r;simp
   |cons n ns ih=>intro r;rw[List.foldl_cons,ih];simp[ByteArray.push]
  have he0:ByteArray.empty.data= #[]:=rfl
  cases A with
  |none=>
   have hr0:rows=[]:=hA rfl
   subst hr0
   have:ns=[]:=by have:=hS.length;simpa using this
   subst this
   simp[Conv.bytesToString]
   rfl
  |some a=>
   have hf:=hS.first w rfl
   have hl2:(loadCells a rows.length).run P w= .ok (ns.map (Value.int .u8)).toArray w:=by simpa[Builtin.firstCells] using hf
   rw[run_bytesToString w a rows.length cap ns hl2,hfold,he0]
   simp
end
end
section
open Go
def RepA (I:Nat->Prop)(w:World)(a:AV)(u:Value):Prop:=match a with
 | .agg cs=> ∃us,u= .agg ⟨us⟩/\RepDL I w cs us
 |a=>RepD I w a u
def RepRes (P:Program)(I:Nat->Prop)(w:World)(t:TypeId)(a:AV)(u:Value)(bs:List Nat):Prop:=
 if isAggB P t then∃cs us,a= .agg cs/\u= .agg ⟨us⟩/\RepHL P I (fun _=>False) w (tcs P t) cs us bs else RepH P I (fun _=>False) w t a u bs
def RepResL (P:Program)(I:Nat->Prop)(w:World):List TypeId->List AV->List Value->List Nat->Prop
 |[],[],us,bs=>us=[]/\bs=[]
 |t::ts,a::as,us,bs=> ∃u us' b1 b2,us=u::us'/\bs=b1++b2/\RepRes P I w t a u b1/\RepResL P I w ts as us' b2
 |_,_,_,_=>False
def retV :List Value->Value
 |[v]=>v
 |vs=> .tuple ⟨vs⟩
section
variable {P:Program}{I K:Nat->Prop}{m:Mp}{hp hp':Hp}{w:World}{k:Nat}
theorem Mfa {v:AV}{x:Unit}(h:(chk v).run hp=some (x,hp')):hp'=hp:=by
 unfold chk at h
 split at h
 all_goals first|(simp[Prog.run] at h;done)|skip
 ·simp only[Prog.run] at h
  split at h
  ·split at h
   ·simp only[Prog.run,Option.some.injEq,Prod.mk.injEq] at h;exact h.2.symm
   ·simp[Prog.run] at h
  ·simp[Prog.run] at h
 ·simp only[Prog.run] at h
  split at h
  ·split at h
   ·simp only[Prog.run,Option.some.injEq,Prod.mk.injEq] at h;exact h.2.symm
   ·simp[Prog.run] at h
  ·simp[Prog.run] at h
 ·simp only[Prog.run] at h
  split at h
  ·split at h
   ·simp only[Prog.run,Option.some.injEq,Prod.mk.injEq] at h;exact h.2.symm
   ·simp[Prog.run] at h
  ·simp[Prog.run] at h
 ·simp only[Prog.run] at h
  split at h
  ·split at h
   ·simp only[Prog.run,Option.some.injEq,Prod.mk.injEq] at h;exact h.2.symm
   ·simp[Prog.run] at h
  ·simp[Prog.run] at h
 ·simp only[Prog.run,Option.some.injEq,Prod.mk.injEq] at h;exact h.2.symm
theorem Dj {v:AV}{u:Value}{x:Unit}(hn:(chk v).run hp=some (x,hp'))(hr:Rep k I m hp w v u):hp'=hp/\AllR (Rep k I m hp w) (cellsA v) u.cells.toList/\ ∃us,u=(if aggA v then .agg ⟨us⟩ else u)/\(aggA v=false->u.cells.toList=[u]):=by
 refine⟨Mfa hn,?_⟩
 have h0:=hr
 cases v with
 |any=>simp[chk,Prog.run] at hn
 |bsl x g sz off n=>
  simp only[chk,Prog.run] at hn
  cases hx:hp x with
  |no g'=>rw[hx] at hn;simp[Prog.run,AObj.head] at hn
  |map _ _ _ _ _=>rw[hx] at hn;simp[Prog.run,AObj.head] at hn
  |arr g' sz e rows f=>rw[hx] at hn;simp[Prog.run,AObj.head] at hn
  |box g' c f=>
   rw[hx] at hn
   simp only[AObj.head] at hn
   split at hn
   ·rename_i hg
    subst hg
    simp only[Rep] at hr
    obtain⟨_,_,hr⟩:=hr
    obtain⟨b,c',cap,_,_,_,rfl⟩:=hr c f hx
    exact⟨.cons h0 .nil,[],rfl,fun _=>rfl⟩
   ·simp[Prog.run] at hn
 |ptr x g o=>
  simp only[chk,Prog.run] at hn
  cases hx:hp x with
  |no g'=>rw[hx] at hn;simp[Prog.run,AObj.head] at hn
  |map _ _ _ _ _=>rw[hx] at hn;simp[Prog.run,AObj.head] at hn
  |arr g' sz e rows f=>rw[hx] at hn;simp[Prog.run,AObj.head] at hn
  |box g' c f=>
   rw[hx] at hn
   simp only[AObj.head] at hn
   split at hn
   ·rename_i hg
    subst hg
    simp only[Rep] at hr
    obtain⟨_,_,hr⟩:=hr
    obtain⟨b,c',_,rfl⟩:=hr c f hx
    exact⟨.cons h0 .nil,[],rfl,fun _=>rfl⟩
   ·simp[Prog.run] at hn
 |eptr x g i o=>simp[chk,Prog.run] at hn
 |dmp ag ks rows=>
  simp only[Rep,RepD] at hr
  obtain⟨b,es,clock,rfl,_⟩:=hr
  exact⟨.cons h0 .nil,[],rfl,fun _=>rfl⟩
 |mp x g=>
  simp only[chk,Prog.run] at hn
  cases hx:hp x with
  |no g'=>rw[hx] at hn;simp[Prog.run,AObj.head] at hn
  |arr g' sz e rows f=>rw[hx] at hn;simp[Prog.run,AObj.head] at hn
  |box g' c f=>rw[hx] at hn;simp[Prog.run,AObj.head] at hn
  |map g' ag ks rows f=>
   rw[hx] at hn
   simp only[AObj.head] at hn
   split at hn
   ·rename_i hg
    subst hg
    simp only[Rep] at hr
    obtain⟨_,_,hr⟩:=hr
    obtain⟨b,c',_,rfl⟩:=hr ag ks rows f hx
    exact⟨.cons h0 .nil,[],rfl,fun _=>rfl⟩
   ·simp[Prog.run] at hn
 |sc x=>
  simp only[Rep] at hr
  subst hr
  cases u with
  |agg us=>
   refine⟨⟨by simp[cellsA,Value.cells],fun j a v h1 h2=>?_⟩,us.toList,by simp[aggA],fun h=>by simp[aggA] at h⟩
   simp only[cellsA,List.getElem?_map] at h1
   simp only[Value.cells] at h2
   rw[h2] at h1
   cases h1
   simp only[Rep]
  |_=>exact⟨.cons (by simp only[Rep]) .nil,[],rfl,fun _=>rfl⟩
 |sl f sz rows=>
  simp only[Rep,RepD] at hr
  obtain⟨A,cap,rfl,_⟩:=hr
  exact⟨.cons h0 .nil,[],rfl,fun _=>rfl⟩
 |dp c o=>
  simp only[Rep,RepD] at hr
  obtain⟨b,o,us,rfl,_⟩:=hr
  exact⟨.cons h0 .nil,[],rfl,fun _=>rfl⟩
 |agg cs=>
  simp only[Rep] at hr
  obtain⟨us,rfl,hr⟩:=hr
  exact⟨(Ah _ _).1 hr,us,rfl,fun h=>by simp[aggA] at h⟩
 |tup cs=>
  simp only[Rep] at hr
  obtain⟨us,rfl,hr⟩:=hr
  exact⟨.cons h0 .nil,[],rfl,fun _=>rfl⟩
 |fn f cs=>
  simp only[Rep] at hr
  obtain⟨us,rfl,hr⟩:=hr
  exact⟨.cons h0 .nil,[],rfl,fun _=>rfl⟩
 |vec sz rows=>simp[Rep] at hr
 |own x g n=>
  simp only[chk,Prog.run] at hn
  cases hx:hp x with
  |no g'=>rw[hx] at hn;simp[Prog.run,AObj.head] at hn
  |map _ _ _ _ _=>rw[hx] at hn;simp[Prog.run,AObj.head] at hn
  |box g' c f=>rw[hx] at hn;simp[Prog.run,AObj.head] at hn
  |arr g' sz e rows f=>
   rw[hx] at hn
   simp only[AObj.head] at hn
   split at hn
   ·rename_i hg
    subst hg
    simp only[Rep] at hr
    obtain⟨_,_,hr⟩:=hr
    obtain⟨_,hr⟩:=hr sz e rows f hx
    rcases hr with⟨_,rfl,_⟩|⟨b,cap,_,rfl⟩
    ·exact⟨.cons h0 .nil,[],rfl,fun _=>rfl⟩
    ·exact⟨.cons h0 .nil,[],rfl,fun _=>rfl⟩
   ·simp[Prog.run] at hn
/-! ### arguments -/
theorem arg_of {J:Nat->Prop}{t:TypeId}{v:AV}{u:Value}{us:List Value}{cs:List AV}{hp1:Hp}{a:AV}(ha:aggA v=isAggB P t)(hu:u=(if aggA v then .agg ⟨us⟩ else u))(hu2:aggA v=false->u.cells.toList=[u])
  (hd:AllR (RepD J w) cs u.cells.toList) (h:(oneV (isAggB P t) cs).run hp1=some (a,hp')):hp'=hp1/\RepA J w a u:=by
 rw[<-ha] at h
 unfold oneV at h
 cases hb:aggA v with
 |true=>
  rw[hb] at h hu
  simp only[if_true,Prog.run,Option.some.injEq,Prod.mk.injEq] at h hu
  obtain⟨rfl,rfl⟩:=h
  refine⟨rfl,us,hu,?_⟩
  rw[A1]
  rw[hu] at hd
  exact hd
 |false=>
  rw[hb] at h
  rw[hu2 hb] at hd
  simp only[Bool.false_eq_true,if_false] at h
  split at h
  ·simp only[Prog.run,Option.some.injEq,Prod.mk.injEq] at h
   obtain⟨rfl,rfl⟩:=h
   obtain⟨v1,vs,e1,h1,_⟩:=hd.cons_inv
   cases e1
   refine⟨rfl,?_⟩
   unfold RepA
   split
   ·simp[RepD] at h1
   ·exact h1
  ·simp[Prog.run] at h
theorem Cca {J:Nat->Prop}{a:AV}{u:Value}(h:RepD J w a u):RepA J w a u:=by
 unfold RepA
 split
 ·simp[RepD] at h
 ·exact h
theorem K5 : ∀{ts:List TypeId} {as as':List AV} {us:List Value} {I:Nat->Prop} {hp hp':Hp},Gam I K m hp w->AllR (Rep k I m hp w) as us->(argsP P true ts as).run hp=some (as',hp')->
  ∃I',Gam I' K m hp' w/\Ext I K m hp w I' m hp' w/\AllR (RepA I' w) as' us
 |[],[],as',us,I,hp,hp',G,hr,h=>by
  simp only[argsP,Prog.run,Option.some.injEq,Prod.mk.injEq] at h
  obtain⟨rfl,rfl⟩:=h
  have:us=[]:=List.eq_nil_of_length_eq_zero (by rw[<-hr.1];rfl)
  subst this
  exact⟨I,G,.refl _ _ _ _ _,.nil⟩
 |[],v::vs,as',us,I,hp,hp',G,hr,h=>by
  obtain⟨u,us',rfl,h1,h2⟩:=hr.cons_inv
  simp only[argsP] at h
  obtain⟨a,hp1,r1,h3⟩:=Aa h
  clear h
  obtain⟨r,hp2,r2,h4⟩:=Aa h3
  clear h3
  simp only[Prog.run,Option.some.injEq,Prod.mk.injEq] at h4
  obtain⟨rfl,rfl⟩:=h4
  obtain⟨I1,G1,E1,d1,_⟩:=O0 G h1 r1
  obtain⟨I2,G2,E2,d2⟩:=K5 G1 (h2.imp fun a u h=>Rep.mono E1 k a u h) r2
  exact⟨I2,G2,E1.trans E2,.cons (Cca (RepD.mono E2.isub (fun _ _=>rfl) _ _ d1)) d2⟩
 |_::_,[],_,_,_,_,_,_,_,h=>by simp[argsP,Prog.run] at h
 |t::ts,v::vs,as',us,I,hp,hp',G,hr,h=>by
  obtain⟨u,us',rfl,h1,h2⟩:=hr.cons_inv
  simp only[argsP] at h
  split at h
  case isFalse=>simp[Prog.run] at h
  rename_i hc
  obtain⟨hl,ha⟩:=hc
  obtain⟨x,hp0,r0,h3⟩:=Aa h
  clear h
  obtain⟨rfl,hcl,us1,hu1,hu2⟩:=Dj r0 h1
  obtain⟨cs,hp1,r1,h4⟩:=Aa h3
  clear h3
  obtain⟨r,hp2,r2,h5⟩:=Aa h4
  clear h4
  obtain⟨I1,G1,E1,d1⟩:=Ea G hcl r1
  obtain⟨I2,G2,E2,d2⟩:=K5 G1 (h2.imp fun a u h=>Rep.mono E1 k a u h) r2
  obtain⟨a,hp3,r3,h6⟩:=Aa h5
  clear h5
  simp only[Prog.run,Option.some.injEq,Prod.mk.injEq] at h6
  obtain⟨rfl,ha2⟩:=arg_of ha hu1 hu2 (d1.imp fun a u h=>RepD.mono E2.isub (fun _ _=>rfl) _ _ h) r3
  obtain⟨rfl,rfl⟩:=h6
  exact⟨I2,G2,E1.trans E2,.cons ha2 d2⟩
theorem Pg : ∀{ts:List TypeId} {as as':List AV} {us:List Value} {hp':Hp},Gam I K m hp w->AllR (Rep k I m hp w) as us->(argsP P false ts as).run hp=some (as',hp')->
  hp'=hp/\AllR (RepA (fun b=>I b\/Aw m hp b) w) as' us
 |[],[],as',us,hp',G,hr,h=>by
  simp only[argsP,Prog.run,Option.some.injEq,Prod.mk.injEq] at h
  obtain⟨rfl,rfl⟩:=h
  have:us=[]:=List.eq_nil_of_length_eq_zero (by rw[<-hr.1];rfl)
  subst this
  exact⟨rfl,.nil⟩
 |[],v::vs,as',us,hp',G,hr,h=>by
  obtain⟨u,us',rfl,h1,h2⟩:=hr.cons_inv
  simp only[argsP] at h
  obtain⟨a,hp1,r1,h3⟩:=Aa h
  clear h
  obtain⟨r,hp2,r2,h4⟩:=Aa h3
  clear h3
  simp only[Prog.run,Option.some.injEq,Prod.mk.injEq] at h4
  obtain⟨rfl,rfl⟩:=h4
  obtain⟨e1,d1⟩:=V7 G h1 r1
  rw[e1] at r2
  obtain⟨e2,d2⟩:=Pg G h2 r2
  exact⟨e2,.cons (Cca d1) d2⟩
 |_::_,[],_,_,_,_,_,h=>by simp[argsP,Prog.run] at h
 |t::ts,v::vs,as',us,hp',G,hr,h=>by
  obtain⟨u,us',rfl,h1,h2⟩:=hr.cons_inv
  simp only[argsP] at h
  split at h
  case isFalse=>simp[Prog.run] at h
  rename_i hc
  obtain⟨hl,ha⟩:=hc
  obtain⟨x,hp0,r0,h3⟩:=Aa h
  clear h
  obtain⟨e0,hcl,us1,hu1,hu2⟩:=Dj r0 h1
  obtain⟨cs,hp1,r1,h4⟩:=Aa h3
  clear h3
  obtain⟨r,hp2,r2,h5⟩:=Aa h4
  clear h4
  rw[e0] at r1
  obtain⟨e1,d1⟩:=Np G hcl r1
  rw[e1] at r2
  obtain⟨e2,d2⟩:=Pg G h2 r2
  obtain⟨a,hp3,r3,h6⟩:=Aa h5
  clear h5
  simp only[Prog.run,Option.some.injEq,Prod.mk.injEq] at h6
  obtain⟨e3,ha2⟩:=arg_of ha hu1 hu2 d1 r3
  obtain⟨rfl,rfl⟩:=h6
  rw[e2] at e3
  refine⟨e3,?_⟩
  exact .cons ha2 d2
/-! ### what came of a call -/
theorem L4 (G:Gam I K m hp w){y:Nm}(hy:y.d<=k){ct:TypeId}{a v:AV}{u:Value}{bs:List Nat}(hr:RepH P I K w ct a u bs)(hb: ∀b∈bs,¬Aw m hp b)
  (h:(takeCell P ct y a).run hp=some (v,hp')):
  ∃m',Gam I K m' hp' w/\Ext I K m hp w I m' hp' w/\Rep k I m' hp' w v u/\(∀b,Aw m' hp' b->Aw m hp b\/b∈bs):=by
 have same: ∀(v:AV),RepD I w v u->hp'=hp-> ∃m',Gam I K m' hp' w/\Ext I K m hp w I m' hp' w/\Rep k I m' hp' w v u/\(∀b,Aw m' hp' b->Aw m hp b\/b∈bs):=
  fun v hd e=>by subst e;exact⟨m,G,.refl _ _ _ _ _,hd.rep,fun _ h=> .inl h⟩
 cases a with
 |vec sz rows=>
  simp only[takeCell] at h
  split at h
  ·rename_i e he
   simp only[Prog.run,Option.some.injEq,Prod.mk.injEq] at h
   obtain⟨rfl,rfl⟩:=h
   have hg:(hp y).gen<(AObj.arr ((hp y).gen+1) sz e rows false).gen:=by simp[AObj.gen]
   have live: ∀(p:Option (Nat×Nat)),(∀q,p=some q->q.1∈bs)-> ∀b,Aw (upd m y p) (upd hp y (.arr ((hp y).gen+1) sz e rows false)) b->Aw m hp b\/b∈bs:=by
    rintro p hp2 b ⟨x,q,hx,hq,rfl⟩
    by_cases hxy:x=y
    ·subst hxy;rw[Ae] at hq;exact .inr (hp2 q hq)
    ·rw[Al _ _ hxy] at hx hq;exact .inl ⟨x,q,hx,hq,rfl⟩
   rcases hr with⟨rfl,rfl,rfl⟩|⟨b,cap,us,mk,e',rfl,rfl,h3,h4,h5,h6,h7,h8,h9,h10,h11⟩
   ·obtain⟨G2,E2⟩:=G.virt y sz e
    refine⟨_,G2,E2,?_,live none (fun q hq=>by cases hq)⟩
    simp only[Rep]
    refine⟨hy,by rw[Ae];exact Nat.le_refl _,fun sz e' rows' fz hx=>?_⟩
    rw[Ae] at hx
    cases hx
    exact⟨Nat.le_refl _,.inl ⟨Ae _ _ _,trivial,rfl⟩⟩
   ·rw[he] at h3
    cases h3
    have hW:WX I K w w:= .refl I K w
    refine⟨upd m y (some (b,cap)),G.bump hW (fun _ h=>h) hg (.inr ⟨b,cap,us,mk,Ae _ _ _,h4,h5,h6,h7,h8,h9,fun h=>(by cases h),fun _=>⟨h10,h11⟩⟩) (fun _ _ _ _ _=>rfl) (fun _ _ _ _ _ _ h=>h) ?_ G.ilt G.ik,.bump hW (fun _ h=>h) hg,?_,live _ (fun q hq=>by cases hq;simp)⟩
    ·intro _ r hr2 x hx hl q hq e2
     cases hr2
     exact hb b Zi ⟨x,q,hl,hq,e2.symm⟩
    ·simp only[Rep]
     refine⟨hy,by rw[Ae];exact Nat.le_refl _,fun sz e' rows' fz hx=>?_⟩
     rw[Ae] at hx
     cases hx
     exact⟨Nat.le_refl _,.inr ⟨_,_,Ae _ _ _,rfl⟩⟩
  ·simp[Prog.run] at h
 |sc x=>
  simp only[takeCell,Prog.run,Option.some.injEq,Prod.mk.injEq] at h
  obtain⟨rfl,rfl⟩:=h
  exact same _ hr.2 rfl
 |sl f sz rows=>
  simp only[takeCell,Prog.run,Option.some.injEq,Prod.mk.injEq] at h
  obtain⟨rfl,rfl⟩:=h
  exact same _ hr.2 rfl
 |dp c o=>
  simp only[takeCell,Prog.run,Option.some.injEq,Prod.mk.injEq] at h
  obtain⟨rfl,rfl⟩:=h
  exact same _ hr.2 rfl
 |fn f caps=>
  simp only[takeCell,Prog.run,Option.some.injEq,Prod.mk.injEq] at h
  obtain⟨rfl,rfl⟩:=h
  exact same _ hr.2 rfl
 |dmp ag ks rows=>
  simp only[takeCell,Prog.run,Option.some.injEq,Prod.mk.injEq] at h
  obtain⟨rfl,rfl⟩:=h
  exact same _ hr.2 rfl
 |any|ptr|eptr|agg|tup|own|bsl|mp=>simp[takeCell,Prog.run] at h
theorem Tm {d:Nat}: ∀{c:Nat} {cts:List TypeId} {as as':List AV} {us:List Value} {bs:List Nat} {m:Mp} {hp hp':Hp},Gam I K m hp w->RepHL P I K w cts as us bs->bs.Nodup->(∀b∈bs,¬Aw m hp b)->
  (takeL P k d c cts as).run hp=some (as',hp')->
  ∃m',Gam I K m' hp' w/\Ext I K m hp w I m' hp' w/\AllR (Rep k I m' hp' w) as' us/\(∀b,Aw m' hp' b->Aw m hp b\/b∈bs)
 |c,cts,[],as',us,bs,m,hp,hp',G,hr,hn,hb,h=>by
  have e:us=[]/\bs=[]:=by cases cts<;>simpa[RepHL] using hr
  obtain⟨rfl,rfl⟩:=e
  cases cts<;>simp only[takeL,Prog.run,Option.some.injEq,Prod.mk.injEq] at h<;>obtain⟨rfl,rfl⟩:=h<;>exact⟨m,G,.refl _ _ _ _ _,.nil,fun _ h=> .inl h⟩
 |c,[],a::as,_,_,_,_,_,_,_,_,_,_,h=>by simp[takeL,Prog.run] at h
 |c,t::ts,a::as,as',us,bs,m,hp,hp',G,hr,hn,hb,h=>by
  simp only[RepHL] at hr
  obtain⟨u,us',b1,b2,rfl,rfl,h1,h2⟩:=hr
  simp only[takeL] at h
  obtain⟨v1,hp1,r1,h3⟩:=Aa h
  clear h
  obtain⟨vs,hp2,r2,h4⟩:=Aa h3
  clear h3
  simp only[Prog.run,Option.some.injEq,Prod.mk.injEq] at h4
  obtain⟨rfl,rfl⟩:=h4
  rw[List.nodup_append] at hn
  obtain⟨n1,n2,n3⟩:=hn
  obtain⟨m1,G1,E1,d1,l1⟩:=L4 G (Nat.le_refl _) h1 (fun b hb1=>hb b (List.mem_append.2 (.inl hb1))) r1
  obtain⟨m2,G2,E2,d2,l2⟩:=Tm G1 h2 n2 (fun b hb2 hl=>(l1 b hl).elim (hb b (List.mem_append.2 (.inr hb2))) (fun hb1=>n3 b hb1 b hb2 rfl)) r2
  refine⟨m2,G2,E1.trans E2,.cons (Rep.mono E2 _ _ _ d1) d2,fun b hb3=>?_⟩
  rcases l2 b hb3 with h|h
  ·rcases l1 b h with h|h
   ·exact .inl h
   ·exact .inr (List.mem_append.2 (.inl h))
  ·exact .inr (List.mem_append.2 (.inr h))
theorem RepH.anyK {bs:List Nat}(hI: ∀b∈bs,¬K b){ct:TypeId}{a:AV}{u:Value}(h:RepH P I (fun _=>False) w ct a u bs):RepH P I K w ct a u bs:=by
 cases a with
 |vec sz rows=>
  rcases h with h|⟨b,cap,us,mk,e,h1,h2,h3,h4,h5,h6,h7,h8,h9,h10,h11⟩
  ·exact .inl h
  ·exact .inr ⟨b,cap,us,mk,e,h1,h2,h3,h4,h5,h6,h7,h8,h9,h10,hI b (by rw[h1];simp)⟩
 |_=>exact h
theorem RepHL.anyK : ∀{cts:List TypeId} {as:List AV} {us:List Value} {bs:List Nat},(∀b∈bs,¬K b)->RepHL P I (fun _=>False) w cts as us bs->RepHL P I K w cts as us bs
 |cts,[],_,_,_,h=>by cases cts<;>simpa[RepHL] using h
 |[],_::_,_,_,_,h=>by simp[RepHL] at h
 |t::ts,a::as,us,bs,hk,h=>by
  simp only[RepHL] at h⊢
  obtain⟨u,us',b1,b2,rfl,rfl,h1,h2⟩:=h
  exact⟨u,us',b1,b2,rfl,rfl,RepH.anyK (fun b hb=>hk b (List.mem_append.2 (.inl hb))) h1,RepHL.anyK (fun b hb=>hk b (List.mem_append.2 (.inr hb))) h2⟩
theorem Ns (G:Gam I K m hp w){d c:Nat}{t:TypeId}{a v:AV}{u:Value}{bs:List Nat}(hr:RepRes P I w t a u bs)(hk: ∀b∈bs,¬K b)(hn:bs.Nodup)(hb: ∀b∈bs,¬Aw m hp b)
  (h:(takeOne P k d c t a).run hp=some (v,hp')):
  ∃m',Gam I K m' hp' w/\Ext I K m hp w I m' hp' w/\Rep k I m' hp' w v u/\(∀b,Aw m' hp' b->Aw m hp b\/b∈bs):=by
 unfold takeOne at h
 split at h
 case isFalse=>simp[Prog.run] at h
 unfold RepRes at hr
 split at h
 ·rename_i hagg
  rw[if_pos hagg] at hr
  obtain⟨cs,us,rfl,rfl,hr⟩:=hr
  obtain⟨cs',hp1,r1,h2⟩:=Aa h
  clear h
  simp only[Prog.run,Option.some.injEq,Prod.mk.injEq] at h2
  obtain⟨rfl,rfl⟩:=h2
  obtain⟨m',G',E',d',l'⟩:=Tm G (hr.anyK hk) hn hb r1
  refine⟨m',G',E',?_,l'⟩
  simp only[Rep]
  exact⟨us,rfl,(Ah _ _).2 d'⟩
 ·rename_i hagg
  rw[if_neg hagg] at hr
  exact L4 G (Nat.le_refl _) (RepH.anyK hk hr) hb h
theorem Nt {d:Nat}: ∀{c:Nat} {ts:List TypeId} {as as':List AV} {us:List Value} {bs:List Nat} {m:Mp} {hp hp':Hp},Gam I K m hp w->RepResL P I w ts as us bs->(∀b∈bs,¬K b)->bs.Nodup->(∀b∈bs,¬Aw m hp b)->
  (takeAll P k d c ts as).run hp=some (as',hp')->
  ∃m',Gam I K m' hp' w/\Ext I K m hp w I m' hp' w/\AllR (Rep k I m' hp' w) as' us/\(∀b,Aw m' hp' b->Aw m hp b\/b∈bs)
 |c,[],[],as',us,bs,m,hp,hp',G,hr,hk,hn,hb,h=>by
  simp only[RepResL] at hr
  obtain⟨rfl,rfl⟩:=hr
  simp only[takeAll,Prog.run,Option.some.injEq,Prod.mk.injEq] at h
  obtain⟨rfl,rfl⟩:=h
  exact⟨m,G,.refl _ _ _ _ _,.nil,fun _ h=> .inl h⟩
 |c,[],_::_,_,_,_,_,_,_,_,_,_,_,_,h=>by simp[takeAll,Prog.run] at h
 |c,_::_,[],_,_,_,_,_,_,_,_,_,_,_,h=>by simp[takeAll,Prog.run] at h
 |c,t::ts,a::as,as',us,bs,m,hp,hp',G,hr,hk,hn,hb,h=>by
  simp only[RepResL] at hr
  obtain⟨u,us',b1,b2,rfl,rfl,h1,h2⟩:=hr
  simp only[takeAll] at h
  obtain⟨v1,hp1,r1,h3⟩:=Aa h
  clear h
  obtain⟨vs,hp2,r2,h4⟩:=Aa h3
  clear h3
  simp only[Prog.run,Option.some.injEq,Prod.mk.injEq] at h4
  obtain⟨rfl,rfl⟩:=h4
  rw[List.nodup_append] at hn
  obtain⟨n1,n2,n3⟩:=hn
  obtain⟨m1,G1,E1,d1,l1⟩:=Ns G h1 (fun b hb1=>hk b (List.mem_append.2 (.inl hb1))) n1 (fun b hb1=>hb b (List.mem_append.2 (.inl hb1))) r1
  obtain⟨m2,G2,E2,d2,l2⟩:=Nt G1 h2 (fun b hb2=>hk b (List.mem_append.2 (.inr hb2))) n2 (fun b hb2 hl=>(l1 b hl).elim (hb b (List.mem_append.2 (.inr hb2))) (fun hb1=>n3 b hb1 b hb2 rfl)) r2
  refine⟨m2,G2,E1.trans E2,.cons (Rep.mono E2 _ _ _ d1) d2,fun b hb3=>?_⟩
  rcases l2 b hb3 with h|h
  ·rcases l1 b h with h|h
   ·exact .inl h
   ·exact .inr (List.mem_append.2 (.inl h))
  ·exact .inr (List.mem_append.2 (.inr h))
theorem RepResL.length : ∀{ts:List TypeId} {as:List AV} {us:List Value} {bs:List Nat},RepResL P I w ts as us bs->us.length=ts.length/\as.length=ts.length
 |[],[],_,_,h=>by simp only[RepResL] at h;simp[h.1]
 |[],_::_,_,_,h=>by simp[RepResL] at h
 |_::_,[],_,_,h=>by simp[RepResL] at h
 |t::ts,a::as,us,bs,h=>by
  simp only[RepResL] at h
  obtain⟨u,us',b1,b2,rfl,rfl,h1,h2⟩:=h
  have:=RepResL.length h2
  simp[this.1,this.2]
theorem Nr (G:Gam I K m hp w){d:Nat}{ts:List TypeId}{as:List AV}{us:List Value}{bs:List Nat}{v:AV}(hr:RepResL P I w ts as us bs)(hk: ∀b∈bs,¬K b)(hn:bs.Nodup)(hb: ∀b∈bs,¬Aw m hp b)
  (h:(takeRes P k d ts as).run hp=some (v,hp')):
  ∃m',Gam I K m' hp' w/\Ext I K m hp w I m' hp' w/\Rep k I m' hp' w v (retV us):=by
 unfold takeRes at h
 split at h
 ·simp only[RepResL] at hr
  obtain⟨u,us',b1,b2,rfl,rfl,h1,rfl,rfl⟩:=hr
  obtain⟨m',G',E',d',l'⟩:=Ns G h1 (fun b h=>hk b (by simpa using h)) (by simpa using hn) (fun b h=>hb b (by simpa using h)) h
  exact⟨m',G',E',d'⟩
 ·rename_i hne
  obtain⟨vs,hp1,r1,h2⟩:=Aa h
  clear h
  simp only[Prog.run,Option.some.injEq,Prod.mk.injEq] at h2
  obtain⟨rfl,rfl⟩:=h2
  obtain⟨m',G',E',d',l'⟩:=Nt G hr hk hn hb r1
  refine⟨m',G',E',?_⟩
  have hl:=hr.length
  have hus:retV us= .tuple ⟨us⟩:=by
   match us,hl with
   |[],_=>rfl
   |[x],⟨h1,h2⟩=>
    exfalso
    match ts,as,h1,h2 with
    |[t],[a],_,_=>exact hne t a rfl rfl
   |_::_::_,_=>rfl
  rw[hus]
  simp only[Rep]
  exact⟨us,rfl,(Ah _ _).2 d'⟩
end
end
section
open Go
section
variable {P:Program}{I K:Nat->Prop}{m:Mp}{hp hp':Hp}{w:World}{k:Nat}
theorem Cha {t kt e:TypeId}(h:mapT P t=some (kt,e)):P.underlying t=some (.map kt e):=by
 unfold mapT at h
 split at h
 ·rename_i h1;cases h;exact h1
 ·cases h
theorem Rn {ag:Bool}: ∀{rows:List (List AV)} {vs:List Value} {j:Nat} {r:List AV},RepMs I w ag rows vs->rows[j]?=some r->
  ∃v us,vs[j]?=some v/\v=(if ag then .agg ⟨us⟩ else v)/\(ag=false->us=[v]/\v.oneCell'=true)/\RepDL I w r us
 |[],vs,j,r,h,hr=>by simp at hr
 |a::rows,vs,0,r,h,hr=>by
  simp only[RepMs] at h
  obtain⟨v,vt,us,rfl,h1,h2,h3,_⟩:=h
  simp only[List.getElem?_cons_zero,Option.some.injEq] at hr
  subst hr
  exact⟨v,us,rfl,h1,h2,h3⟩
 |a::rows,vs,j+1,r,h,hr=>by
  simp only[RepMs] at h
  obtain⟨v,vt,us,rfl,_,_,_,h4⟩:=h
  rw[List.getElem?_cons_succ] at hr⊢
  exact Rn h4 hr
theorem Rm {ag:Bool}: ∀{rows:List (List AV)} {vs:List Value},RepMs I w ag rows vs->rows.length=vs.length
 |[],vs,h=>by simp only[RepMs] at h;subst h;rfl
 |a::rows,vs,h=>by
  simp only[RepMs] at h
  obtain⟨v,vt,us,rfl,_,_,_,h4⟩:=h
  simp[Rm h4]
theorem Ro {ag:Bool}{r:List AV}{v:Value}{us:List Value}(h1:v=(if ag then .agg ⟨us⟩ else v))(h2:ag=false->us=[v]/\v.oneCell'=true)(h3:RepDL I w r us): ∀{rows:List (List AV)} {vs:List Value},RepMs I w ag rows vs->RepMs I w ag (rows++[r]) (vs++[v])
 |[],vs,h=>by
  simp only[RepMs] at h;subst h
  simp only[List.nil_append,RepMs]
  exact⟨v,[],us,rfl,h1,h2,h3,rfl⟩
 |a::rows,vs,h=>by
  simp only[RepMs] at h
  obtain⟨v',vt,us',rfl,q1,q2,q3,q4⟩:=h
  simp only[List.cons_append,RepMs]
  exact⟨v',_,us',rfl,q1,q2,q3,Ro h1 h2 h3 q4⟩
theorem Rl {ag:Bool}{r:List AV}{v:Value}{us:List Value}(h1:v=(if ag then .agg ⟨us⟩ else v))(h2:ag=false->us=[v]/\v.oneCell'=true)(h3:RepDL I w r us): ∀{rows:List (List AV)} {vs:List Value} (j:Nat),RepMs I w ag rows vs->RepMs I w ag (rows.set j r) (vs.set j v)
 |[],vs,j,h=>by simp only[RepMs] at h;subst h;simp[RepMs]
 |a::rows,vs,0,h=>by
  simp only[RepMs] at h
  obtain⟨v',vt,us',rfl,q1,q2,q3,q4⟩:=h
  simp only[List.set_cons_zero,RepMs]
  exact⟨v,vt,us,rfl,h1,h2,h3,q4⟩
 |a::rows,vs,j+1,h=>by
  simp only[RepMs] at h
  obtain⟨v',vt,us',rfl,q1,q2,q3,q4⟩:=h
  simp only[List.set_cons_succ,RepMs]
  exact⟨v',_,us',rfl,q1,q2,q3,Rl h1 h2 h3 j q4⟩
theorem Gua {ag ag':Bool}{vs:List Value}(h:RepMs I w ag [] vs):RepMs I w ag' [] vs:=by simpa only[RepMs] using h
theorem Xj (G:Gam I K m hp w){x:AV}{u:Value}{ag:Bool}{ks:List Value}{rows:List (List AV)}(hr:Rep k I m hp w x u)(h:(mapRows P x).run hp=some ((ag,ks,rows),hp')):
  hp'=hp/\((u= .map none/\ks=[]/\rows=[])\/ ∃b es clock,u= .map (some b)/\w.heap[b]?=some (.map es clock)/\es.toList.map (·.key)=ks/\RepMs I w ag rows (es.toList.map (·.val))):=by
 unfold mapRows at h
 split at h
 ·simp only[Prog.run,Option.some.injEq,Prod.mk.injEq] at h
  obtain⟨⟨rfl,rfl,rfl⟩,rfl⟩:=h
  simp only[Rep] at hr
  exact⟨rfl,.inl ⟨hr,rfl,rfl⟩⟩
 ·simp only[Prog.run,Option.some.injEq,Prod.mk.injEq] at h
  obtain⟨⟨rfl,rfl,rfl⟩,rfl⟩:=h
  simp only[Rep,RepD] at hr
  obtain⟨b,es,clock,h1,_,h2,h3,h4⟩:=hr
  exact⟨rfl,.inr ⟨b,es,clock,h1,h2,h3,h4⟩⟩
 ·rename_i x g
  simp only[Prog.run] at h
  cases hx:hp x with
  |no g'=>rw[hx] at h;simp[Prog.run] at h
  |box g' c f=>rw[hx] at h;simp[Prog.run] at h
  |arr g' sz e rows f=>rw[hx] at h;simp[Prog.run] at h
  |map g' ag' ks' rows' f=>
   rw[hx] at h
   simp only at h
   split at h
   ·rename_i hg
    subst hg
    simp only[Prog.run,Option.some.injEq,Prod.mk.injEq] at h
    obtain⟨⟨rfl,rfl,rfl⟩,rfl⟩:=h
    have ho:=G.obj x
    rw[hx] at ho
    obtain⟨b,c,es,clock,h1,h2,h3,h4,_⟩:=ho
    simp only[Rep] at hr
    obtain⟨_,_,hr⟩:=hr
    obtain⟨b',c',hm,rfl⟩:=hr _ _ _ _ hx
    rw[h1] at hm;cases hm
    exact⟨rfl,.inr ⟨b,es,clock,rfl,h2,h3,h4⟩⟩
   ·simp[Prog.run] at h
 ·simp[Prog.run] at h
/-! ### keys -/
theorem Gy {kt:TypeId}{key:Value}(h:Fg P kt key=true):(∃kd kk n,P.underlying kt=some (.int kd)/\key= .int kk n)\/(∃s,P.underlying kt=some .string/\key= .string s):=by
 unfold Fg at h
 split at h
 ·rename_i kk n
  obtain⟨kd,hk⟩:=Option.isSome_iff_exists.1 h
  exact .inl ⟨kd,kk,n,Nb hk,rfl⟩
 ·exact .inr ⟨_,Fo h,rfl⟩
 ·cases h
theorem ba_beq (a b:ByteArray):(a==b)=decide (a=b):=by
 cases a with|mk x=>
 cases b with|mk y=>
 show(x==y)=_
 by_cases h:x=y
 ·subst h;simp
 ·simp[h]
theorem Epa {kt:TypeId}{kd:TypeDesc}{key:Value}(hk:Fg P kt key=true)(hu:P.underlying kt=some kd){v:Value}{b:Bool}(h:keyEq key v=some b):Instr.sameNow kd key v=some b:=by
 rcases Gy hk with⟨kd',kk,n,h1,rfl⟩|⟨s,h1,rfl⟩
 ·rw[h1] at hu;cases hu
  cases v<;>simp[keyEq] at h
  simp[Instr.sameNow,h]
 ·rw[h1] at hu;cases hu
  cases v<;>simp[keyEq] at h
  simp only[Instr.sameNow]
  rw[<-h]
  rename_i s'
  rw[ba_beq]
theorem Hb {kt:TypeId}{kd:TypeDesc}{key:Value}(hk:Fg P kt key=true)(hu:P.underlying kt=some kd): ∀{es:List MapEntry} {i:Nat} {r:Option Nat},findK key (es.map (·.key)) i=some r->
  match r with
  |none=>Instr.findNow kd key es i=some none
  |some j=>i<=j/\ ∃e,es[j - i]?=some e/\keyEq key e.key=some true/\Instr.findNow kd key es i=some (some (j,e.val))
 |[],i,r,h=>by
  simp only[List.map_nil,findK,Option.some.injEq] at h
  subst h
  rfl
 |e::es,i,r,h=>by
  simp only[List.map_cons,findK] at h
  cases hq:keyEq key e.key with
  |none=>rw[hq] at h;cases h
  |some b=>
   rw[hq] at h
   have hn:=Epa hk hu hq
   cases b with
   |true=>
    simp only[Option.some.injEq] at h
    subst h
    exact⟨Nat.le_refl _,e,Zi,hq,by simp[Instr.findNow,hn]⟩
   |false=>
    simp only at h
    have ih:=Hb hk hu h
    cases r with
    |none=>simp only at ih⊢;simp[Instr.findNow,hn,ih]
    |some j=>
     simp only at ih⊢
     obtain⟨hle,e',he,hq',hf⟩:=ih
     refine⟨Zo,e',?_,hq',by simp[Instr.findNow,hn,hf]⟩
     rw[show j - i=(j - (i+1))+1 from Zo,List.getElem?_cons_succ]
     exact he
theorem Pt {kt:TypeId}{key:Value}(hk:Fg P kt key=true)(w:World)(b:Bool)(n:Nat):(Instr.checkKey b (n+1) kt key).run P w= .ok () w:=by
 rcases Gy hk with⟨kd',kk,m,h1,rfl⟩|⟨s,h1,rfl⟩
 ·unfold Instr.checkKey;simp[run_underlying h1]
 ·unfold Instr.checkKey;simp[run_underlying h1]
theorem Ki {kt:TypeId}{key:Value}(hk:Fg P kt key=true)(w:World)(b:Bool):(Instr.checkKey b 10000 kt key).run P w= .ok () w:=Pt hk w b 9999
theorem Gya {e:TypeId}{v:AV}(h:(zeroV P e).run hp=some (v,hp')):hp'=hp/\ ∃u,(zeroValue e).run P w= .ok u w/\Rep k I m hp w v u:=by
 unfold zeroV at h
 split at h
 ·rename_i z us hz hzz
  split at h
  case isFalse=>simp[Prog.run] at h
  rename_i hc
  simp only[Prog.run,Option.some.injEq,Prod.mk.injEq] at h
  obtain⟨rfl,rfl⟩:=h
  obtain⟨i,zv,h1,h2,_,_,_,_,h3⟩:=Kb (I:=I) (w:=w) hz hc.2.1 hc.1
  rw[h1] at hzz
  simp only[Option.bind_some,h2,Option.some.injEq] at hzz
  subst hzz
  refine⟨rfl,.agg us,by simp[zeroValue,typeInfo,h1,h2],?_⟩
  simp only[Rep]
  refine⟨us.toList,rfl,(Ah _ _).2 (h3.imp fun a u h=>RepD.rep h)⟩
 ·rename_i c zv hzr hz hzz
  split at h
  case isFalse=>simp[Prog.run] at h
  rename_i hc
  simp only[Prog.run,Option.some.injEq,Prod.mk.injEq] at h
  obtain⟨rfl,rfl⟩:=h
  obtain⟨i,zv',h1,h2,_,_,_,_,h3⟩:=Kb (I:=I) (w:=w) hz (by simpa using hc.2.1) hc.1
  rw[h1] at hzz
  simp only[Option.bind_some,h2,Option.some.injEq] at hzz
  subst hzz
  refine⟨rfl,zv',by simp[zeroValue,typeInfo,h1,h2],?_⟩
  have hcell:zv'.cells.toList=[zv']:=by
   have:=hc.2.2.2
   cases zv'<;>first|rfl|simp[Value.oneCell'] at this
  rw[hcell] at h3
  obtain⟨u,us,e1,h4,_⟩:=h3.cons_inv
  cases e1
  exact h4.rep
 ·simp[Prog.run] at h
theorem L8 {kt:TypeId}{kd:TypeDesc}(hu:P.underlying kt=some kd){key:Value}{es:List MapEntry}{r:Option (Nat×Value)}(h:Instr.findNow kd key es 0=some r)(w:World):(Instr.findKey kt key es).run P w= .ok r w:=by
 simp[Instr.findKey,run_underlying hu,h]
def seenV (z:Value):Option (Nat×Value)->Value×Bool
 |some (_,v)=>(v,true)
 |none=>(z,false)
theorem N0 {t kt e:TypeId}(hmu:P.underlying t=some (.map kt e)){kd:TypeDesc}(hu:P.underlying kt=some kd){key:Value}(hk:Fg P kt key=true){u:Value}{es:Array MapEntry}{r:Option (Nat×Value)}
  (hs:(u= .map none/\es= #[])\/ ∃b clock,u= .map (some b)/\w.heap[b]?=some (.map es clock)) (hf:Instr.findNow kd key es.toList 0=some r) {z:Value} (hz:r=none->(zeroValue e).run P w= .ok z w) (ok:Bool):
  (Instr.lookup t u key ok).run P w= .ok (if ok then .tuple #[(seenV z r).1,.bool (seenV z r).2] else(seenV z r).1) w:=by
 have hck:=Ki (P:=P) hk w
 have hfk:=L8 hu hf w
 rcases hs with⟨rfl,rfl⟩|⟨b,clock,rfl,hb⟩
 ·cases r with
  |none=>simp[Instr.lookup,run_underlying hmu,hck,hfk,hz rfl,seenV]
  |some p=>simp[Instr.lookup,run_underlying hmu,hck,hfk,seenV]
 ·have hg:(getObj b).run P w= .ok (.map es clock) w:=by simp[getObj,Sem.run,hb]
  cases r with
  |none=>simp[Instr.lookup,run_underlying hmu,hck,hfk,hz rfl,seenV,hg]
  |some p=>simp[Instr.lookup,run_underlying hmu,hck,hfk,seenV,hg]
theorem row_one {ag:Bool}{r:List AV}{us:List Value}{v:Value}{a:AV}{hp1:Hp}(h1:v=(if ag then .agg ⟨us⟩ else v))(h2:ag=false->us=[v]/\v.oneCell'=true)(h3:RepDL I w r us)(h:(oneV ag r).run hp1=some (a,hp')):hp'=hp1/\Rep k I m hp w a v:=by
 unfold oneV at h
 cases ag with
 |true=>
  simp only[if_true,Prog.run,Option.some.injEq,Prod.mk.injEq] at h h1
  obtain⟨rfl,rfl⟩:=h
  refine⟨rfl,?_⟩
  rw[h1]
  simp only[Rep]
  exact⟨us,rfl,(Ah _ _).2 (((A1 _ _).1 h3).imp fun a u h=>RepD.rep h)⟩
 |false=>
  obtain⟨rfl,_⟩:=h2 rfl
  simp only[Bool.false_eq_true,if_false] at h
  split at h
  ·simp only[Prog.run,Option.some.injEq,Prod.mk.injEq] at h
   obtain⟨rfl,rfl⟩:=h
   simp only[RepDL] at h3
   obtain⟨x,xs,e,h4,_⟩:=h3
   cases e
   exact⟨rfl,h4.rep⟩
  ·simp[Prog.run] at h
theorem Ela (G:Gam I K m hp w){t:TypeId}{x i v:AV}{u ui:Value}{ok:Bool}(hr:Rep k I m hp w x u)(hri:Rep k I m hp w i ui)(h:(lookupP P t x ok i).run hp=some (v,hp')):
  hp'=hp/\ ∃r,(Instr.lookup t u ui ok).run P w= .ok r w/\Rep k I m hp w v r:=by
 unfold lookupP at h
 split at h
 case h_2=>simp[Prog.run] at h
 rename_i key
 simp only[Rep] at hri
 subst hri
 split at h
 case h_2=>simp[Prog.run] at h
 rename_i kt e hmt
 have hmu:=Cha hmt
 split at h
 case isFalse=>simp[Prog.run] at h
 rename_i hkk
 obtain⟨⟨ag,ks,rows⟩,hp1,r1,h2⟩:=Aa h
 clear h
 obtain⟨e1,hm⟩:=Xj G hr r1
 rw[e1] at h2
 simp only at h2
 obtain⟨kd,hkd⟩: ∃kd,P.underlying kt=some kd:=by
  rcases Gy hkk with⟨kd',kk,n,h1,_⟩|⟨s,h1,_⟩<;>exact⟨_,h1⟩
 obtain⟨es,hs,hes,hvs⟩: ∃es:Array MapEntry,((u= .map none/\es= #[])\/ ∃b clock,u= .map (some b)/\w.heap[b]?=some (.map es clock))/\es.toList.map (·.key)=ks/\RepMs I w ag rows (es.toList.map (·.val)):=by
  rcases hm with⟨rfl,rfl,rfl⟩|⟨b,es,clock,rfl,q1,q2,q3⟩
  ·exact⟨#[],.inl ⟨rfl,rfl⟩,rfl,by simp[RepMs]⟩
  ·exact⟨es,.inr ⟨b,clock,rfl,q1⟩,q2,q3⟩
 subst hes
 split at h2
 ·rename_i j hj
  have hfk:=Hb hkk hkd hj
  simp only at hfk
  obtain⟨_,en,hen,_,hfn⟩:=hfk
  split at h2
  case h_2=>simp[Prog.run] at h2
  rename_i r hrow
  split at h2
  case isFalse=>simp[Prog.run] at h2
  obtain⟨a,hp2,r2,h3⟩:=Aa h2
  simp only[Prog.run,Option.some.injEq,Prod.mk.injEq] at h3
  obtain⟨rfl,rfl⟩:=h3
  obtain⟨v',us,q0,q1,q2,q3⟩:=Rn hvs hrow
  rw[List.getElem?_map,show j=j - 0 from rfl,hen] at q0
  simp only[Option.map_some,Option.some.injEq] at q0
  subst q0
  obtain⟨e2,hrep⟩:=row_one (m:=m) (hp:=hp) (k:=k) q1 q2 q3 r2
  refine⟨e2,_,N0 hmu hkd hkk hs hfn (z:= .nilFunc) (fun hn=>by cases hn) ok,?_⟩
  cases ok with
  |false=>simpa[seenV] using hrep
  |true=>
   simp only[if_true,seenV,Rep]
   exact⟨[en.val,.bool true],rfl,by simp only[RepL];exact⟨_,_,rfl,hrep,_,_,rfl,by simp only[Rep],rfl⟩⟩
 ·rename_i hj
  have hfk:=Hb hkk hkd hj
  simp only at hfk
  obtain⟨a,hp2,r2,h3⟩:=Aa h2
  simp only[Prog.run,Option.some.injEq,Prod.mk.injEq] at h3
  obtain⟨rfl,rfl⟩:=h3
  obtain⟨e2,z,hz,hrep⟩:=Gya (I:=I) (m:=m) (hp:=hp) (w:=w) (k:=k) r2
  refine⟨e2,_,N0 hmu hkd hkk hs hfk (z:=z) (fun _=>hz) ok,?_⟩
  cases ok with
  |false=>simpa[seenV] using hrep
  |true=>
   simp only[if_true,seenV,Rep]
   exact⟨[z,.bool false],rfl,by simp only[RepL];exact⟨_,_,rfl,hrep,_,_,rfl,by simp only[Rep],rfl⟩⟩
 ·simp[Prog.run] at h2
/-! ### written -/
theorem Xo {key v:Value}(h:keyEq key v=some true):v=key:=by
 unfold keyEq at h
 split at h
 ·split at h
  ·rename_i hk;subst hk;simp only[Option.some.injEq,beq_iff_eq] at h;rw[h]
  ·cases h
 ·simp only[Option.some.injEq,decide_eq_true_eq] at h;rw[h]
 ·cases h
theorem Ps {kt:TypeId}{key:Value}(hk:Fg P kt key=true)(n:Nat):Instr.sameBits (n+1) key key=true:=by
 rcases Gy hk with⟨kd',kk,m,h1,rfl⟩|⟨s,h1,rfl⟩
 ·simp[Instr.sameBits]
 ·simp[Instr.sameBits,ba_beq]
theorem Rz {kt:TypeId}{key:Value}(hk:Fg P kt key=true):Instr.sameBits 10000 key key=true:=Ps hk 9999
theorem Jr {t kt e:TypeId}(hmu:P.underlying t=some (.map kt e)){kd:TypeDesc}(hu:P.underlying kt=some kd){key val:Value}(hk:Fg P kt key=true){b clock:Nat}{es:Array MapEntry}(hb:w.heap[b]?=some (.map es clock))
  {r:Option (Nat×Value)} (hf:Instr.findNow kd key es.toList 0=some r) (hold: ∀i v,r=some (i,v)-> ∃en,es[i]?=some en/\en.key=key):
  (Instr.mapUpdate t (.map (some b)) key val).run P w= .ok () (w.putObj b (match r with
   |some (i,_)=> .map (es.modify i fun e=>{e with key,val:=val}) clock
   |none=> .map (es.push {key,val:=val,born:=clock}) (clock+1))):=by
 have hck:=Ki (P:=P) hk w
 have hfk:=L8 hu hf w
 have hg:(getObj b).run P w= .ok (.map es clock) w:=by simp[getObj,Sem.run,hb]
 have hset: ∀o,(setObj b o).run P w= .ok () (w.putObj b o):=fun o=>by simp[setObj,Sem.run,hb,World.putObj]
 cases r with
 |none=>simp[Instr.mapUpdate,run_underlying hmu,hck,hfk,hg,hset]
 |some p=>
  obtain⟨i,v⟩:=p
  obtain⟨en,h1,h2⟩:=hold i v rfl
  simp[Instr.mapUpdate,run_underlying hmu,hck,hfk,hg,hset,Instr.keyThatStays,h1,h2,Rz hk]
theorem WX.putObj {b:Nat}{o:Obj}(hi: ¬I b)(hk: ¬K b):WX I K w (w.putObj b o) where
 keep:=fun c hc=>World.putObj_heap_other fun e=>by subst e;exact hc.elim hi hk
 size:=by simp[World.putObj]
 os:=rfl
 tape:=rfl
 output:=rfl
theorem Me {α β:Type}(f:α->β)(g:α->α): ∀(l:List α) (i:Nat),(∀a,l[i]?=some a->f (g a)=f a)->(l.modify i g).map f=l.map f
 |[],i,_=>Zi
 |a::l,0,h=>by simp[h a rfl]
 |a::l,i+1,h=>by simp[Me f g l i (fun a ha=>h a (by simpa using ha))]
theorem Md {α β:Type}(f:α->β)(g:α->α)(y:β): ∀(l:List α) (i:Nat),(∀a,f (g a)=y)->(l.modify i g).map f=(l.map f).set i y
 |[],i,_=>Zi
 |a::l,0,h=>by simp[h a]
 |a::l,i+1,h=>by simp[Md f g y l i h]
theorem Qk (G:Gam I K m hp w){t:TypeId}{x key v z:AV}{u uk uv:Value}(hr:Rep k I m hp w x u)(hrk:Rep k I m hp w key uk)(hrv:AllR (Rep k I m hp w) (cellsA v) uv.cells.toList)
  (hsh: ∃us,uv=(if aggA v then .agg ⟨us⟩ else uv)) (hone:aggA v=false->uv.cells.toList=[uv]) (h:(insertP P t x key v).run hp=some (z,hp')):
  z= .any/\ ∃w' I' m',(Instr.mapUpdate t u uk uv).run P w= .ok () w'/\Gam I' K m' hp' w'/\Ext I K m hp w I' m' hp' w':=by
 unfold insertP at h
 split at h
 case h_2=>simp[Prog.run] at h
 rename_i kt e kv hmt
 have hmu:=Cha hmt
 simp only[Rep] at hrk
 subst hrk
 split at h
 case isFalse=>simp[Prog.run] at h
 rename_i hc
 obtain⟨hkk,hlen,hag⟩:=hc
 obtain⟨kd,hkd⟩: ∃kd,P.underlying kt=some kd:=by
  rcases Gy hkk with⟨kd',kk,n,h1,_⟩|⟨s,h1,_⟩<;>exact⟨_,h1⟩
 obtain⟨r,hp1,r1,h2⟩:=Aa h
 clear h
 obtain⟨I1,G1,E1,d1⟩:=Ea G hrv r1
 split at h2
 case h_2=>simp[Prog.run] at h2
 rename_i y g
 have hr1:=Rep.mono E1 _ _ _ hr
 simp only[Prog.run] at h2
 cases hx:hp1 y with
 |no g'=>rw[hx] at h2;simp[Prog.run] at h2
 |box g' c f=>rw[hx] at h2;simp[Prog.run] at h2
 |arr g' sz e rows f=>rw[hx] at h2;simp[Prog.run] at h2
 |map g' ag ks rows f=>
  rw[hx] at h2
  simp only at h2
  split at h2
  case isFalse=>simp[Prog.run] at h2
  rename_i hc2
  obtain⟨rfl,rfl,hks⟩:=hc2
  have ho:=G1.obj y
  rw[hx] at ho
  obtain⟨b,c,es,clock,o1,o2,o3,o4,o5,o6⟩:=ho
  obtain⟨hni,hnk⟩:=o6 rfl
  simp only[Rep] at hr1
  obtain⟨_,_,hr1⟩:=hr1
  obtain⟨b',c',hm,rfl⟩:=hr1 _ _ _ _ hx
  rw[o1] at hm;cases hm
  subst o3
  have o4':RepMs I1 w (isAggB P e) rows (es.toList.map (·.val)):=by
   rcases hks with h0|h0
   ·have:es.toList=[]:=List.map_eq_nil_iff.1 h0
    rw[this] at o4⊢
    have hl:=Rm o4
    have:rows=[]:=List.eq_nil_of_length_eq_zero (by simpa using hl)
    subst this
    exact Gua o4
   ·rw[<-h0];exact o4
  obtain⟨us,q1,q2,q3⟩: ∃us,uv=(if isAggB P e then .agg ⟨us⟩ else uv)/\(isAggB P e=false->us=[uv]/\uv.oneCell'=true)/\RepDL I1 w r us:=by
   refine⟨uv.cells.toList,?_,fun hf=>?_,(A1 _ _).2 d1⟩
   ·rw[<-hag]
    obtain⟨us,hus⟩:=hsh
    cases hb:aggA v with
    |false=>simp
    |true=>rw[hb] at hus;simp only[if_true] at hus⊢;rw[hus];simp[Value.cells]
   ·have h1:=hone (by rw[hag];exact hf)
    exact⟨h1,d1.one uv (by rw[h1];simp)⟩
  have hlt:b<w.heap.size:=(Array.getElem?_eq_some_iff.1 o2).1
  have fin: ∀(es':Array MapEntry) (clock':Nat) (ks':List Value) (rows':List (List AV)),es'.toList.map (·.key)=ks'->RepMs I1 w (isAggB P e) rows' (es'.toList.map (·.val))->
    Gam I1 K m (upd hp1 y (.map g' (isAggB P e) ks' rows' false)) (w.putObj b (.map es' clock'))/\Ext I1 K m hp1 w I1 m (upd hp1 y (.map g' (isAggB P e) ks' rows' false)) (w.putObj b (.map es' clock')):=by
   intro es' clock' ks' rows' h1 h2
   have hk:Ci (hp1 y) (.map g' (isAggB P e) ks' rows' false):=by rw[hx];exact⟨_,_,_,_,rfl⟩
   have hW:WX I1 K w (w.putObj b (.map es' clock')):= .putObj hni hnk
   refine⟨G1.same hW (fun _ h=>h) hk ⟨b,c,es',clock',o1,World.putObj_heap_same hlt,h1,RepMs.mono (fun _ h=>h) (fun d hd=>hW.keep d (.inl hd)) _ _ _ h2,fun h=>(by cases h),fun _=>⟨hni,hnk⟩⟩
    (fun z hz hl q hq=>World.putObj_heap_other fun e=>hz (G1.inj z y q (b,c) hl (by rw[hx];rfl) hq o1 e)) (fun _ _ _ _ _ _ h=>h) (fun d hd=>by have:=G1.ilt d hd;simpa[World.putObj] using this) G1.ik,.same hW (fun _ h=>h) hk⟩
  split at h2
  ·rename_i j hj
   simp only[Prog.run,Option.some.injEq,Prod.mk.injEq] at h2
   obtain⟨rfl,rfl⟩:=h2
   have hfk:=Hb hkk hkd hj
   simp only at hfk
   obtain⟨_,en,hen,hkeq,hfn⟩:=hfk
   have hke:=Xo hkeq
   have hen':es.toList[j]?=some en:=hen
   have hrun:=Jr (val:=uv) hmu hkd hkk o2 hfn (fun i v' h=>by cases h;exact⟨en,by rw[<-Array.getElem?_toList];exact hen',hke⟩)
   obtain⟨G2,E2⟩:=fin (es.modify j fun e=>{e with key:=uk,val:=uv}) clock (es.toList.map (·.key)) (rows.set j r)
    (by rw[Array.toList_modify];exact Me _ _ _ _ (fun a ha=>by rw[hen'] at ha;cases ha;exact hke.symm))
    (by rw[Array.toList_modify,Md _ _ uv _ _ (fun _=>rfl)];exact Rl q1 q2 q3 j o4')
   exact⟨rfl,_,I1,m,hrun,G2,E1.trans E2⟩
  ·rename_i hj
   simp only[Prog.run,Option.some.injEq,Prod.mk.injEq] at h2
   obtain⟨rfl,rfl⟩:=h2
   have hfk:=Hb hkk hkd hj
   simp only at hfk
   have hrun:=Jr (val:=uv) hmu hkd hkk o2 hfk (fun i v' h=>by cases h)
   obtain⟨G2,E2⟩:=fin (es.push {key:=uk,val:=uv,born:=clock}) (clock+1) (es.toList.map (·.key)++[uk]) (rows++[r]) Zi (by simpa using Ro q1 q2 q3 o4')
   exact⟨rfl,_,I1,m,hrun,G2,E1.trans E2⟩
  ·simp[Prog.run] at h2
theorem Xk (G:Gam I K m hp w){y:Nm}(hy:y.d<=k):
  ∃m',Gam I K m' (upd hp y (.map ((hp y).gen+1) false [] [] false)) (w.alloc (.map #[] 0))/\Ext I K m hp w I m' (upd hp y (.map ((hp y).gen+1) false [] [] false)) (w.alloc (.map #[] 0))/\
   Rep k I m' (upd hp y (.map ((hp y).gen+1) false [] [] false)) (w.alloc (.map #[] 0)) (.mp y ((hp y).gen+1)) (.map (some w.heap.size)):=by
 obtain⟨G2,E2⟩:=G.alloc (x:=y) (o:= .map ((hp y).gen+1) false [] [] false) (.map #[] 0) 0 (by simp[AObj.gen])
  (fun w' m' hb hm E=>⟨w.heap.size,0,#[],0,hm,hb,rfl,by simp[RepMs],fun h=>(by cases h),fun _=>G.fresh⟩) (.inl rfl)
 refine⟨_,G2,E2,?_⟩
 simp only[Rep]
 exact⟨hy,by rw[Ae];exact Nat.le_refl _,fun ag ks rows fz hx=>⟨w.heap.size,0,Ae _ _ _,rfl⟩⟩
/-! ### slices some of whose elements lead to boxes -/
theorem Qn {place:Nat->Option (Nat×Nat)}: ∀{parts:List (Nat×AV)} {cells out:List AV},fillA place cells parts=some out->out.length=cells.length
 |[],cells,out,h=>by simp only[fillA,Option.some.injEq] at h;rw[h]
 |(i,v)::rest,cells,out,h=>by
  simp only[fillA] at h
  split at h
  ·cases h
  ·split at h
   ·rename_i hc
    have:=Qn h
    rw[this]
    unfold splice
    split
    ·assumption
    ·simp only[List.length_append,List.length_take,List.length_drop]
     omega
   ·cases h
theorem V8 (G:Gam I K m hp w){i:Nat}{t:TypeId}{len:Nat}{parts:List (Nat×AV)}{us:Array (Nat×Value)}{v:AV}(hr:PartsR k I m hp w parts us.toList)(h:(boxSliceP P k i t len parts).run hp=some (v,hp')):
  ∃u' w' I' m',(Instr.buildSlice t len us).run P w= .ok u' w'/\Gam I' K m' hp' w'/\Ext I K m hp w I' m' hp' w'/\Rep k I' m' hp' w' v u':=by
 unfold boxSliceP at h
 split at h
 case h_2=>simp[Prog.run] at h
 rename_i e he
 split at h
 case h_2=>simp[Prog.run] at h
 rename_i z hz
 split at h
 case isFalse=>simp[Prog.run] at h
 rename_i hc
 obtain⟨hzo,hall1,hsz,hmax⟩:=hc
 obtain⟨ie,zv,hi,hzz,hzs,hpos,hcs,hbs⟩:=Wm hzo
 have hzl:z=zv.cells.toList:=by simp[zeros,hi,hzz] at hz;exact hz.symm
 subst hzl
 have hall:AllR (RepD I w) (zv.cells.toList.map AV.sc) zv.cells.toList:=⟨Zi,fun j a u h1 h2=>by
  rw[List.getElem?_map,h2] at h1;cases h1
  simp only[RepD]
  exact⟨trivial,List.all_eq_true.1 hall1 u (List.mem_of_getElem? h2)⟩⟩
 have hmk:=Jd (I:=I) (w:=w) hall (by rw[hzs];exact hpos) len (len*ie.size) (by rw[hzs];exact Nat.le_refl _)
 rw[hzs,Ak,List.length_replicate] at hmk
 have hfull:(madeCells zv.cells (len*ie.size)).toList.take (len*ie.size)=(madeCells zv.cells (len*ie.size)).toList:=List.take_of_length_le (by simp[size_madeCells])
 rw[hfull] at hmk
 split at h
 case h_2=>simp[Prog.run] at h
 rename_i cs hfa
 rw[hcs] at hfa h hsz
 obtain⟨cs1,f1,f2⟩:=So hr (hmk.2.imp fun a u h=>RepD.rep h) hfa
 obtain⟨cs',hp1,r1,h2⟩:=Aa h
 clear h
 obtain⟨I1,m1,G1,E1,d1,_⟩:=Fp G f2 r1
 simp only[Prog.run,Option.some.injEq,Prod.mk.injEq] at h2
 obtain⟨rfl,rfl⟩:=h2
 obtain⟨G2,E2⟩:=G1.alloc (x:=⟨k,i,0⟩) (o:= .box ((hp1 ⟨k,i,0⟩).gen+1) cs' false) (.cells cs1 e) cs1.size (by simp[AObj.gen])
  (fun w' m' hb hm E=>⟨w.heap.size,cs1.size,cs1,e,(0,0),hm,hb,⟨noMark0 _,rfl⟩,by rw[Nq d1];exact(Ah _ _).2 (d1.imp fun a u h=>Rep.mono E _ a u h),fun h=>(by cases h),fun _=>G1.fresh⟩) (.inl rfl)
 refine⟨.slice (some ⟨w.heap.size,0,none⟩) len len,_,I1,_,?_,G2,E1.trans E2,?_⟩
 ·have hlim: ¬(16777216<len*ie.size):=Zo
  have hfill:Instr.fill (fun j=>some (j*ie.size,ie.size)) (Array.map (fun x=>zv.cells[x%zv.cells.size]!) (Array.range (len*ie.size))) us.toList=some cs1:=f1
  by_cases h0:len*ie.size=0
  ·have h00:Array.map (fun x=>zv.cells[x%zv.cells.size]!) (Array.range (len*ie.size))= #[]:=by rw[h0];apply Array.ext';simp
   rw[h00] at hfill
   simp[Instr.buildSlice,run_underlying (A8 he),sizeOf,typeInfo,hi,h0,newRow,Array.range_zero',hfill]
  ·simp[Instr.buildSlice,run_underlying (A8 he),sizeOf,typeInfo,zeroValue,hi,hzz,hlim,h0,newRow,hfill]
 ·simp only[Rep]
  exact⟨Nat.le_refl _,by rw[Ae];exact Nat.le_refl _,fun cells fz hx=>⟨w.heap.size,cs1.size,len,Ae _ _ _,Nat.le_refl _,⟨hmax,by
   have q:=f2.1
   have q2:=Qn hfa
   have q3:=hmk.2.1
   have q4:(madeCells zv.cells (len*ie.size)).toList.length=len*ie.size:=by simp[size_madeCells]
   have q5:cs1.toList.length=cs1.size:=Array.length_toList
   omega⟩,rfl⟩⟩
end
end
section
open Go
section
variable {P:Program}{I K:Nat->Prop}{m:Mp}{hp hp':Hp}{w:World}{k:Nat}
structure CallPost (P:Program)(I:Nat->Prop)(w:World)(ts:List TypeId)(rs:List AV)(u:Value)(w':World):Prop where
 old: ∀b,b<w.heap.size->w'.heap[b]?=w.heap[b]?
 size:w.heap.size<=w'.heap.size
 os:w'.os=w.os
 tape:w'.tape=w.tape
 output:w'.output=w.output
 res: ∃I' us bs,u=retV us/\(∀b,I b->I' b)/\(∀b,I' b->I b\/w.heap.size<=b)/\(∀b,I' b->b<w'.heap.size)/\(∀b∈bs,w.heap.size<=b/\ ¬I' b)/\bs.Nodup/\RepResL P I' w' ts rs us bs
def DatOk (P:Program)(call:Orc):Prop:= ∀f args rs,call.dat f args=some rs->okFn P f=true-> ∀(I:Nat->Prop) (w:World) (us:List Value),(∀b,I b->b<w.heap.size)->GlOk I w->AllR (RepA I w) args us->
 Calls P f ⟨us⟩ w (fun e w'=> ∃u,e= .returned u/\CallPost P I w (rtys P f) rs u w')
def Sim (I K:Nat->Prop)(m:Mp)(hp:Hp)(w:World)(v:AV)(k:Nat)(I0:Nat->Prop)(m0:Mp)(hp0:Hp)(w0:World)(u:Value):Prop:=
 Gam I K m hp w/\Ext I0 K m0 hp0 w0 I m hp w/\Rep k I m hp w v u
def HeapOk (P:Program)(call:Orc):Prop:= ∀k d f args hp v hp',call.hpc k d f args hp=some (v,hp')->okFn P f=true-> ∀(I K:Nat->Prop) (m:Mp) (w:World) (us:List Value),Gam I K m hp w->AllR (Rep k I m hp w) args us->
 Calls P f ⟨us⟩ w (fun e w'=> ∃u,e= .returned u/\ ∃I' m',Sim I' K m' hp' w' v k I m hp w u)
def A4 (P:Program)(call:Orc):Prop:=DatOk P call/\HeapOk P call
def OpR (P:Program)(o:Oper)(a:Act)(w:World)(Post:Value->World->Prop):Prop:=
 match (execOp a.eval o).run P w with
 | .ok (.value u) w'=>Post u w'
 | .ok .skip w'=>Post undef w'
 | .ok (.enter f args) w'=>Calls P f args w' fun e w''=> ∃u,e= .returned u/\Post u w''
 |_=>False
theorem OpR.wp {o:Oper}{a:Act}{Post:Value->World->Prop}(h:OpR P o a w Post){next:Act->World->Prop}{Q:Exit->Act->World->Prop}(hn: ∀u w',Post u w'->next (a.put o.dst u) w'):o.wp P a w next Q:=by
 unfold OpR at h
 unfold Oper.wp
 split at h
 ·rename_i u w' he;rw[he];exact hn _ _ h
 ·rename_i w' he;rw[he];exact hn _ _ h
 ·rename_i f args w' he
  rw[he]
  exact h.mono fun e w'' he2=>by obtain⟨u,rfl,h2⟩:=he2;exact hn _ _ h2
 ·exact h.elim
theorem Eh (G:Gam I K m hp w){fr:Nat->AV}{a:Act}(hf: ∀t,Rep k I m hp w (fr t) (a.eval (.tmp t)))(x:Operand):Rep k I m hp w (opA fr x) (a.eval x):=by
 cases x with
 |tmp t=>exact hf t
 |const v=>
  cases v with
  |agg us=>
   simp only[opA,Rep,Act.eval]
   refine⟨us.toList,rfl,(Ah _ _).2 ⟨Zi,fun j a u h1 h2=>?_⟩⟩
   rw[List.getElem?_map,h2] at h1
   cases h1
   simp only[Rep]
  |_=>simp only[opA,Rep,Act.eval]
 |func f=>
  simp only[opA]
  split
  ·rename_i hlt
   simp only[Rep,Act.eval]
   exact⟨[],by simp[mkFn,hlt],by simp[RepL]⟩
  ·simp only[Rep]
 |global g=>
  simp only[opA]
  cases hg:globT g with
  |none=>simp only[Rep]
  |some vs=>
   obtain⟨g1,g2,_⟩:=G.gl g vs hg
   simp only[Rep,RepD,Act.eval]
   refine⟨g,0,vs,rfl,g1,g2,(A1 _ _).2 ⟨Zi,fun j a u h1 h2=>?_⟩⟩
   rw[List.getElem?_map,h2] at h1
   cases h1
   exact⟨rfl,Ewa hg _ (List.mem_of_getElem? h2)⟩
theorem CallPost.wx {ts:List TypeId}{rs:List AV}{u:Value}{w':World}(h:CallPost P I w ts rs u w'){I0:Nat->Prop}(hi: ∀b,I0 b->b<w.heap.size)(hk: ∀b,K b->b<w.heap.size):WX I0 K w w' where
 keep:=fun b hb=>h.old b (hb.elim (hi b) (hk b))
 size:=h.size
 os:=h.os
 tape:=h.tape
 output:=h.output
theorem Gam.world (G:Gam I K m hp w){w':World}{I':Nat->Prop}(hold: ∀b,b<w.heap.size->w'.heap[b]?=w.heap[b]?)(W:WX I K w w')(hi: ∀b,I b->I' b)(hi2: ∀b,I' b->I b\/w.heap.size<=b)(hi3: ∀b,I' b->b<w'.heap.size):
  Gam I' K m hp w'/\Ext I K m hp w I' m hp w':=by
 have E:Ext I K m hp w I' m hp w':={isub:=hi,keep:=W.keep,size:=W.size,os:=W.os,tape:=W.tape,output:=W.output,gmono:=fun _=>Nat.le_refl _,stable:=fun x _=>(by cases hp x<;>simp<;>exact⟨_,_,⟨rfl,rfl⟩,Nat.le_refl _⟩)}
 refine⟨G.step E (fun _=>False) (fun y _=>⟨rfl,rfl⟩) (fun y h=>h.elim) (fun y _ hl q hq=>hold _ (G.blk hl hq)) (fun y _ hl _ q hq hn hI=>?_) G.inj hi3 (fun b hb hk=>?_),E⟩
 ·rcases hi2 _ hI with h|h
  ·exact hn h
  ·exact Nat.lt_irrefl _ (Nat.lt_of_lt_of_le (G.blk hl hq) h)
 ·rcases hi2 b hb with h|h
  ·exact G.ik b h hk
  ·exact Nat.lt_irrefl _ (Nat.lt_of_lt_of_le (G.klt b hk) h)
theorem RepResL.flat : ∀{ts:List TypeId} {as:List AV} {us:List Value} {bs:List Nat} {J:Nat->Prop} {w':World},as.all C4a=true->RepResL P I w ts as us bs->RepResL P J w' ts as us bs:=by
 have cell: ∀{t:TypeId} {a:AV} {u:Value} {bs:List Nat} {J:Nat->Prop} {w':World} {v:Value},a= .sc v->RepH P I (fun _=>False) w t a u bs->RepH P J (fun _=>False) w' t a u bs:=by
  intro t a u bs J w' v e h
  subst e
  simpa only[RepH,RepD] using h
 have cells: ∀{cts:List TypeId} {as:List AV} {us:List Value} {bs:List Nat} {J:Nat->Prop} {w':World},(as.all fun| .sc _=>true|_=>false)=true->RepHL P I (fun _=>False) w cts as us bs->RepHL P J (fun _=>False) w' cts as us bs:=by
  intro cts as
  induction as generalizing cts with
  |nil=>
   intro us bs J w' _ h
   cases cts<;>exact h
  |cons a as ih=>
   intro us bs J w' hs h
   cases cts with
   |nil=>simp[RepHL] at h
   |cons t ts=>
    simp only[RepHL] at h⊢
    simp only[List.all_cons,Bool.and_eq_true] at hs
    obtain⟨u,us',b1,b2,e1,e2,h1,h2⟩:=h
    refine⟨u,us',b1,b2,e1,e2,?_,ih hs.2 h2⟩
    have ha:=hs.1
    cases a<;>simp at ha
    exact cell rfl h1
 intro ts
 induction ts with
 |nil=>
  intro as us bs J w' hs h
  cases as with
  |nil=>exact h
  |cons a as=>simp[RepResL] at h
 |cons t ts ih=>
  intro as us bs J w' hs h
  cases as with
  |nil=>simp[RepResL] at h
  |cons a as=>
   simp only[RepResL] at h⊢
   simp only[List.all_cons,Bool.and_eq_true] at hs
   obtain⟨u,us',b1,b2,e1,e2,h1,h2⟩:=h
   refine⟨u,us',b1,b2,e1,e2,?_,ih hs.2 h2⟩
   unfold RepRes at h1⊢
   split
   ·rename_i hagg
    rw[if_pos hagg] at h1
    obtain⟨cs,us,e3,e4,h3⟩:=h1
    subst e3
    exact⟨cs,us,rfl,e4,cells hs.1 h3⟩
   ·rename_i hagg
    rw[if_neg hagg] at h1
    have ha:=hs.1
    cases a with
    |sc v=>exact cell rfl h1
    |agg cs=>simp[RepH,RepD] at h1
    |_=>simp[C4a] at ha
theorem call_ok (G:Gam I K m hp w){E:Cfg}{call:Orc}(hC:A4 P call){d f:Nat}{args:List AV}{us:List Value}{v:AV}(hr:AllR (Rep k I m hp w) args us)(h:(callP P E k d call f args).run hp=some (v,hp')):
  okFn P f=true/\Calls P f ⟨us⟩ w (fun e w'=> ∃u,e= .returned u/\ ∃I' m',Sim I' K m' hp' w' v k I m hp w u):=by
 unfold callP at h
 split at h
 case isFalse=>simp[Prog.run] at h
 rename_i hok
 refine⟨hok,?_⟩
 split at h
 ·simp only[Prog.run] at h
  split at h
  ·rename_i v1 hp1 hx
   simp only[Option.some.injEq,Prod.mk.injEq] at h
   obtain⟨rfl,rfl⟩:=h
   exact hC.2 k d f args hp _ _ hx hok I K m w us G hr
  ·cases h
 obtain⟨as,hp1,r1,h2⟩:=Aa h
 clear h
 split at h2
 case h_2=>simp[Prog.run] at h2
 rename_i rs hrs
 split at h2
 case isFalse=>simp[Prog.run] at h2
 rename_i hfl
 cases hflat:Ai P f with
 |false=>
  rw[hflat] at r1
  obtain⟨I1,G1,E1,d1⟩:=K5 G hr r1
  refine(hC.1 f as rs hrs hok I1 w us G1.ilt G1.gl d1).mono fun e w' he=>?_
  obtain⟨u,rfl,hp⟩:=he
  refine⟨u,rfl,?_⟩
  obtain⟨I2,us',bs,rfl,i1,i2,i3,i4,i5,i6⟩:=hp.res
  obtain⟨G2,E2⟩:=G1.world hp.old (hp.wx G1.ilt G1.klt) i1 i2 i3
  obtain⟨m',G3,E3,R3⟩:=Nr G2 i6 (fun b hb hk=>Nat.lt_irrefl _ (Nat.lt_of_lt_of_le (G1.klt b hk) (i4 b hb).1)) i5 (fun b hb ⟨x,q,hx,hq,e⟩=>Nat.lt_irrefl _ (Nat.lt_of_lt_of_le (e▸G1.blk hx hq) (i4 b hb).1)) h2
  exact⟨I2,m',G3,(E1.trans E2).trans E3,R3⟩
 |true=>
  rw[hflat] at r1 hfl
  simp only[Bool.not_true,Bool.false_or] at hfl r1
  obtain⟨e1,d1⟩:=Pg G hr r1
  rw[e1] at h2
  refine(hC.1 f as rs hrs hok _ w us (fun b hb=>hb.elim (G.ilt b) (fun⟨x,q,hx,hq,e⟩=>e▸G.blk hx hq)) (G.gl.mono (fun _ h=> .inl h) (fun _ _=>rfl)) d1).mono fun e w' he=>?_
  obtain⟨u,rfl,hp⟩:=he
  refine⟨u,rfl,?_⟩
  obtain⟨I2,us',bs,rfl,i1,i2,i3,i4,i5,i6⟩:=hp.res
  obtain⟨G2,E2⟩:=G.world hp.old (hp.wx G.ilt G.klt) (fun _ h=>h) (fun _ h=> .inl h) (fun b hb=>Nat.lt_of_lt_of_le (G.ilt b hb) hp.size)
  obtain⟨m',G3,E3,R3⟩:=Nr G2 (i6.flat hfl) (fun b hb hk=>Nat.lt_irrefl _ (Nat.lt_of_lt_of_le (G.klt b hk) (i4 b hb).1)) i5 (fun b hb ⟨x,q,hx,hq,e⟩=>Nat.lt_irrefl _ (Nat.lt_of_lt_of_le (e▸G.blk hx hq) (i4 b hb).1)) h2
  exact⟨I,m',G3,E2.trans E3,R3⟩
/-! ### one operation -/
theorem Ao {o:Oper}{a:Act}{Post:Value->World->Prop}{u:Value}{w':World}(h:(execOp a.eval o).run P w= .ok (.value u) w')(hp:Post u w'):OpR P o a w Post:=by
 unfold OpR;rw[h];exact hp
theorem Oc {o:Oper}{a:Act}{Post:Value->World->Prop}{w':World}(h:(execOp a.eval o).run P w= .ok .skip w')(hp:Post undef w'):OpR P o a w Post:=by
 unfold OpR;rw[h];exact hp
theorem Gsa (G:Gam I K m hp w){y:Nm}(hy:y.d<=k){t:TypeId}{a v:AV}{u:Value}(hr:Rep k I m hp w a u)(h:(assignP P y t a).run hp=some (v,hp')):
  ∃I' m',Sim I' K m' hp' w v k I m hp w u:=by
 unfold assignP at h
 split at h
 ·simp only[Rep] at hr
  subst hr
  split at h
  ·rename_i e he
   simp only[newArr,Prog.run,Option.some.injEq,Prod.mk.injEq] at h
   obtain⟨rfl,rfl⟩:=h
   obtain⟨G2,E2⟩:=G.virt y (P.cellsOf e) e
   refine⟨I,_,G2,E2,?_⟩
   simp only[Rep]
   refine⟨hy,by rw[Ae];exact Nat.le_refl _,fun sz e' rows' fz hx=>?_⟩
   rw[Ae] at hx
   cases hx
   exact⟨Nat.le_refl _,.inl ⟨Ae _ _ _,trivial,rfl⟩⟩
  ·simp[Prog.run] at h
 ·simp only[Prog.run,Option.some.injEq,Prod.mk.injEq] at h
  obtain⟨rfl,rfl⟩:=h
  exact⟨I,m,G,.refl _ _ _ _ _,hr⟩
theorem Oa (G:Gam I K m hp w){fr:Nat->AV}{a:Act}(hf: ∀t,Rep k I m hp w (fr t) (a.eval (.tmp t))): ∀{l:List (Nat×Operand)} {x:Unit} {hp1:Hp},(chkL (l.map fun p=>opA fr p.2)).run hp=some (x,hp1)->
  hp1=hp/\PartsR k I m hp w (l.map fun p=>(p.1,opA fr p.2)) (l.map fun p=>(p.1,a.eval p.2))
 |[],x,hp1,h=>by
  simp only[List.map_nil,chkL,Prog.run,Option.some.injEq,Prod.mk.injEq] at h
  exact⟨h.2.symm,trivial⟩
 |p::l,x,hp1,h=>by
  simp only[List.map_cons,chkL] at h
  obtain⟨_,hp2,r1,h2⟩:=Aa h
  obtain⟨e1,hc,_⟩:=Dj r1 (Eh G hf p.2)
  rw[e1] at h2
  obtain⟨e2,hp⟩:=Oa G hf h2
  exact⟨e2,rfl,hc,hp⟩
theorem Gxa {t:TypeId}{z:List Value}(h:zeros P t=some z): ∃i v,P.info? t=some i/\i.zero=some v/\z=v.cells.toList:=by
 unfold zeros at h
 cases hi:P.info? t with
 |none=>simp[hi] at h
 |some i=>
  cases hz:i.zero with
  |none=>simp[hi,hz] at h
  |some v=>simp[hi,hz] at h;exact⟨i,v,rfl,hz,h.symm⟩
theorem Xa {P:Program}(w:World)(ts:Array TypeId)(t:TypeId)(k k':IntKind)(x y:Int):
  (Builtin.max_ ts t #[.int k x,.int k' y]).run P w= .ok (.int k (max x y)) w:=by
 have e:(if y>x then y else x)=max x y:=by
  rw[Int.max_def]
  split<;>split<;>omega
 simp[Builtin.max_,Builtin.max2,e]
theorem W9 {P:Program}(w:World)(ts:Array TypeId)(t:TypeId)(k k':IntKind)(x y:Int):
  (Builtin.min_ ts t #[.int k x,.int k' y]).run P w= .ok (.int k (min x y)) w:=by
 have e:(if y<x then y else x)=min x y:=by
  rw[Int.min_def]
  split<;>split<;>omega
 simp[Builtin.min_,Builtin.min2,e]
theorem Jw : ∀{cs:List AV} {us us':List Value},scalars cs=some us'->RepL k I m hp w cs us->us'=us
 |[],us,us',h,hr=>by
  simp only[scalars,Option.some.injEq] at h
  simp only[RepL] at hr
  rw[<-h,hr]
 |c::cs,us,us',h,hr=>by
  simp only[RepL] at hr
  obtain⟨v,vs,rfl,h1,h2⟩:=hr
  unfold scalars at h
  split at h
  ·rename_i heq;cases heq
  ·rename_i v' cs' heq
   cases heq
   cases hs:scalars cs with
   |none=>rw[hs] at h;cases h
   |some us2=>
    rw[hs] at h
    simp only[Option.map_some,Option.some.injEq] at h
    simp only[Rep] at h1
    rw[<-h,h1,Jw hs h2]
  ·rename_i f cs' heq
   cases heq
   cases hs:scalars cs with
   |none=>rw[hs] at h;cases h
   |some us2=>
    rw[hs] at h
    simp only[Option.map_some,Option.some.injEq] at h
    simp only[Rep] at h1
    obtain⟨us3,h1,h3⟩:=h1
    simp only[RepL] at h3
    subst h3
    rw[<-h,h1,Jw hs h2]
  ·cases h
theorem evOp_ok {E:Cfg}(hE:ELaw P E){call:Orc}(hC:A4 P call)(G:Gam I K m hp w){fr:Nat→AV}{a:Act}(hf: ∀t,Rep k I m hp w (fr t) (a.eval (.tmp t))){o:Oper}{v:AV}
  (h:(evOp P E k call fr o).run hp=some (v,hp')):OpR P o a w (fun u w'=> ∃I' m',Sim I' K m' hp' w' v k I m hp w u):=by
 have hop:=Eh G hf
 obtain⟨dst,op,type,pos,after,guard⟩:=o
 unfold evOp at h
 cases op<;>simp only at h
 case move x=>
  simp only[Prog.run,Option.some.injEq,Prod.mk.injEq] at h
  obtain⟨rfl,rfl⟩:=h
  exact Ao (by simp[execOp]) ⟨I,m,G,.refl _ _ _ _ _,hop x⟩
 case assign x=>
  exact Ao (by simp[execOp]) (Gsa G (Nat.le_refl k) (hop x) h)
 case pick c x y=>
  have hc:=hop c
  split at h
  ·rename_i t hct
   rw[hct] at hc
   simp only[Rep] at hc
   simp only[Prog.run,Option.some.injEq,Prod.mk.injEq] at h
   obtain⟨rfl,rfl⟩:=h
   refine Ao (u:=if t then a.eval x else a.eval y) (w':=w) (by simp[execOp,hc,asBool]) ⟨I,m,G,.refl _ _ _ _ _,?_⟩
   cases t
   ·exact hop y
   ·exact hop x
  ·simp[Prog.run] at h
 case alloc t=>
  split at h
  ·rename_i z hz
   obtain⟨i,zv,hi,hzz,rfl⟩:=Gxa hz
   obtain⟨I',m',G',E',R'⟩:=Qb (D:=k) (us:=zv.cells.toList) G ⟨Zi,fun j a u h1 h2=>by rw[List.getElem?_map,h2] at h1;cases h1;simp only[Rep]⟩ h
   exact Ao (by simp[execOp,Instr.alloc,zeroValue,typeInfo,hi,hzz,newVar,newRow]) ⟨I',m',G',E',R'⟩
  ·simp[Prog.run] at h
 case box t x=>
  obtain⟨_,hp1,r1,h2⟩:=Aa h
  obtain⟨e1,hc,_⟩:=Dj r1 (hop x)
  rw[e1] at h2
  obtain⟨I',m',G',E',R'⟩:=Qb G hc h2
  exact Ao (by simp[execOp,Instr.box,newVar,newRow]) ⟨I',m',G',E',R'⟩
 case build t parts=>
  obtain⟨_,hp1,r1,h2⟩:=Aa h
  obtain⟨e1,hpr⟩:=Oa G hf r1
  rw[e1] at h2
  obtain⟨e2,u',hrun,hrep⟩:=Mma (us:=parts.map fun p=>(p.1,a.eval p.2)) (by simpa using hpr) h2
  subst e2
  exact Ao (by simp[execOp,hrun]) ⟨I,m,G,.refl _ _ _ _ _,hrep⟩
 case buildSlice t n parts=>
  obtain⟨_,hp1,r1,h2⟩:=Aa h
  obtain⟨e1,hpr⟩:=Oa G hf r1
  rw[e1] at h2
  split at h2
  ·obtain⟨u',w',I',m',hrun,G',E',hrep⟩:=V8 (us:=parts.map fun p=>(p.1,a.eval p.2)) G (by simpa using hpr) h2
   exact Ao (by simp[execOp,hrun]) ⟨I',m',G',E',hrep⟩
  ·obtain⟨u',w',I',m',hrun,G',E',hrep⟩:=Px (us:=parts.map fun p=>(p.1,a.eval p.2)) G (Nat.le_refl k) (by simpa using hpr) h2
   exact Ao (by simp[execOp,hrun]) ⟨I',m',G',E',hrep⟩
 case makeFunc fn first caps=>
  cases fn with
  |func f=>
   have hcap: ∀xs:Array Operand,RepL k I m hp w (xs.toList.map (opA fr)) (xs.toList.map a.eval):=fun xs=>(Ah _ _).2 ⟨Zi,fun j x u h1 h2=>by
    rw[List.getElem?_map] at h1 h2
    cases hj:xs.toList[j]? with
    |none=>rw[hj] at h1;cases h1
    |some z=>rw[hj] at h1 h2;cases h1;cases h2;exact hop z⟩
   simp only at h
   split at h
   ·rename_i hlt
    split at h
    ·rename_i he
     simp only[Prog.run,Option.some.injEq,Prod.mk.injEq] at h
     obtain⟨rfl,rfl⟩:=h
     obtain rfl:first= #[]:=Array.isEmpty_iff.1 he
     refine Ao (u:= .func (.func f) #[] (caps.map a.eval)) (w':=w) (by simp[execOp,Instr.makeFunc]) ⟨I,m,G,.refl _ _ _ _ _,?_⟩
     simp only[Rep]
     refine⟨caps.toList.map a.eval,?_,hcap caps⟩
     simp only[mkFn,if_pos hlt]
     congr 1;apply Array.ext';simp
    ·split at h
     ·rename_i he
      simp only[Prog.run,Option.some.injEq,Prod.mk.injEq] at h
      obtain⟨rfl,rfl⟩:=h
      obtain rfl:caps= #[]:=Array.isEmpty_iff.1 he
      refine Ao (u:= .func (.func f) (first.map a.eval) #[]) (w':=w) (by simp[execOp,Instr.makeFunc]) ⟨I,m,G,.refl _ _ _ _ _,?_⟩
      simp only[Rep]
      refine⟨first.toList.map a.eval,?_,hcap first⟩
      have hn: ¬((f:Nat)+1000000<1000000):=Nat.not_lt.2 (Nat.le_add_left 1000000 f)
      simp only[mkFn,if_neg hn,Nat.add_sub_cancel]
      congr 1;apply Array.ext';simp
     ·simp[Prog.run] at h
   ·simp[Prog.run] at h
  |_=>simp only at h;simp[Prog.run] at h
 case load t x=>
  obtain⟨rfl,u',hrun,hrep⟩:=Sd P G (hop x) h
  exact Ao (by simp[execOp,hrun]) ⟨I,m,G,.refl _ _ _ _ _,hrep⟩
 case store t x y=>
  split at h
  ·rename_i hi
   obtain⟨_,hp1,r1,h2⟩:=Aa h
   obtain⟨e1,hc,_⟩:=Dj r1 (hop y)
   rw[e1] at h2
   obtain⟨rfl,w',I',m',hrun,G',E'⟩:=Hfa G (hop x) hc h2 hi
   exact Oc (by simp[execOp,hrun]) ⟨I',m',G',E',by simp only[Rep]⟩
  ·simp[Prog.run] at h
 case makeMap t r=>
  cases r with
  |some r=>simp only at h;simp[Prog.run] at h
  |none=>
   simp only at h
   split at h
   ·simp only[Prog.run,Option.some.injEq,Prod.mk.injEq] at h
    obtain⟨rfl,rfl⟩:=h
    obtain⟨m',G',E',hrep⟩:=Xk (k:=k) G (y:=⟨k,E.off+dst.getD 0,0⟩) (Nat.le_refl k)
    exact Ao (by simp[execOp,Instr.makeMap]) ⟨I,m',G',E',hrep⟩
   ·simp[Prog.run] at h
 case lookup t x i ok=>
  obtain⟨rfl,u',hrun,hrep⟩:=Ela G (hop x) (hop i) h
  exact Ao (by simp[execOp,hrun]) ⟨I,m,G,.refl _ _ _ _ _,hrep⟩
 case mapUpdate t x i y=>
  obtain⟨_,hp1,r1,h2⟩:=Aa h
  obtain⟨e1,hc,us,hu,hu2⟩:=Dj r1 (hop y)
  rw[e1] at h2
  obtain⟨rfl,w',I',m',hrun,G',E'⟩:=Qk G (hop x) (hop i) hc ⟨us,hu⟩ hu2 h2
  exact Oc (by simp[execOp,hrun]) ⟨I',m',G',E',by simp only[Rep]⟩
 case insert t x i y=>
  obtain⟨_,hp1,r1,h2⟩:=Aa h
  obtain⟨e1,hc,us,hu,hu2⟩:=Dj r1 (hop y)
  rw[e1] at h2
  obtain⟨rfl,w',I',m',hrun,G',E'⟩:=Qk G (hop x) (hop i) hc ⟨us,hu⟩ hu2 h2
  exact Oc (by simp[execOp,hrun]) ⟨I',m',G',E',by simp only[Rep]⟩
 case makeInterface t x=>
  split at h
  case isFalse=>simp[Prog.run] at h
  rename_i hni
  have hrun: ∀u,(Instr.makeInterface t u).run P w= .ok (.iface t u) w:=fun u=>by
   unfold Oe at hni
   cases hu:P.underlying t with
   |none=>rw[hu] at hni;cases hni
   |some d=>
    rw[hu] at hni
    cases d<;>first|(simp at hni;done)|simp[Instr.makeInterface,run_underlying hu]
  have hx:=hop x
  split at h
  ·rename_i v' hv
   rw[hv] at hx
   simp only[Rep] at hx
   simp only[Prog.run,Option.some.injEq,Prod.mk.injEq] at h
   obtain⟨rfl,rfl⟩:=h
   exact Ao (u:= .iface t v') (w':=w) (by simp[execOp,hx,hrun]) ⟨I,m,G,.refl _ _ _ _ _,by simp only[Rep]⟩
  ·rename_i cs hv
   rw[hv] at hx
   simp only[Rep] at hx
   obtain⟨us,hu,hx⟩:=hx
   split at h
   ·rename_i us' hs
    simp only[Prog.run,Option.some.injEq,Prod.mk.injEq] at h
    obtain⟨rfl,rfl⟩:=h
    have:=Jw hs hx
    subst this
    exact Ao (u:= .iface t (.agg ⟨us'⟩)) (w':=w) (by simp[execOp,hu,hrun]) ⟨I,m,G,.refl _ _ _ _ _,by simp only[Rep]⟩
   ·simp[Prog.run] at h
  ·simp[Prog.run] at h
 case nilCheck x=>
  obtain⟨rfl,b,o,hu,hrep⟩:=Nz (hop x) h
  exact Ao (u:=a.eval x) (w':=w) (by simp[execOp,hu]) ⟨I,m,G,.refl _ _ _ _ _,by rw[hu];simpa using hrep⟩
 case binOp op t x y p=>
  split at h
  ·rename_i v' hv
   simp only[Prog.run,Option.some.injEq,Prod.mk.injEq] at h
   obtain⟨rfl,rfl⟩:=h
   obtain⟨r,hrun,hrep⟩:=bin_ok (x:=x) (y:=y) hE.1 (hop x) (hop y) hv
   refine Ao (u:=r) (w':=w) ?_ ⟨I,m,G,.refl _ _ _ _ _,hrep⟩
   show((do let x←(do eqGuard op t x y (a.eval x) (a.eval y);Go.binOp op t (a.eval x) (a.eval y):Sem Value);pure (Next.value x)):Sem Next).run P w=_
   rw[Sem.run_bind,hrun]
   rfl
  ·simp[Prog.run] at h
 case unOp op t x=>
  split at h
  ·rename_i v' hv
   simp only[Prog.run,Option.some.injEq,Prod.mk.injEq] at h
   obtain⟨rfl,rfl⟩:=h
   obtain⟨r,hrun,hrep⟩:=un_ok (P:=P) (hop x) hv
   exact Ao (u:=r) (w':=w) (by simp[execOp,hrun]) ⟨I,m,G,.refl _ _ _ _ _,hrep⟩
  ·simp[Prog.run] at h
 case convert s d x=>
  obtain⟨u',w',m',hrun,G',E',hrep⟩:=X6 G (Nat.le_refl k) (hop x) h
  exact Ao (by simp[execOp,hrun]) ⟨I,m',G',E',hrep⟩
 case makeSlice t l c=>
  split at h
  ·obtain⟨u',w',m',hrun,G',E',hrep⟩:=Kqa G (hop l) (hop c) h
   exact Ao (by simp[execOp,hrun]) ⟨I,m',G',E',hrep⟩
  ·obtain⟨u',w',m',hrun,G',E',hrep⟩:=make_ok G (Nat.le_refl k) (hop l) (hop c) h
   exact Ao (by simp[execOp,hrun]) ⟨I,m',G',E',hrep⟩
 case slice t x lo hi mx=>
  have ho: ∀z:Option Operand,oRep k I m hp w (z.map (opA fr)) (z.map a.eval):=fun z=>by
   cases z with
   |none=>trivial
   |some z=>exact hop z
  obtain⟨I',u',hrun,G',E',hrep⟩:=Hia G (hop x) (ho lo) (ho hi) (ho mx) h
  exact Ao (by simp only[execOp,Sem.run_bind,hrun];rfl) ⟨I',m,G',E',hrep⟩
 case fieldAddr s x f=>
  obtain⟨rfl,u',hrun,hrep⟩:=Lua (hop x) h
  exact Ao (by simp[execOp,hrun]) ⟨I,m,G,.refl _ _ _ _ _,hrep⟩
 case field t x f=>
  obtain⟨rfl,u',hrun,hrep⟩:=E0a (hop x) h
  exact Ao (by simp[execOp,hrun]) ⟨I,m,G,.refl _ _ _ _ _,hrep⟩
 case indexAddr t x i=>
  obtain⟨rfl,u',hrun,hrep⟩:=Lga (hop x) (hop i) h
  exact Ao (by simp[execOp,hrun]) ⟨I,m,G,.refl _ _ _ _ _,hrep⟩
 case index t x i=>
  obtain⟨rfl,u',hrun,hrep⟩:=Era (hop x) (hop i) h
  exact Ao (by simp[execOp,hrun]) ⟨I,m,G,.refl _ _ _ _ _,hrep⟩
 case extract t i=>
  have hx:=hop t
  split at h
  ·rename_i vs hvs
   rw[hvs] at hx
   simp only[Rep] at hx
   obtain⟨us,hu,hall⟩:=hx
   split at h
   ·rename_i v' hv
    simp only[Prog.run,Option.some.injEq,Prod.mk.injEq] at h
    obtain⟨rfl,rfl⟩:=h
    obtain⟨u,h1,h2⟩:=((Ah _ _).1 hall).get hv
    exact Ao (u:=u) (w':=w) (by simp[execOp,hu,Instr.extract,h1]) ⟨I,m,G,.refl _ _ _ _ _,h2⟩
   ·simp[Prog.run] at h
  ·simp[Prog.run] at h
 case call c=>
  obtain⟨callee,args,argTypes⟩:=c
  simp only at h
  split at h
  ·rename_i x t e2 e3
   have e2':args= #[x]:=Array.ext' e2
   have e3':argTypes= #[t]:=Array.ext' e3
   subst e2' e3'
   obtain⟨rfl,u',hrun,hrep⟩:=len_ok (ty:=type) (hop x) h
   exact Ao (by simp[execOp,resolve,invoke,builtin,hrun]) ⟨I,m,G,.refl _ _ _ _ _,hrep⟩
  ·rename_i s x t t' e2 e3
   have e2':args= #[s,x]:=Array.ext' e2
   have e3':argTypes= #[t,t']:=Array.ext' e3
   subst e2' e3'
   obtain⟨u',w',m',hrun,G',E',hrep⟩:=Gta (ty:=type) G (Nat.le_refl k) (hop s) (hop x) h
   exact Ao (by simp[execOp,resolve,invoke,builtin,hrun]) ⟨I,m',G',E',hrep⟩
  ·rename_i s x t t' e2 e3
   have e2':args= #[s,x]:=Array.ext' e2
   have e3':argTypes= #[t,t']:=Array.ext' e3
   subst e2' e3'
   obtain⟨u',w',hrun,G',E',hrep⟩:=copy_ok (t':=t') (ty:=type) G (hop s) (hop x) h
   exact Ao (by simp[execOp,resolve,invoke,builtin,hrun]) ⟨I,m,G',E',hrep⟩
  ·rename_i _ x y e2
   have e2':args= #[x,y]:=Array.ext' e2
   subst e2'
   split at h
   ·rename_i kd n kd' n' hx hy
    have h1:=hop x
    have h2:=hop y
    rw[hx] at h1
    rw[hy] at h2
    simp only[Rep] at h1 h2
    simp only[Prog.run,Option.some.injEq,Prod.mk.injEq] at h
    obtain⟨rfl,rfl⟩:=h
    refine Ao (u:= .int kd (min n n')) ?_ ⟨I,m,G,.refl _ _ _ _ _,by simp only[Rep]⟩
    have hrun:=fun ts t=>W9 (P:=P) w ts t kd kd' n n'
    simp[execOp,resolve,invoke,builtin,h1,h2,hrun]
   ·simp[Prog.run] at h
  ·rename_i _ x y e2
   have e2':args= #[x,y]:=Array.ext' e2
   subst e2'
   split at h
   ·rename_i kd n kd' n' hx hy
    have h1:=hop x
    have h2:=hop y
    rw[hx] at h1
    rw[hy] at h2
    simp only[Rep] at h1 h2
    simp only[Prog.run,Option.some.injEq,Prod.mk.injEq] at h
    obtain⟨rfl,rfl⟩:=h
    refine Ao (u:= .int kd (max n n')) ?_ ⟨I,m,G,.refl _ _ _ _ _,by simp only[Rep]⟩
    have hrun:=fun ts t=>Xa (P:=P) w ts t kd kd' n n'
    simp[execOp,resolve,invoke,builtin,h1,h2,hrun]
   ·simp[Prog.run] at h
  ·rename_i x
   split at h
   case h_3=>simp[Prog.run] at h
   case h_2=>rename_i l _ _ _;rw[if_neg (by rw[hE.2 l];simp)] at h;simp[Prog.run] at h
   rename_i f cs hx
   have hxr:=hop x
   rw[hx] at hxr
   simp only[Rep] at hxr
   obtain⟨us,hu,hcs⟩:=hxr
   have hall0:AllR (Rep k I m hp w) (args.toList.map (opA fr)) (args.toList.map a.eval):=by
    refine⟨Zi,fun j x u h1 h2=>?_⟩
    rw[List.getElem?_map] at h1 h2
    cases hj:args.toList[j]? with
    |none=>rw[hj] at h1;cases h1
    |some z=>rw[hj] at h1 h2;cases h1;cases h2;exact hop z
   obtain⟨vs,hall,hvs⟩: ∃vs,AllR (Rep k I m hp w) (fnA f (args.toList.map (opA fr)) cs) vs∧(⟨vs⟩:Array Value)=(if f<1000000 then #[] else⟨us⟩)++args.map a.eval++(if f<1000000 then⟨us⟩ else #[]):=by
    unfold fnA
    by_cases hlt:f<1000000
    ·simp only[if_pos hlt]
     exact⟨_,hall0.append ((Ah _ _).1 hcs),by apply Array.ext';simp⟩
    ·simp only[if_neg hlt]
     exact⟨_,((Ah _ _).1 hcs).append hall0,by apply Array.ext';simp⟩
   obtain⟨hok,hcalls⟩:=call_ok G hC hall h
   rw[hvs] at hcalls
   clear hvs hall h
   have hu2:a.eval x= .func (.func (fnN f)) (if f<1000000 then #[] else⟨us⟩) (if f<1000000 then⟨us⟩ else #[]):=hu
   generalize (if f<1000000 then(#[]:Array Value) else⟨us⟩)=FA at hu2 hcalls
   generalize (if f<1000000 then(⟨us⟩:Array Value) else #[])=FB at hu2 hcalls
   generalize fnN f=F at hu2 hcalls hok
   unfold okFn at hok
   split at hok
   ·rename_i fn hfn
    simp only[Bool.and_eq_true,Bool.not_eq_true'] at hok
    have hrun:(execOp a.eval ⟨dst,.call ⟨.value x,args,argTypes⟩,type,pos,after,guard⟩).run P w= .ok (.enter F (FA++args.map a.eval++FB)) w:=by
     have hb:fn.body≠none:=fun hq=>by simp[hq] at hok
     have hnm:fn.name≠ "runtime.NumGoroutine" :=by simpa using hok.2
     simp[execOp,resolve,hu2,Deferred.ofValue,invoke,callFunc,hfn,hnm,hb]
    unfold OpR
    rw[hrun]
    exact hcalls
   ·cases hok
  ·simp[Prog.run] at h
 all_goals simp[Prog.run] at h
end
end
section
open Go
structure Base where
 I:Nat->Prop
 m:Mp
 hp:Hp
 w:World
 df:List Deferred
def StR (k N:Nat)(K:Nat->Prop)(B:Base)(st:AS)(a:Act)(w:World):Prop:=
 ∃I m,Gam I K m st.hp w/\Ext B.I K B.m B.hp B.w I m st.hp w/\(∀t,Rep k I m st.hp w (st.fr t) (a.eval (.tmp t)))/\a.tmps.size=N/\a.defers=B.df
section
variable {P:Program}{K:Nat->Prop}{k N:Nat}{B:Base}{E:Cfg}{call:Orc}
theorem Kp (a:Act)(d:Option Nat)(u:Value):(a.put d u).tmps.size=a.tmps.size:=by cases d<;>simp[Act.put]
theorem Jz (a:Act)(d:Option Nat)(u:Value):(a.put d u).defers=a.defers:=by cases d<;>rfl
theorem T8 (a:Act)(d:Nat)(u:Value)(t:Nat)(hd:d<a.tmps.size):(a.put (some d) u).eval (.tmp t)=if t=d then u else a.eval (.tmp t):=by
 by_cases h:t=d
 ·subst h
  simp[Act.put,Act.eval,hd]
 ·have h':d≠t:=fun e=>h e.symm
  simp[Act.put,Act.eval,h,Array.getElem?_setIfInBounds_ne h']
theorem Rx {I:Nat->Prop}{m:Mp}{hp:Hp}{w:World}{fr:Nat->AV}{a:Act}{d:Option Nat}{v:AV}{u:Value}(hf: ∀t,Rep k I m hp w (fr t) (a.eval (.tmp t)))(hv:Rep k I m hp w v u)(hd: ∀x,d=some x->x<a.tmps.size):
  ∀t,Rep k I m hp w (setd fr d v t) ((a.put d u).eval (.tmp t)):=by
 intro t
 cases d with
 |none=>exact hf t
 |some d=>
  rw[T8 a d u t (hd d rfl)]
  simp only[setd]
  split
  ·exact hv
  ·exact hf t
theorem StR.op (hE:ELaw P E)(hC:A4 P call){st:AS}{a:Act}{w:World}(S:StR k N K B st a w){o:Oper}{v:AV}{hp':Hp}(hd: ∀x,o.dst=some x->x<N)(h:(evOp P E k call st.fr o).run st.hp=some (v,hp')):
  OpR P o a w (fun u w'=>StR k N K B ⟨setd st.fr o.dst v,hp'⟩ (a.put o.dst u) w'):=by
 obtain⟨I,m,G,E0,hf,hs,hdf⟩:=S
 have:=evOp_ok hE hC G hf h
 unfold OpR at this⊢
 have key: ∀u w',(∃I' m',Sim I' K m' hp' w' v k I m st.hp w u)->StR k N K B ⟨setd st.fr o.dst v,hp'⟩ (a.put o.dst u) w':=by
  rintro u w' ⟨I',m',G',E',R'⟩
  exact⟨I',m',G',E0.trans E',Rx (fun t=>Rep.mono E' _ _ _ (hf t)) R' (fun x hx=>by rw[hs];exact hd x hx),by rw[Kp];exact hs,by rw[Jz];exact hdf⟩
 split at this
 ·exact key _ _ this
 ·exact key _ _ this
 ·exact this.mono fun e w' he=>by obtain⟨u,e1,h2⟩:=he;exact⟨u,e1,key _ _ h2⟩
 ·exact this.elim
theorem StR.skip {st:AS}{a:Act}{w:World}(S:StR k N K B st a w){d:Option Nat}(hd: ∀x,d=some x->x<N):StR k N K B ⟨setd st.fr d (.sc undef),st.hp⟩ (a.put d undef) w:=by
 obtain⟨I,m,G,E0,hf,hs,hdf⟩:=S
 exact⟨I,m,G,E0,Rx hf (by simp only[Rep]) (fun x hx=>by rw[hs];exact hd x hx),by rw[Kp];exact hs,by rw[Jz];exact hdf⟩
theorem StR.guard {st:AS}{a:Act}{w:World}(S:StR k N K B st a w){all:Array Oper}{o:Oper}{b:Bool}(h:guardA all st.fr o=some b):Region.wanted o (yielded all a.tmps)=b:=by
 obtain⟨I,m,G,E0,hf,hs,hdf⟩:=S
 unfold guardA at h
 unfold Region.wanted
 split at h
 ·rename_i hg;rw[hg];simpa using h
 ·rename_i j want hg
  rw[hg]
  simp only
  split at h
  ·rename_i d hd
   have hr:=hf d
   unfold yielded
   rw[hd]
   simp only[Option.bind_some]
   simp only[Act.eval,Array.getD_eq_getD_getElem?] at hr
   split at h
   ·rename_i c hc
    rw[hc] at hr
    simp only[Rep] at hr
    cases ht:a.tmps[d]? with
    |none=>rw[ht] at hr;simp[undef] at hr
    |some u=>
     rw[ht] at hr
     simp only[Option.getD_some] at hr
     subst hr
     simp only[Option.some.injEq] at h
     rw[<-h]
     cases c<;>cases want<;>rfl
   ·rename_i c hc
    rw[hc] at hr
    simp only[Rep] at hr
    simp only[Option.some.injEq] at h
    rw[<-h]
    cases ht:a.tmps[d]? with
    |none=>rfl
    |some u=>
     rw[ht] at hr
     simp only[Option.getD_some] at hr
     subst hr
     rfl
   ·cases h
  ·cases h
theorem On (hE:ELaw P E)(hC:A4 P call){all:Array Oper}{Q:Exit->Act->World->Prop}: ∀(os:List Oper) (n:Nat) {st st':AS} {a:Act} {w:World},(∀j,os[j]?=all[n+j]?)->(∀o∈os,∀x,o.dst=some x->x<N)->
  StR k N K B st a w->evOps P E k call all os st=some st'->(∀a' w',StR k N K B st' a' w'->Q .normal a' w')->wpOps P all Q (List.range' n os.length) a w
 |[],n,st,st',a,w,_,_,S,h,hQ=>by
  simp only[evOps,Option.some.injEq] at h
  subst h
  exact hQ a w S
 |o::os,n,st,st',a,w,hl,hd,S,h,hQ=>by
  have h0:all[n]?=some o:=by simpa using(hl 0).symm
  have hl': ∀j,os[j]?=all[n+1+j]?:=fun j=>by have:=hl (j+1);simpa[Nat.add_assoc,Nat.add_comm 1 j] using this
  have hd': ∀o∈os,∀x,o.dst=some x->x<N:=fun p hp=>hd p (List.mem_cons_of_mem _ hp)
  have hdo:=hd o (List.mem_cons_self ..)
  simp only[evOps] at h
  simp only[List.length_cons,List.range'_succ,wpOps,h0]
  split at h
  ·rename_i hg
   rw[S.guard hg,if_pos rfl]
   split at h
   ·rename_i v hp hr
    refine .inl ((S.op hE hC hdo hr).wp fun u w' S'=>?_)
    exact On hE hC os (n+1) hl' hd' S' h hQ
   ·cases h
  ·rename_i hg
   rw[S.guard hg]
   simp only[Bool.false_eq_true,if_false]
   exact On hE hC os (n+1) hl' hd' (S.skip hdo) h hQ
  ·cases h
theorem T6 (hE:ELaw P E)(hC:A4 P call){all:Array Oper}{Q:Exit->Act->World->Prop}{st st':AS}{a:Act}{w:World}{id:Nat}(hd: ∀o∈all.toList,∀x,o.dst=some x->x<N)(S:StR k N K B st a w)(h:evOps P E k call all all.toList st=some st')(hQ: ∀a' w',StR k N K B st' a' w'->Q .normal a' w'):
  (Code.region id all false).wp P Q a w:=by
 refine wp_region ?_
 have:=On hE hC (Q:=Q) all.toList 0 Zi hd S h hQ
 rwa [Array.length_toList,<-List.range_eq_range'] at this
end
end
section
open Go
def AgF (hp hp':Hp):Facet->Prop
 | .all x=>hp x=hp' x
 | .hd x=>(hp x).head=(hp' x).head
 | .cl x off=>cellOf (hp x) off=cellOf (hp' x) off
 | .top=>hp=hp'
 | .but _=>True
theorem Ke {o o':AObj}{off:Nat}{v:AV}(h:setCellOf o off v=some o'):o'.head=o.head:=by
 cases o with
 |box g c f=>
  simp only[setCellOf] at h
  split at h
  ·cases h;simp[AObj.head]
  ·cases h
 |no g=>simp[setCellOf] at h
 |arr g sz e rows f=>simp[setCellOf] at h
 |map g ag ks rows f=>simp[setCellOf] at h
theorem Du {o o':AObj}{off:Nat}{v:AV}(h:setCellOf o off v=some o')(off':Nat):cellOf o' off'=if off'=off then some v else cellOf o off':=by
 cases o with
 |box g c f=>
  simp only[setCellOf] at h
  split at h
  ·rename_i hl
   cases h
   simp only[cellOf]
   by_cases e:off'=off
   ·subst e;simp[hl]
   ·rw[if_neg e,List.getElem?_set_ne (fun h=>e h.symm)]
  ·cases h
 |no g=>simp[setCellOf] at h
 |arr g sz e rows f=>simp[setCellOf] at h
 |map g ag ks rows f=>simp[setCellOf] at h
theorem W8 {o o1 p:AObj}{off:Nat}{v:AV}(h:setCellOf o off v=some o1)(hh:o.head=p.head): ∃p1,setCellOf p off v=some p1:=by
 cases o with
 |box g c f=>
  simp only[setCellOf] at h
  split at h
  ·rename_i hl
   cases p with
   |box g' c' f'=>
    simp only[AObj.head,Head.box.injEq] at hh
    exact⟨_,by simp only[setCellOf];rw[if_pos Zo]⟩
   |no g'=>simp[AObj.head] at hh
   |arr g' sz e rows f'=>simp[AObj.head] at hh
   |map g' ag ks rows f'=>simp[AObj.head] at hh
  ·cases h
 |no g=>simp[setCellOf] at h
 |arr g sz e rows f=>simp[setCellOf] at h
 |map g ag ks rows f=>simp[setCellOf] at h
section
variable {α:Type}
theorem Bx : ∀(p:Prog α) {hp hp1:Hp} {R W R1 W1:List Facet} {v:α},p.runF hp R W=some (v,hp1,R1,W1)->(∀f∈R,f∈R1)/\(∀f∈W,f∈W1)
 | .ret a,hp,hp1,R,W,R1,W1,v,h=>by
  simp only[Prog.runF,Option.some.injEq,Prod.mk.injEq] at h
  obtain⟨_,_,rfl,rfl⟩:=h
  exact⟨fun _ h=>h,fun _ h=>h⟩
 | .get x k,hp,hp1,R,W,R1,W1,v,h=>by
  simp only[Prog.runF] at h
  have:=Bx (k (hp x)) h
  exact⟨fun f hf=>this.1 f (List.mem_cons_of_mem _ hf),this.2⟩
 | .put x o k,hp,hp1,R,W,R1,W1,v,h=>by
  simp only[Prog.runF] at h
  have:=Bx k h
  exact⟨this.1,fun f hf=>this.2 f (List.mem_cons_of_mem _ hf)⟩
 | .hdr x k,hp,hp1,R,W,R1,W1,v,h=>by
  simp only[Prog.runF] at h
  have:=Bx (k (hp x).head) h
  exact⟨fun f hf=>this.1 f (List.mem_cons_of_mem _ hf),this.2⟩
 | .getC x off k,hp,hp1,R,W,R1,W1,v,h=>by
  simp only[Prog.runF] at h
  split at h
  ·rename_i c hc
   have:=Bx (k c) h
   exact⟨fun f hf=>this.1 f (List.mem_cons_of_mem _ (List.mem_cons_of_mem _ hf)),this.2⟩
  ·cases h
 | .putC x off c k,hp,hp1,R,W,R1,W1,v,h=>by
  simp only[Prog.runF] at h
  split at h
  ·have:=Bx k h
   exact⟨fun f hf=>this.1 f (List.mem_cons_of_mem _ hf),fun f hf=>this.2 f (List.mem_cons_of_mem _ hf)⟩
  ·cases h
 | .ext g k,hp,hp1,R,W,R1,W1,v,h=>by
  simp only[Prog.runF] at h
  split at h
  ·have:=Bx (k _) h
   exact⟨fun f hf=>this.1 f (List.mem_cons_of_mem _ hf),fun f hf=>this.2 f (List.mem_cons_of_mem _ hf)⟩
  ·cases h
 | .fail,_,_,_,_,_,_,_,h=>by simp[Prog.runF] at h
theorem Ed : ∀(p:Prog α) {hp hp1:Hp} {R W R1 W1:List Facet} {v:α},p.runF hp R W=some (v,hp1,R1,W1)->p.run hp=some (v,hp1)
 | .ret a,hp,hp1,R,W,R1,W1,v,h=>by
  simp only[Prog.runF,Option.some.injEq,Prod.mk.injEq] at h
  simp[Prog.run,h]
 | .get x k,hp,hp1,R,W,R1,W1,v,h=>by
  simp only[Prog.runF] at h
  exact Ed (k (hp x)) h
 | .put x o k,hp,hp1,R,W,R1,W1,v,h=>by
  simp only[Prog.runF] at h
  exact Ed k h
 | .hdr x k,hp,hp1,R,W,R1,W1,v,h=>by
  simp only[Prog.runF] at h
  exact Ed (k (hp x).head) h
 | .getC x off k,hp,hp1,R,W,R1,W1,v,h=>by
  simp only[Prog.runF] at h
  simp only[Prog.run]
  split at h
  ·rename_i c hc
   exact Ed (k c) h
  ·cases h
 | .putC x off c k,hp,hp1,R,W,R1,W1,v,h=>by
  simp only[Prog.runF] at h
  simp only[Prog.run]
  split at h
  ·rename_i c hc
   exact Ed k h
  ·cases h
 | .ext g k,hp,hp1,R,W,R1,W1,v,h=>by
  simp only[Prog.runF] at h
  simp only[Prog.run]
  split at h
  ·exact Ed (k _) h
  ·cases h
 | .fail,_,_,_,_,_,_,_,h=>by simp[Prog.runF] at h
theorem Bu : ∀(p:Prog α) {hp hp1 hp':Hp} {R W R1 W1:List Facet} {v:α},p.runF hp R W=some (v,hp1,R1,W1)->(∀f∈R1,AgF hp hp' f)->
  ∃hp1',p.runF hp' R W=some (v,hp1',R1,W1)/\(∀f,AgF hp hp' f->AgF hp1 hp1' f)/\((∀f∈W,AgF hp hp' f)-> ∀f∈W1,AgF hp1 hp1' f)
 | .ret a,hp,hp1,hp',R,W,R1,W1,v,h,ha=>by
  simp only[Prog.runF,Option.some.injEq,Prod.mk.injEq] at h
  obtain⟨rfl,rfl,rfl,rfl⟩:=h
  exact⟨hp',rfl,fun _ h=>h,fun h=>h⟩
 | .get x k,hp,hp1,hp',R,W,R1,W1,v,h,ha=>by
  simp only[Prog.runF] at h⊢
  have hx:AgF hp hp' (.all x):=ha _ ((Bx _ h).1 _ (List.mem_cons_self ..))
  have ih:=Bu (k (hp x)) h ha
  simp only[AgF] at hx
  rwa [<-hx]
 | .put x o k,hp,hp1,hp',R,W,R1,W1,v,h,ha=>by
  simp only[Prog.runF] at h⊢
  have key: ∀f,AgF hp hp' f->AgF (upd hp x o) (upd hp' x o) f:=by
   intro f hf
   cases f with
   |all y=>by_cases e:y=x<;>simp only[AgF,upd,e,if_true,if_false] at hf⊢;exact hf
   |hd y=>by_cases e:y=x<;>simp only[AgF,upd,e,if_true,if_false] at hf⊢;exact hf
   |cl y q=>by_cases e:y=x<;>simp only[AgF,upd,e,if_true,if_false] at hf⊢;exact hf
   |top=>simp only[AgF] at hf⊢;rw[hf]
   |but l=>trivial
  obtain⟨hp1',h1,h2,h3⟩:=Bu k h (fun f hf=>key f (ha f hf))
  refine⟨hp1',h1,fun f hf=>h2 f (key f hf),fun hw=>h3 fun f hf=>?_⟩
  rcases List.mem_cons.1 hf with rfl|hf
  ·simp[AgF,upd]
  ·exact key f (hw f hf)
 | .hdr x k,hp,hp1,hp',R,W,R1,W1,v,h,ha=>by
  simp only[Prog.runF] at h⊢
  have hx:AgF hp hp' (.hd x):=ha _ ((Bx _ h).1 _ (List.mem_cons_self ..))
  have ih:=Bu (k (hp x).head) h ha
  simp only[AgF] at hx
  rwa [<-hx]
 | .getC x off k,hp,hp1,hp',R,W,R1,W1,v,h,ha=>by
  simp only[Prog.runF] at h⊢
  split at h
  ·rename_i c hc
   have hx:AgF hp hp' (.cl x off):=ha _ ((Bx _ h).1 _ (List.mem_cons_self ..))
   have ih:=Bu (k c) h ha
   simp only[AgF] at hx
   rw[<-hx,hc]
   exact ih
  ·cases h
 | .putC x off c k,hp,hp1,hp',R,W,R1,W1,v,h,ha=>by
  simp only[Prog.runF] at h⊢
  split at h
  ·rename_i o1 ho
   have hx:AgF hp hp' (.hd x):=ha _ ((Bx _ h).1 _ (List.mem_cons_self ..))
   simp only[AgF] at hx
   obtain⟨p1,hp1'⟩:=W8 ho hx
   rw[hp1']
   simp only
   have hcell:cellOf (upd hp x o1 x) off=cellOf (upd hp' x p1 x) off:=by
    rw[Ae,Ae,Du ho off,Du hp1' off,if_pos rfl,if_pos rfl]
   have key: ∀f,AgF hp hp' f->AgF (upd hp x o1) (upd hp' x p1) f:=by
    intro f hf
    cases f with
    |all y=>
     by_cases e:y=x
     ·subst e
      simp only[AgF] at hf⊢
      rw[Ae,Ae]
      rw[<-hf,ho] at hp1'
      exact Option.some.inj hp1'
     ·simp only[AgF] at hf⊢
      rw[Al _ _ e,Al _ _ e];exact hf
    |hd y=>
     by_cases e:y=x
     ·subst e
      simp only[AgF] at hf⊢
      rw[Ae,Ae,Ke ho,Ke hp1']
      exact hf
     ·simp only[AgF] at hf⊢
      rw[Al _ _ e,Al _ _ e];exact hf
    |cl y q=>
     by_cases e:y=x
     ·subst e
      simp only[AgF] at hf⊢
      rw[Ae,Ae,Du ho,Du hp1']
      split
      ·rfl
      ·exact hf
     ·simp only[AgF] at hf⊢
      rw[Al _ _ e,Al _ _ e];exact hf
    |top=>
     simp only[AgF] at hf⊢
     rw[<-hf,ho] at hp1'
     rw[hf,Option.some.inj hp1']
    |but l=>trivial
   obtain⟨q,h1,h2,h3⟩:=Bu k h (fun f hf=>key f (ha f hf))
   refine⟨q,h1,fun f hf=>h2 f (key f hf),fun hw=>h3 fun f hf=>?_⟩
   rcases List.mem_cons.1 hf with rfl|hf
   ·exact hcell
   ·exact key f (hw f hf)
  ·cases h
 | .ext g k,hp,hp1,hp',R,W,R1,W1,v,h,ha=>by
  simp only[Prog.runF] at h⊢
  split at h
  ·have hx:AgF hp hp' .top:=ha _ ((Bx _ h).1 _ (List.mem_cons_self ..))
   simp only[AgF] at hx
   subst hx
   rename_i v0 hp0 hg
   refine⟨hp1,by rw[hg];exact h,fun f hf=>?_,fun _ f _=>?_⟩<;>cases f<;>first|rfl|trivial
  ·cases h
 | .fail,_,_,_,_,_,_,_,_,h,_=>by simp[Prog.runF] at h
def Eff (W:List Facet)(hp hp1:Hp):Prop:= ∀x,(.all x∈W\/ .top∈W)\/hp1 x=hp x\/ ∃g c c' f,hp x= .box g c f/\hp1 x= .box g c' f/\c'.length=c.length/\ ∀off,.cl x off∉W->c'[off]?=c[off]?
theorem Bl : ∀(p:Prog α) {hp hp1 hp0:Hp} {R W R1 W1:List Facet} {v:α},p.runF hp R W=some (v,hp1,R1,W1)->Eff W hp0 hp->Eff W1 hp0 hp1
 | .ret a,hp,hp1,hp0,R,W,R1,W1,v,h,e=>by
  simp only[Prog.runF,Option.some.injEq,Prod.mk.injEq] at h
  obtain⟨_,rfl,_,rfl⟩:=h
  exact e
 | .get x k,hp,hp1,hp0,R,W,R1,W1,v,h,e=>by
  simp only[Prog.runF] at h
  exact Bl (k (hp x)) h e
 | .put x o k,hp,hp1,hp0,R,W,R1,W1,v,h,e=>by
  simp only[Prog.runF] at h
  refine Bl k h fun y=>?_
  by_cases hy:y=x
  ·subst hy;exact .inl (.inl (List.mem_cons_self ..))
  ·rcases e y with h|h|⟨g,c,c',f,h1,h2,h3,h4⟩
   ·exact .inl (h.imp (List.mem_cons_of_mem _) (List.mem_cons_of_mem _))
   ·exact .inr (.inl (by rw[Al _ _ hy];exact h))
   ·exact .inr (.inr ⟨g,c,c',f,h1,by rw[Al _ _ hy];exact h2,h3,fun off hn=>h4 off fun hm=>hn (List.mem_cons_of_mem _ hm)⟩)
 | .hdr x k,hp,hp1,hp0,R,W,R1,W1,v,h,e=>by
  simp only[Prog.runF] at h
  exact Bl (k (hp x).head) h e
 | .getC x off k,hp,hp1,hp0,R,W,R1,W1,v,h,e=>by
  simp only[Prog.runF] at h
  split at h
  ·exact Bl (k _) h e
  ·cases h
 | .putC x off cv k,hp,hp1,hp0,R,W,R1,W1,v,h,e=>by
  simp only[Prog.runF] at h
  split at h
  ·rename_i o1 ho
   refine Bl k h fun y=>?_
   by_cases hy:y=x
   ·subst hy
    rcases e y with h|h|⟨g,c,c',f,h1,h2,h3,h4⟩
    ·exact .inl (h.imp (List.mem_cons_of_mem _) (List.mem_cons_of_mem _))
    ·rw[h] at ho
     cases hb:hp0 y with
     |box g c f=>
      rw[hb] at ho
      simp only[setCellOf] at ho
      split at ho
      ·cases ho
       refine .inr (.inr ⟨g,c,_,f,rfl,Ae _ _ _,Zi,fun q hq=>?_⟩)
       have hqo:off≠q:=fun e=>hq (by subst e;exact List.mem_cons_self ..)
       rw[List.getElem?_set_ne hqo]
      ·cases ho
     |no g=>rw[hb] at ho;simp[setCellOf] at ho
     |arr g sz e' rows f=>rw[hb] at ho;simp[setCellOf] at ho
     |map g ag ks rows f=>rw[hb] at ho;simp[setCellOf] at ho
    ·rw[h2] at ho
     simp only[setCellOf] at ho
     split at ho
     ·cases ho
      refine .inr (.inr ⟨g,c,_,f,h1,Ae _ _ _,by simpa using h3,fun q hq=>?_⟩)
      have hqo:off≠q:=fun e=>hq (by subst e;exact List.mem_cons_self ..)
      rw[List.getElem?_set_ne hqo]
      exact h4 q fun hm=>hq (List.mem_cons_of_mem _ hm)
     ·cases ho
   ·rcases e y with h|h|⟨g,c,c',f,h1,h2,h3,h4⟩
    ·exact .inl (h.imp (List.mem_cons_of_mem _) (List.mem_cons_of_mem _))
    ·exact .inr (.inl (by rw[Al _ _ hy];exact h))
    ·exact .inr (.inr ⟨g,c,c',f,h1,by rw[Al _ _ hy];exact h2,h3,fun off hn=>h4 off fun hm=>hn (List.mem_cons_of_mem _ hm)⟩)
  ·cases h
 | .ext g k,hp,hp1,hp0,R,W,R1,W1,v,h,e=>by
  simp only[Prog.runF] at h
  split at h
  ·exact Bl (k _) h fun y=> .inl (.inr (List.mem_cons_self ..))
  ·cases h
 | .fail,_,_,_,_,_,_,_,_,h,_=>by simp[Prog.runF] at h
theorem Eff.refl (hp:Hp):Eff [] hp hp:=fun _=> .inr (.inl rfl)
theorem Eff.ag {W:List Facet}{hp hp1:Hp}(e:Eff W hp hp1){f:Facet}(hn: ∀x∈W,x.meets f=false):AgF hp hp1 f:=by
 have htop:Facet.top∉W:=fun hm=>by simpa[Facet.meets] using hn _ hm
 by_cases hft:f= .top
 ·subst hft
  have hW:W=[]:=List.eq_nil_iff_forall_not_mem.2 fun y hy=>by have:=hn y hy;cases y<;>simp[Facet.meets] at this
  subst hW
  simp only[AgF]
  funext x
  rcases e x with(h|h)|h|⟨g,c,c',fz,h1,h2,h3,h4⟩
  ·cases h
  ·cases h
  ·exact h.symm
  ·rw[h1,h2]
   congr 1
   exact List.ext_getElem? fun j=>(h4 j Zi).symm
 by_cases hbt: ∃l,f= .but l
 ·obtain⟨l,rfl⟩:=hbt;trivial
 have hall: ¬(Facet.all f.nm∈W\/Facet.top∈W):=fun hm=>hm.elim (fun hm=>by have:=hn _ hm;cases f<;>simp[Facet.meets,Facet.nm] at this hft hbt) htop
 rcases e f.nm with h|h|⟨g,c,c',fz,h1,h2,h3,h4⟩
 ·exact(hall h).elim
 ·cases f with
  |top=>exact absurd rfl hft
  |but l=>trivial
  |_=>simp only[Facet.nm] at h;simp only[AgF];rw[h]
 ·cases f with
  |all x=>
   simp only[Facet.nm] at h1 h2 h4
   simp only[AgF]
   rw[h1,h2]
   congr 1
   refine List.ext_getElem? fun j=>(h4 j fun hm=>?_).symm
   have:=hn _ hm
   simp[Facet.meets,Facet.nm] at this
  |hd x=>
   simp only[Facet.nm] at h1 h2 h4
   simp only[AgF]
   rw[h1,h2]
   simp[AObj.head,h3]
  |cl x off=>
   simp only[Facet.nm] at h1 h2 h4
   simp only[AgF]
   rw[h1,h2]
   simp only[cellOf]
   refine(h4 off fun hm=>?_).symm
   have:=hn _ hm
   simp[Facet.meets] at this
  |top=>exact absurd rfl hft
  |but l=>trivial
theorem Facet.meets_comm (f g:Facet):f.meets g=g.meets f:=by
 cases f<;>cases g<;>simp only[Facet.meets,Facet.nm]<;>first|done|exact BEq.comm|(congr 1<;>exact BEq.comm)
theorem Eff.same {W:List Facet}{hp hp1:Hp}(e:Eff W hp hp1){x:Nm}(hx: .all x∉W)(ht: .top∉W)(hb: ∀g c f,hp x≠ .box g c f):hp1 x=hp x:=by
 rcases (e x).resolve_left (fun h=>h.elim hx ht) with h|⟨g,c,c',f,h1,_⟩
 ·exact h
 ·exact(hb g c f h1).elim
theorem Eff.box {W:List Facet}{hp hp1:Hp}(e:Eff W hp hp1){x:Nm}(hx: .all x∉W)(ht: .top∉W){g:Nat}{c:List AV}{f:Bool}(hb:hp x= .box g c f): ∃c',hp1 x= .box g c' f:=by
 rcases (e x).resolve_left (fun h=>h.elim hx ht) with h|⟨g',c',c2,f',h1,h2,_⟩
 ·exact⟨c,by rw[h,hb]⟩
 ·rw[hb] at h1
  cases h1
  exact⟨c2,h2⟩
theorem notCell {W:List Facet}{x:Nm}{off:Nat}(h1: .all x∉W)(h2: .cl x off∉W)(h3: .top∉W)(h4: ∀l,.but l∉W): ∀y∈W,y.meets (.cl x off)=false:=by
 intro y hy
 cases y with
 |all z=>
  simp only[Facet.meets,Facet.nm]
  refine Bool.eq_false_iff.2 fun h=>h1 ?_
  rw[beq_iff_eq] at h
  subst h;exact hy
 |hd z=>rfl
 |cl z q=>
  simp only[Facet.meets]
  refine Bool.eq_false_iff.2 fun h=>h2 ?_
  simp only[Bool.and_eq_true,beq_iff_eq] at h
  obtain⟨rfl,rfl⟩:=h
  exact hy
 |top=>exact(h3 hy).elim
 |but l=>exact(h4 l hy).elim
theorem Eff.nil {hp hp1:Hp}(e:Eff [] hp hp1):hp1=hp:=by
 have:=e.ag (f:= .top) Zi
 exact this.symm
theorem By : ∀(p:Prog α) {hp hp1:Hp} {R W R1 W1:List Facet} {v:α},p.runF hp R W=some (v,hp1,R1,W1)->(.top∈W1-> .top∈W\/ .top∈R1)/\(∀l,.but l∈W1-> .but l∈W)
 | .ret a,hp,hp1,R,W,R1,W1,v,h=>by
  simp only[Prog.runF,Option.some.injEq,Prod.mk.injEq] at h
  obtain⟨_,_,_,rfl⟩:=h
  exact⟨.inl,fun _ h=>h⟩
 | .get x k,hp,hp1,R,W,R1,W1,v,h=>by
  simp only[Prog.runF] at h
  exact By (k (hp x)) h
 | .put x o k,hp,hp1,R,W,R1,W1,v,h=>by
  simp only[Prog.runF] at h
  obtain⟨h1,h2⟩:=By k h
  exact⟨fun ht=>(h1 ht).imp (fun h=>by simpa using h) id,fun l hl=>by simpa using h2 l hl⟩
 | .hdr x k,hp,hp1,R,W,R1,W1,v,h=>by
  simp only[Prog.runF] at h
  exact By (k (hp x).head) h
 | .getC x off k,hp,hp1,R,W,R1,W1,v,h=>by
  simp only[Prog.runF] at h
  split at h
  ·exact By (k _) h
  ·cases h
 | .putC x off c k,hp,hp1,R,W,R1,W1,v,h=>by
  simp only[Prog.runF] at h
  split at h
  ·obtain⟨h1,h2⟩:=By k h
   exact⟨fun ht=>(h1 ht).imp (fun h=>by simpa using h) id,fun l hl=>by simpa using h2 l hl⟩
  ·cases h
 | .ext g k,hp,hp1,R,W,R1,W1,v,h=>by
  simp only[Prog.runF] at h
  split at h
  ·obtain⟨_,h2⟩:=By (k _) h
   exact⟨fun _=> .inr ((Bx _ h).1 _ (List.mem_cons_self ..)),fun l hl=>by simpa using h2 l hl⟩
  ·cases h
 | .fail,_,_,_,_,_,_,_,h=>by simp[Prog.runF] at h
theorem P7 {β:Type}{p:Prog α}{q:Prog β}{hp hp1 hp2:Hp}{v:α}{u:β}{Rp Wp Rq Wq:List Facet}(h1:p.runF hp [] []=some (v,hp1,Rp,Wp))(h2:q.runF hp1 [] []=some (u,hp2,Rq,Wq))(ha:apartF ⟨Rp,Wp⟩ ⟨Rq,Wq⟩=true):
  ∃hq,q.runF hp [] []=some (u,hq,Rq,Wq)/\p.runF hq [] []=some (v,hp2,Rp,Wp):=by
 simp only[apartF,Bool.and_eq_true,List.all_eq_true,Bool.not_eq_true'] at ha
 obtain⟨ha1,ha2⟩:=ha
 have ep:=Bl p h1 (Eff.refl hp)
 have eq2:=Bl q h2 (Eff.refl hp1)
 obtain⟨hq,h3,a3,w3⟩:=Bu q (hp':=hp) h2 (fun f hf=>by
  have:=ep.ag (f:=f) fun x hx=>(ha1 x hx).1 f hf
  cases f<;>simp only[AgF] at this⊢ <;>exact this.symm)
 have eq0:=Bl q h3 (Eff.refl hp)
 obtain⟨hr,h4,a4,w4⟩:=Bu p (hp':=hq) h1 (fun f hf=>eq0.ag fun x hx=>ha2 x hx f hf)
 have ep4:=Bl p h4 (Eff.refl hq)
 refine⟨hq,h3,?_⟩
 have w3:=w3 Zi
 have w4:=w4 Zi
 have hfin:hr=hp2:=by
  by_cases t1:Facet.top∈Wp
  ·have hW:Wq=[]:=List.eq_nil_iff_forall_not_mem.2 fun y hy=>by have:=(ha1 _ t1).2 y hy;simp[Facet.meets] at this
   subst hW
   have e0:=eq0.nil
   subst e0
   rw[h1] at h4
   simp only[Option.some.injEq,Prod.mk.injEq] at h4
   rw[eq2.nil]
   exact h4.2.1.symm
  by_cases t2:Facet.top∈Wq
  ·have hW:Wp=[]:=List.eq_nil_iff_forall_not_mem.2 fun y hy=>by have:=(ha1 y hy).2 _ t2;cases y<;>simp[Facet.meets] at this
   subst hW
   have e0:=ep.nil
   subst e0
   rw[h2] at h3
   simp only[Option.some.injEq,Prod.mk.injEq] at h3
   rw[ep4.nil]
   exact h3.2.1.symm
  funext x
  by_cases c1:Facet.all x∈Wp
  ·have e1:=w4 _ c1
   simp only[AgF] at e1
   have e2:=eq2.ag (f:= .all x) fun y hy=>by rw[Facet.meets_comm];exact(ha1 _ c1).2 y hy
   simp only[AgF] at e2
   rw[<-e1,e2]
  ·by_cases c2:Facet.all x∈Wq
   ·have e1:=w3 _ c2
    simp only[AgF] at e1
    have e2:=ep4.ag (f:= .all x) fun y hy=>(ha1 y hy).2 _ c2
    simp only[AgF] at e2
    rw[<-e2,<-e1]
   ·cases hx:hp x with
    |no g=>
     have hb: ∀g c f,hp x≠ .box g c f:=fun g c f h=>by rw[hx] at h;cases h
     have e1:=ep.same c1 t1 hb
     have e3:=eq0.same c2 t2 hb
     rw[ep4.same c1 t1 (by rw[e3];exact hb),eq2.same c2 t2 (by rw[e1];exact hb),e1,e3]
    |arr g sz e rows f=>
     have hb: ∀g c f,hp x≠ .box g c f:=fun g c f h=>by rw[hx] at h;cases h
     have e1:=ep.same c1 t1 hb
     have e3:=eq0.same c2 t2 hb
     rw[ep4.same c1 t1 (by rw[e3];exact hb),eq2.same c2 t2 (by rw[e1];exact hb),e1,e3]
    |map g ag ks rows f=>
     have hb: ∀g c f,hp x≠ .box g c f:=fun g c f h=>by rw[hx] at h;cases h
     have e1:=ep.same c1 t1 hb
     have e3:=eq0.same c2 t2 hb
     rw[ep4.same c1 t1 (by rw[e3];exact hb),eq2.same c2 t2 (by rw[e1];exact hb),e1,e3]
    |box g c f=>
     obtain⟨b1,e1⟩:=ep.box c1 t1 hx
     obtain⟨b2,e2⟩:=eq2.box c2 t2 e1
     obtain⟨b3,e3⟩:=eq0.box c2 t2 hx
     obtain⟨b4,e4⟩:=ep4.box c1 t1 e3
     rw[e2,e4]
     congr 1
     refine List.ext_getElem? fun j=>?_
     have cell:cellOf (hr x) j=cellOf (hp2 x) j:=by
      by_cases m1:Facet.cl x j∈Wp
      ·have f1:=w4 _ m1
       have f2:=eq2.ag (f:= .cl x j) fun y hy=>by rw[Facet.meets_comm];exact(ha1 _ m1).2 y hy
       simp only[AgF] at f1 f2
       rw[<-f1,f2]
      ·by_cases m2:Facet.cl x j∈Wq
       ·have f1:=w3 _ m2
        have f2:=ep4.ag (f:= .cl x j) fun y hy=>(ha1 y hy).2 _ m2
        simp only[AgF] at f1 f2
        rw[<-f2,<-f1]
       ·have nb1: ∀l,.but l∉Wp:=fun l hl=>by simpa using(By p h1).2 l hl
        have nb2: ∀l,.but l∉Wq:=fun l hl=>by simpa using(By q h2).2 l hl
        have f1:=ep.ag (f:= .cl x j) (notCell c1 m1 t1 nb1)
        have f2:=eq2.ag (f:= .cl x j) (notCell c2 m2 t2 nb2)
        have f3:=eq0.ag (f:= .cl x j) (notCell c2 m2 t2 nb2)
        have f4:=ep4.ag (f:= .cl x j) (notCell c1 m1 t1 nb1)
        simp only[AgF] at f1 f2 f3 f4
        rw[<-f4,<-f3,<-f2,<-f1]
     rw[e2,e4] at cell
     exact cell
 rw[<-hfin]
 exact h4
/-! ### what a call leaves as it was -/
theorem eqS_ok {a b:Value}(h:eqS a b=true):a=b:=by
 unfold eqS at h
 split at h<;>simp_all
mutual
theorem eqA_ok : ∀(a b:AV),eqA a b=true->a=b
 | .any,b,h=>by cases b<;>simp[eqA] at h;rfl
 | .sc v,b,h=>by
  cases b<;>simp[eqA] at h
  rw[eqS_ok h]
 | .sl f s r,b,h=>by
  cases b<;>simp[eqA] at h
  obtain⟨⟨rfl,rfl⟩,h⟩:=h
  rw[Nc _ _ h]
 | .dp c o,b,h=>by
  cases b<;>simp[eqA] at h
  obtain⟨rfl,h⟩:=h
  rw[Fy _ _ h]
 | .own x g n,b,h=>by cases b<;>simp[eqA] at h;obtain⟨⟨rfl,rfl⟩,rfl⟩:=h;rfl
 | .ptr x g n,b,h=>by cases b<;>simp[eqA] at h;obtain⟨⟨rfl,rfl⟩,rfl⟩:=h;rfl
 | .eptr x g i n,b,h=>by cases b<;>simp[eqA] at h;obtain⟨⟨⟨rfl,rfl⟩,rfl⟩,rfl⟩:=h;rfl
 | .agg c,b,h=>by
  cases b<;>simp[eqA] at h
  rw[Fy _ _ h]
 | .tup c,b,h=>by
  cases b<;>simp[eqA] at h
  rw[Fy _ _ h]
 | .vec s r,b,h=>by
  cases b<;>simp[eqA] at h
  obtain⟨rfl,h⟩:=h
  rw[Nc _ _ h]
 | .fn f c,b,h=>by
  cases b<;>simp[eqA] at h
  obtain⟨rfl,h⟩:=h
  rw[Fy _ _ h]
 | .bsl x g s o n,b,h=>by cases b<;>simp[eqA] at h;obtain⟨⟨⟨⟨rfl,rfl⟩,rfl⟩,rfl⟩,rfl⟩:=h;rfl
 | .mp x g,b,h=>by cases b<;>simp[eqA] at h;obtain⟨rfl,rfl⟩:=h;rfl
 | .dmp ..,b,h=>by cases b<;>simp[eqA] at h
theorem Fy : ∀(a b:List AV),eqAL a b=true->a=b
 |[],b,h=>by cases b<;>simp[eqAL] at h;rfl
 |x::l,b,h=>by
  cases b<;>simp[eqAL] at h
  rw[eqA_ok _ _ h.1,Fy _ _ h.2]
theorem Nc : ∀(a b:List (List AV)),eqAR a b=true->a=b
 |[],b,h=>by cases b<;>simp[eqAR] at h;rfl
 |x::l,b,h=>by
  cases b<;>simp[eqAR] at h
  rw[Fy _ _ h.1,Nc _ _ h.2]
end
theorem eqO_ok {a b:AObj}(h:eqO a b=true):a=b:=by
 cases a<;>cases b<;>simp[eqO] at h
 ·rw[h]
 ·obtain⟨⟨rfl,h⟩,rfl⟩:=h;rw[Fy _ _ h]
 ·obtain⟨⟨⟨⟨rfl,rfl⟩,rfl⟩,h⟩,rfl⟩:=h;rw[Nc _ _ h]
theorem but_ag {l:List Nm}{hp hp':Hp}(hl: ∀x∈l,hp x=hp' x){f:Facet}(hm:Facet.meets (.but l) f=false):AgF hp hp' f:=by
 cases f with
 |top=>simp[Facet.meets] at hm
 |but _=>trivial
 |all x=>simp[Facet.meets,Facet.nm] at hm;simp only[AgF];exact hl x hm
 |hd x=>simp[Facet.meets,Facet.nm] at hm;simp only[AgF];rw[hl x hm]
 |cl x o=>simp[Facet.meets,Facet.nm] at hm;simp only[AgF];rw[hl x hm]
theorem Kna : ∀a:AV,neV a a=false:=by
 intro a
 cases a<;>try rfl
 ·rename_i v;cases v<;>simp[neV]
 ·simp[neV]
theorem Vg : ∀l:List AV,neL l l=false
 |[]=>rfl
 |a::l=>by simp[neL,Kna,Vg l]
theorem Koa (a:AObj):neO a a=false:=by
 cases a<;>simp[neO,Vg]
theorem of_eqP {a b:AObj}(h:eqP a b=true):a=b:=by
 unfold eqP at h
 split at h
 ·rename_i h1;exact eqO_ok h1
 ·split at h
  ·cases h
  ·exact @of_decide_eq_true _ (_) h
theorem eqP_of {a b:AObj}(h:a=b):eqP a b=true:=by
 subst h
 unfold eqP
 split
 ·rfl
 ·rw[Koa]
  exact @decide_eq_true _ (_) rfl
theorem Fe {E:Cfg}{k:Nat}{a b:Hp}:refW E k a b []=[]:=by simp[refW]
theorem De {E:Cfg}{k:Nat}{a b:Hp}{W:List Facet}(h: .top∉W):refW E k a b W=W:=by simp[refW,h]
theorem N7 {E:Cfg}{k:Nat}(h0:E.ws≠0){a b:Hp}{W:List Facet}(h: .top∈W): ∃l,refW E k a b W=[.but l]/\ ∀x∈l,a x=b x:=by
 refine⟨_,by simp only[refW,if_neg h0];rw[if_pos (by simpa using h)],fun x hx=>?_⟩
 have:=(List.mem_filter.1 hx).2
 split at this
 ·exact of_eqP this
 ·exact eqO_ok this
theorem Xb {E:Cfg}{k:Nat}{β:Type}{p:Prog α}{q:Prog β}{hp hp1 hp2:Hp}{v:α}{u:β}{Rp Wp Rq Wq:List Facet}(h1:p.runF hp [] []=some (v,hp1,Rp,Wp))(h2:q.runF hp1 [] []=some (u,hp2,Rq,Wq))
  (ha:apartF ⟨Rp,refW E k hp hp1 Wp⟩ ⟨Rq,refW E k hp1 hp2 Wq⟩=true):
  ∃hq,q.runF hp [] []=some (u,hq,Rq,Wq)/\p.runF hq [] []=some (v,hp2,Rp,Wp)/\refW E k hp hq Wq=refW E k hp1 hp2 Wq/\refW E k hq hp2 Wp=refW E k hp hp1 Wp:=by
 by_cases h0:E.ws=0
 ·have e: ∀a b W,refW E k a b W=W:=fun a b W=>by simp[refW,h0]
  simp only[e] at ha⊢
  obtain⟨hq,a,b⟩:=P7 h1 h2 ha
  exact⟨hq,a,b,Zi⟩
 by_cases t1: .top∈Wp
 ·have r1: .top∈Rp:=((By p h1).1 t1).resolve_left Zi
  obtain⟨l,hl,hk⟩:=N7 (E:=E) (k:=k) h0 (a:=hp) (b:=hp1) t1
  rw[hl] at ha
  simp only[apartF,Bool.and_eq_true,List.all_eq_true,Bool.not_eq_true'] at ha
  obtain⟨ha1,ha2⟩:=ha
  have hWq:refW E k hp1 hp2 Wq=[]:=List.eq_nil_iff_forall_not_mem.2 fun y hy=>by have:=ha2 y hy _ r1;cases y<;>simp[Facet.meets] at this
  have hW0:Wq=[]:=by
   by_cases t2: .top∈Wq
   ·obtain⟨l2,hl2,_⟩:=N7 (E:=E) (k:=k) h0 (a:=hp1) (b:=hp2) t2
    rw[hl2] at hWq;cases hWq
   ·rw[De t2] at hWq;exact hWq
  subst hW0
  have e2:hp2=hp1:=(Bl q h2 (Eff.refl hp1)).nil
  subst e2
  obtain⟨hq,h3,_,_⟩:=Bu q (hp':=hp) h2 (fun f hf=>by
   have:=but_ag (l:=l) (hp:=hp2) (hp':=hp) (fun x hx=>(hk x hx).symm) ((ha1 _ (List.mem_singleton.2 rfl)).1 f hf)
   exact this)
  have e3:hq=hp:=(Bl q h3 (Eff.refl hp)).nil
  subst e3
  exact⟨hq,h3,h1,by rw[Fe,Fe],rfl⟩
 by_cases t2: .top∈Wq
 ·have r2: .top∈Rq:=((By q h2).1 t2).resolve_left Zi
  obtain⟨l,hl,hk⟩:=N7 (E:=E) (k:=k) h0 (a:=hp1) (b:=hp2) t2
  rw[hl,De t1] at ha
  simp only[apartF,Bool.and_eq_true,List.all_eq_true,Bool.not_eq_true'] at ha
  obtain⟨ha1,ha2⟩:=ha
  have hW0:Wp=[]:=List.eq_nil_iff_forall_not_mem.2 fun y hy=>by have:=(ha1 y hy).1 _ r2;cases y<;>simp[Facet.meets] at this
  subst hW0
  have e1:hp1=hp:=(Bl p h1 (Eff.refl hp)).nil
  subst e1
  obtain⟨hr,h4,_,_⟩:=Bu p (hp':=hp2) h1 (fun f hf=>but_ag hk (ha2 _ (List.mem_singleton.2 rfl) f hf))
  have e4:hr=hp2:=(Bl p h4 (Eff.refl hp2)).nil
  subst e4
  exact⟨hr,h2,h4,rfl,by rw[Fe,Fe]⟩
 ·rw[De t1,De t2] at ha
  obtain⟨hq,a,b⟩:=P7 h1 h2 ha
  exact⟨hq,a,b,by rw[De t2,De t2],by rw[De t1,De t1]⟩
end
end
section
open Go
section
variable {P:Program}{K:Nat->Prop}{k N:Nat}{B:Base}{E:Cfg}{call:Orc}{all:Array Oper}
theorem J3 {fr fr':Nat->AV}{o:Oper}(h: ∀x∈o.op.operands,opA fr x=opA fr' x):evOp P E k call fr o=evOp P E k call fr' o:=by
 obtain⟨dst,op,type,pos,after,guard⟩:=o
 have pairs: ∀ps:Array (Nat×Operand),(∀x∈ps.map (·.2),opA fr x=opA fr' x)->
   (ps.toList.map fun p=>opA fr p.2)=(ps.toList.map fun p=>opA fr' p.2)/\(ps.toList.map fun p=>(p.1,opA fr p.2))=(ps.toList.map fun p=>(p.1,opA fr' p.2)):=fun ps hp=>by
  have: ∀p∈ps.toList,opA fr p.2=opA fr' p.2:=fun p hm=>hp p.2 (Array.mem_map.2 ⟨p,by simpa using hm,rfl⟩)
  exact⟨List.map_congr_left this,List.map_congr_left fun p hm=>by rw[this p hm]⟩
 cases op<;>simp only[Op.operands] at h<;>simp only[evOp]
 case build t ps=>obtain⟨e1,e2⟩:=pairs ps fun x hx=>h x (by simpa using hx);rw[e1,e2]
 case buildSlice t n ps=>
  obtain⟨e1,e2⟩:=pairs ps fun x hx=>h x (by simpa using hx)
  have e3:(ps.toList.any fun p=>(cellsA (opA fr p.2)).any Vk)=(ps.toList.any fun p=>(cellsA (opA fr' p.2)).any Vk):=by
   have:=congrArg (fun l:List AV=>l.any fun v=>(cellsA v).any Vk) e1
   simp only[List.any_map] at this
   exact this
  rw[e1,e2,e3]
 case makeMap t r=>cases r<;>rfl
 case makeFunc fn first caps=>
  have hc: ∀x∈caps.toList,opA fr x=opA fr' x:=fun x hx=>h x (by simp at hx⊢;exact .inr hx)
  have hc': ∀x∈first.toList,opA fr x=opA fr' x:=fun x hx=>h x (by simp at hx⊢;exact .inl hx)
  cases fn<;>simp only
  rw[List.map_congr_left hc,List.map_congr_left hc']
 case slice t x lo hi mx=>cases lo<;>cases hi<;>cases mx<;>simp_all
 case call c=>
  obtain⟨callee,args,argTypes⟩:=c
  have ha: ∀x∈args.toList,opA fr x=opA fr' x:=fun x hx=>h x (by simp[Call.operands] at hx⊢;exact .inr hx)
  simp only
  split
  ·rename_i x t e1 e2
   rw[ha x (by rw[e1];simp)]
  ·rename_i s x t t' e1 e2
   rw[ha x (by rw[e1];simp),ha s (by rw[e1];simp)]
  ·rename_i s x t t' e1 e2
   rw[ha x (by rw[e1];simp),ha s (by rw[e1];simp)]
  ·rename_i _ x y e1
   rw[ha x (by rw[e1];simp),ha y (by rw[e1];simp)]
  ·rename_i _ x y e1
   rw[ha x (by rw[e1];simp),ha y (by rw[e1];simp)]
  ·rename_i x
   rw[List.map_congr_left ha,h x (by simp[Call.operands])]
  ·rfl
 all_goals (first|rfl|(simp_all;done))
theorem Ec {fr:Nat->AV}{d:Option Nat}{v:AV}{t:Nat}(h:d≠some t):setd fr d v t=fr t:=by
 cases d with
 |none=>rfl
 |some x=>simp only[setd];rw[if_neg (fun e=>h (by rw[e]))]
theorem Dwa {fr:Nat->AV}{d d':Option Nat}{v v':AV}(h: ∀x,d=some x->d'≠some x):setd (setd fr d v) d' v'=setd (setd fr d' v') d v:=by
 funext t
 cases d with
 |none=>rfl
 |some x=>
  cases d' with
  |none=>rfl
  |some y=>
   have hxy:y≠x:=fun e=>h x rfl (by rw[e])
   simp only[setd]
   by_cases e1:t=x
   ·have:t≠y:=fun e=>hxy (by rw[<-e,e1])
    simp[e1,hxy.symm]
   ·simp[e1]
theorem Qo {fr:Nat->AV}{d:Option Nat}{v:AV}{o:Oper}(h: ∀x,d=some x->x∉slotsOf all o):evOp P E k call (setd fr d v) o=evOp P E k call fr o:=
 J3 fun x hx=>by
  cases x with
  |tmp t=>
   refine Ec fun e=>h t e ?_
   exact List.mem_append_left _ (List.mem_filterMap.2 ⟨.tmp t,by simpa using hx,rfl⟩)
  |const c=>cases c<;>rfl
  |func f=>rfl
  |global g=>rfl
theorem Ol {fr:Nat->AV}{d:Option Nat}{v:AV}{o:Oper}(h: ∀x,d=some x->x∉slotsOf all o):guardA all (setd fr d v) o=guardA all fr o:=by
 unfold guardA
 cases hg:o.guard with
 |none=>rfl
 |some jb=>
  obtain⟨j,b⟩:=jb
  simp only
  cases hd:(all[j]?).bind (·.dst) with
  |none=>rfl
  |some t=>
   simp only
   rw[Ec fun e=>h t e (by simp[slotsOf,hg,hd])]
theorem stepF_iff {o:Oper}{st st':AS}{f:Foot}:stepF P E k call all o st=some (st',f)↔ ∃b v hp R W,guardA all st.fr o=some b/\(if b then evOp P E k call st.fr o else .ret (.sc undef)).runF st.hp [] []=some (v,hp,R,W)/\
  st'=⟨setd st.fr o.dst v,hp⟩/\f=⟨R,refW E k st.hp hp W⟩:=by
 unfold stepF
 constructor
 ·intro h
  split at h
  ·rename_i hg
   split at h
   ·rename_i v hp R W hr
    simp only[Option.some.injEq,Prod.mk.injEq] at h
    exact⟨true,v,hp,R,W,hg,hr,h.1.symm,h.2.symm⟩
   ·cases h
  ·rename_i hg
   simp only[Option.some.injEq,Prod.mk.injEq] at h
   exact⟨false,_,st.hp,[],[],hg,rfl,h.1.symm,by rw[Fe];exact h.2.symm⟩
  ·cases h
 ·rintro⟨b,v,hp,R,W,hg,hr,rfl,rfl⟩
  rw[hg]
  cases b with
  |true=>simp only[if_true] at hr;simp only[hr]
  |false=>
   simp only[Bool.false_eq_true,if_false,Prog.runF,Option.some.injEq,Prod.mk.injEq] at hr
   obtain⟨rfl,rfl,rfl,rfl⟩:=hr
   rw[Fe]
theorem Wg {o p:Oper}(h:Lx all o p=true):(∀d,o.dst=some d->d∉slotsOf all p)/\(∀d,o.dst=some d->p.dst≠some d)/\(∀d,p.dst=some d->d∉slotsOf all o):=by
 refine⟨fun d hd=>?_,fun d hd=>?_,fun d hd=>?_⟩<;>simp[Lx,hd] at h
 ·exact h.1.1
 ·exact h.1.2
 ·exact h.2
theorem W6 {o p:Oper}{st st1 st2:AS}{f1 f2:Foot}(h1:stepF P E k call all o st=some (st1,f1))(h2:stepF P E k call all p st1=some (st2,f2))(hs:Lx all o p=true)(hf:apartF f1 f2=true):
  ∃st1',stepF P E k call all p st=some (st1',f2)/\stepF P E k call all o st1'=some (st2,f1):=by
 obtain⟨s1,s2,s3⟩:=Wg hs
 obtain⟨b1,v1,hp1,R1,W1,g1,r1,rfl,rfl⟩:=stepF_iff.1 h1
 obtain⟨b2,v2,hp2,R2,W2,g2,r2,rfl,rfl⟩:=stepF_iff.1 h2
 simp only at g2 r2
 rw[Ol s1] at g2
 rw[Qo s1] at r2
 obtain⟨hq,q1,q2,q3,q4⟩:=Xb r1 r2 hf
 refine⟨⟨setd st.fr p.dst v2,hq⟩,stepF_iff.2 ⟨b2,v2,hq,R2,W2,g2,q1,rfl,by simp only;rw[q3]⟩,stepF_iff.2 ⟨b1,v1,hp2,R1,W1,?_,?_,?_,by simp only;rw[q4]⟩⟩
 ·simp only;rw[Ol s3];exact g1
 ·simp only;rw[Qo s3];exact q2
 ·simp only;rw[Dwa s2]
/-! ### orders -/
inductive Waits (all:Array Oper):Nat->Nat->Prop where
 |one {j:Nat} {o:Oper} {e:Edge}:all[j]?=some o->e∈o.after->Region.binds .any e=true->Waits all j e.on
 |more {j x:Nat} {o:Oper} {e:Edge}:all[j]?=some o->e∈o.after->Region.binds .any e=true->Waits all e.on x->Waits all j x
def Down (all:Array Oper)(listed:Array Bool):Prop:= ∀j o e,listed.getD j false=true->all[j]?=some o->e∈o.after->Region.binds .any e=true->listed.getD e.on false=true
theorem Down.waits {listed:Array Bool}(h:Down all listed){j x:Nat}(hw:Waits all j x):listed.getD j false=true->listed.getD x false=true:=by
 induction hw with
 |one ho he hb=>exact fun hj=>h _ _ _ hj ho he hb
 |more ho he hb _ ih=>exact fun hj=>ih (h _ _ _ hj ho he hb)
theorem Mc {listed:Array Bool}(h:Down all listed){j x:Nat}(hr:j∈Region.ready .any all listed)(hw:Waits all j x):listed.getD x false=true:=by
 obtain⟨_,o,ho,hall⟩:=mem_ready.1 hr
 cases hw with
 |one ho' he hb=>rw[ho] at ho';cases ho';exact hall _ he hb
 |more ho' he hb hw=>rw[ho] at ho';cases ho';exact h.waits hw (hall _ he hb)
theorem Down.set {listed:Array Bool}(h:Down all listed){j:Nat}(hr:j∈Region.ready .any all listed):Down all (listed.setIfInBounds j true):=by
 intro x o e hx ho he hb
 by_cases hjx:j=x
 ·subst hjx
  obtain⟨_,o',ho',hall⟩:=mem_ready.1 hr
  rw[ho] at ho';cases ho'
  exact getD_set_true (hall e he hb)
 ·rw[getD_set_ne false hjx] at hx
  exact getD_set_true (h x o e hx ho he hb)
def anyA (P:Program)(E:Cfg)(k:Nat)(call:Orc)(all:Array Oper)(fs:List Foot)(stf:AS):Nat->Array Bool->AS->Prop
 |0,listed,st=>Region.ready .any all listed=[]/\st=stf
 |n+1,listed,st=>(Region.ready .any all listed=[]->st=stf)/\ ∀i∈Region.ready .any all listed,∃o st',all[i]?=some o/\stepF P E k call all o st=some (st',fs.getD i ⟨[],[]⟩)/\
   anyA P E k call all fs stf n (listed.setIfInBounds i true) st'
theorem Bta {fs:List Foot}{stf:AS}{i:Nat}{oi:Oper}(hi:all[i]?=some oi): ∀(n:Nat) (listed:Array Bool) (st st1:AS),Down all listed->
  (∀j oj,all[j]?=some oj->j≠i->listed.getD j true=false-> ¬Waits all j i->Lx all oi oj=true/\apartF (fs.getD i ⟨[],[]⟩) (fs.getD j ⟨[],[]⟩)=true)->
  i∈Region.ready .any all listed->stepF P E k call all oi st=some (st1,fs.getD i ⟨[],[]⟩)->anyA P E k call all fs stf n (listed.setIfInBounds i true) st1->anyA P E k call all fs stf (n+1) listed st:=by
 intro n
 induction n with
 |zero=>
  intro listed st st1 _ _ hr hs H
  refine⟨fun h=>(by rw[h] at hr;cases hr),fun j hj=>?_⟩
  by_cases hji:j=i
  ·subst hji;exact⟨oi,st1,hi,hs,H⟩
  ·have:=ready_mono hj hji
   rw[H.1] at this
   cases this
 |succ n ih=>
  intro listed st st1 hD hfree hr hs H
  refine⟨fun h=>(by rw[h] at hr;cases hr),fun j hj=>?_⟩
  by_cases hji:j=i
  ·subst hji;exact⟨oi,st1,hi,hs,H⟩
  ·obtain⟨oj,st2,hoj,hs2,H2⟩:=H.2 j (ready_mono hj hji)
   have hjun:=(mem_ready.1 hj).1
   have hiun:=(mem_ready.1 hr).1
   have hnw: ¬Waits all j i:=fun hw=>by
    have h1:=Mc hD hj hw
    rcases Nat.lt_or_ge i listed.size with h'|h'
    ·simp[h'] at hiun h1;rw[hiun] at h1;cases h1
    ·simp[Array.getElem?_eq_none h'] at h1
   obtain⟨a1,a2⟩:=hfree j oj hoj hji hjun hnw
   obtain⟨st1',q1,q2⟩:=W6 hs hs2 a1 a2
   refine⟨oj,st1',hoj,q1,ih (listed.setIfInBounds j true) st1' st2 (hD.set hj) (fun x ox hx hxi hun hno=>?_) (ready_mono hr (Ne.symm hji)) q2 ?_⟩
   ·refine hfree x ox hx hxi ?_ hno
    by_cases hjx:j=x
    ·subst hjx;exact hjun
    ·rw[getD_set_ne true hjx] at hun;exact hun
   ·rw[Array.setIfInBounds_comm _ _ hji]
    exact H2
theorem Js : ∀(os:List Oper) {st stf:AS} {acc fs:List Foot},runDraw P E k call all os st acc=some (stf,fs)-> ∀j,j<acc.length->fs.getD j ⟨[],[]⟩=acc.reverse.getD j ⟨[],[]⟩
 |[],st,stf,acc,fs,h,j,hj=>by
  simp only[runDraw,Option.some.injEq,Prod.mk.injEq] at h
  rw[h.2]
 |o::os,st,stf,acc,fs,h,j,hj=>by
  simp only[runDraw] at h
  split at h
  ·rename_i st' f hs
   rw[Js os h j (by simp;omega)]
   simp only[List.getD_eq_getElem?_getD,List.reverse_cons]
   rw[List.getElem?_append_left (by simpa using hj)]
  ·cases h
theorem Wh {fs:List Foot}{stf:AS}(hback: ∀j o e,all[j]?=some o->e∈o.after->Region.binds .any e=true->e.on<j)
  (hfree: ∀i j oi oj,i<j->all[i]?=some oi->all[j]?=some oj-> ¬Waits all j i->Lx all oi oj=true/\apartF (fs.getD i ⟨[],[]⟩) (fs.getD j ⟨[],[]⟩)=true):
  ∀(os:List Oper) (n:Nat) (listed:Array Bool) (st:AS) (acc:List Foot),(∀j,os[j]?=all[n+j]?)->acc.length=n->runDraw P E k call all os st acc=some (stf,fs)->listed.size=all.size->(∀j,j<all.size->listed.getD j true=decide (j<n))->
  anyA P E k call all fs stf os.length listed st
 |[],n,listed,st,acc,hl,hn,h,hsz,hls=>by
  simp only[runDraw,Option.some.injEq,Prod.mk.injEq] at h
  refine⟨?_,h.1⟩
  refine List.eq_nil_iff_forall_not_mem.2 fun j hj=>?_
  obtain⟨h0,o,ho,_⟩:=mem_ready.1 hj
  have hlt:j<all.size:=(Array.getElem?_eq_some_iff.1 ho).1
  rw[hls j hlt] at h0
  have hnj: ¬j<n:=by simpa using h0
  have:=hl (j - n)
  rw[show n+(j - n)=j by omega,ho] at this
  cases this
 |o::os,n,listed,st,acc,hl,hn,h,hsz,hls=>by
  have h0:all[n]?=some o:=by simpa using(hl 0).symm
  have hlt:n<all.size:=(Array.getElem?_eq_some_iff.1 h0).1
  have hl': ∀j,os[j]?=all[n+1+j]?:=fun j=>by have:=hl (j+1);simpa[Nat.add_assoc,Nat.add_comm 1 j] using this
  simp only[runDraw] at h
  split at h
  case h_2=>cases h
  rename_i st' f hs
  have hfn:fs.getD n ⟨[],[]⟩=f:=by
   rw[Js os h n (by simp;omega)]
   simp only[List.getD_eq_getElem?_getD,List.reverse_cons]
   rw[List.getElem?_append_right (by simp;omega)]
   simp[hn]
  have hread: ∀j,j<n->listed.getD j false=true:=fun j hj=>by
   have:=hls j Zo
   rw[decide_eq_true hj] at this
   have hj2:j<listed.size:=Zo
   simpa[hj2] using this
  refine Bta h0 os.length listed st st' (fun j o' e hj ho he hb=>?_) (fun j oj hj hne hun hnw=>?_) ?_ (by rw[hfn];exact hs) ?_
  ·have hlt':j<all.size:=(Array.getElem?_eq_some_iff.1 ho).1
   have hj2:j<listed.size:=Zo
   have:=hls j hlt'
   have hjn:j<n:=by
    have e1:listed.getD j true=listed.getD j false:=by simp[hj2]
    rw[e1,hj] at this
    exact of_decide_eq_true this.symm
   exact hread _ (Nat.lt_trans (hback j o' e ho he hb) hjn)
  ·have hlt':j<all.size:=(Array.getElem?_eq_some_iff.1 hj).1
   rw[hls j hlt'] at hun
   have hnj: ¬j<n:=by simpa using hun
   exact hfree n j o oj Zo h0 hj hnw
  ·refine mem_ready.2 ⟨by rw[hls n hlt];simp,o,h0,fun e he hb=>hread _ (hback n o e h0 he hb)⟩
  ·refine Wh hback hfree os (n+1) _ st' (f::acc) hl' (by simp[hn]) h (by simpa using hsz) (fun j hj=>?_)
   by_cases hjn:n=j
   ·subst hjn
    have hj2:n<listed.size:=Zo
    simp[hj2]
   ·rw[getD_set_ne true hjn,hls j hj]
    exact decide_eq_decide.2 ⟨fun h=>Zo,fun h=>Zo⟩
theorem Vi (r:List Nat)(i:Nat): ∀(es:List Edge) (m:Nat),(es.foldl (fun m e=>if Region.binds .any e then m|||(1<<<e.on|||r.getD e.on 0) else m) m).testBit i=true->
  m.testBit i=true\/ ∃e∈es,Region.binds .any e=true/\(e.on=i\/(r.getD e.on 0).testBit i=true)
 |[],m,h=> .inl h
 |e::es,m,h=>by
  rw[List.foldl_cons] at h
  rcases Vi r i es _ h with h1|⟨e',he',h1⟩
  ·split at h1
   ·rename_i hb
    rw[Nat.testBit_or,Nat.testBit_or,Bool.or_eq_true,Bool.or_eq_true] at h1
    rcases h1 with h1|h1|h1
    ·exact .inl h1
    ·rw[Nat.one_shiftLeft,Nat.testBit_two_pow] at h1
     exact .inr ⟨e,Zi,hb,.inl (of_decide_eq_true h1)⟩
    ·exact .inr ⟨e,Zi,hb,.inr h1⟩
   ·exact .inl h1
  ·exact .inr ⟨e',by simp[he'],h1⟩
theorem Kd : ∀(os:List Oper) (acc:List Nat) (n:Nat),acc.length=n->(∀j,os[j]?=all[n+j]?)->(∀j i,(acc.reverse.getD j 0).testBit i=true->Waits all j i)-> ∀j i,((waits os acc).getD j 0).testBit i=true->Waits all j i
 |[],acc,n,hn,hl,ha,j,i,h=>ha j i h
 |o::os,acc,n,hn,hl,ha,j,i,h=>by
  have h0:all[n]?=some o:=by simpa using(hl 0).symm
  have hl': ∀j,os[j]?=all[n+1+j]?:=fun j=>by have:=hl (j+1);simpa[Nat.add_assoc,Nat.add_comm 1 j] using this
  refine Kd os _ (n+1) (by simp[hn]) hl' (fun j i hi=>?_) j i h
  simp only[List.reverse_cons,List.getD_eq_getElem?_getD] at hi
  rw[List.getElem?_append] at hi
  split at hi
  ·exact ha j i (by simpa[List.getD_eq_getElem?_getD] using hi)
  ·rename_i hj
   rw[List.getElem?_singleton] at hi
   split at hi
   ·rename_i hj0
    have hjn:j=n:=by simp at hj hj0;omega
    subst hjn
    simp only[Option.getD_some,wMask] at hi
    rcases Vi _ i _ _ hi with h1|⟨e,he,hb,h1⟩
    ·simp at h1
    ·rcases h1 with rfl|h1
     ·exact .one h0 (by simpa using he) hb
     ·exact .more h0 (by simpa using he) hb (ha _ _ h1)
   ·simp at hi
theorem Bsa (hE:ELaw P E)(hC:A4 P call){fs:List Foot}{stf:AS}{Q:Exit->Act->World->Prop}(hd: ∀o∈all.toList,∀x,o.dst=some x->x<N)(hQ: ∀a' w',StR k N K B stf a' w'->Q .normal a' w'):
  ∀(n:Nat) (listed:Array Bool) {st:AS} {a:Act} {w:World},anyA P E k call all fs stf n listed st->StR k N K B st a w->wpAny P .any all Q n listed a w
 |0,listed,st,a,w,h,S=>by
  obtain⟨h1,rfl⟩:=h
  exact⟨h1,hQ a w S⟩
 |n+1,listed,st,a,w,h,S=>by
  refine⟨fun hr=>hQ a w (h.1 hr▸S),fun i hi=>?_⟩
  obtain⟨o,st',ho,hs,H⟩:=h.2 i hi
  have hdo:=hd o (by have:=Array.mem_of_getElem? ho;simpa using this)
  obtain⟨b,v,hp,R,W,g,r,rfl,hf⟩:=stepF_iff.1 hs
  unfold wpOp
  simp only[ho]
  rw[S.guard g]
  cases b with
  |true=>
   simp only[if_true] at r⊢
   exact .inl ((S.op hE hC hdo (Ed _ r)).wp fun u w' S'=>Bsa hE hC hd hQ n _ H S')
  |false=>
   simp only[Bool.false_eq_true,if_false,Prog.runF,Option.some.injEq,Prod.mk.injEq] at r⊢
   obtain⟨rfl,rfl,_⟩:=r
   exact Bsa hE hC hd hQ n _ H (S.skip hdo)
theorem StR.drawn {st:AS}{a:Act}{w:World}(S:StR k N K B st a w)(n:Nat):StR k N K B st a {w with drawn:=n}:=by
 obtain⟨I,m,G,E0,hf,hs,hdf⟩:=S
 obtain⟨G2,E2⟩:=G.world (w':={w with drawn:=n}) (fun _ _=>rfl) ⟨fun _ _=>rfl,Nat.le_refl _,rfl,rfl,rfl⟩ (fun _ h=>h) (fun _ h=> .inl h) G.ilt
 exact⟨I,m,G2,E0.trans E2,fun t=>Rep.mono E2 _ _ _ (hf t),hs,hdf⟩
theorem N6 (hm:P.follows .mixedOrders=true)(hE:ELaw P E)(hC:A4 P call){Q:Exit->Act->World->Prop}{st st':AS}{a:Act}{w:World}{id:Nat}{fs:List Foot}(hd: ∀o∈all.toList,∀x,o.dst=some x->x<N)(S:StR k N K B st a w)
  (h:runDraw P E k call all all.toList st []=some (st',fs)) (h1:Mt all=true) (h2:Ge all fs=true) (hQ: ∀a' w',StR k N K B st' a' w'->Q .normal a' w'):
  (Code.region id all true).wp P Q a w:=by
 refine wp_region_any hm ?_
 simp only[Mt,Bool.and_eq_true,List.all_eq_true,List.mem_range,Bool.or_eq_true] at h1
 obtain⟨h1a,h1b⟩:=h1
 simp only[Ge,List.all_eq_true,List.mem_range,Bool.or_eq_true] at h2
 have hget: ∀j o,all[j]?=some o->all.getD j default=o:=fun j o h=>by simp[h]
 have hlex:=Wh (P:=P) (E:=E) (k:=k) (call:=call) (all:=all) (fs:=fs) (stf:=st') (fun j o e hj he hb=>by
   have hlt:=(Array.getElem?_eq_some_iff.1 hj).1
   have:=h1a j hlt e (by rw[hget j o hj];simpa using he)
   rcases this with h|h
   ·rw[hb] at h;cases h
   ·exact of_decide_eq_true h)
  (fun i j oi oj hij hi hj hnw=>by
   have hlt:=(Array.getElem?_eq_some_iff.1 hj).1
   have nw:((waits all.toList []).getD j 0).testBit i≠true:=fun hc=>hnw (Kd all.toList [] 0 rfl Zi Zi j i hc)
   have a1:=(h1b j hlt i hij).resolve_left nw
   have a2:=(h2 j hlt i hij).resolve_left nw
   rw[hget i oi hi,hget j oj hj] at a1
   exact⟨a1,a2⟩)
  all.toList 0 (Array.replicate all.size false) st [] Zi rfl h Zi (fun j hj=>by simp[hj])
 rw[Array.length_toList] at hlex
 exact Bsa hE hC hd hQ all.size _ hlex (S.drawn _)
end
end
section
open Go
section
variable {P:Program}{K:Nat->Prop}{k N:Nat}{B:Base}{E:Cfg}{call:Orc}
theorem StR.dryOne {st:AS}{a:Act}{w:World}(S:StR k N K B st a w)(s:Nat):StR k N K B (Ab.dryOne s st) a w:=by
 unfold Ab.dryOne
 split
 ·rename_i x g off hs0
  split
  ·rename_i v hp' hr
   obtain⟨I,m,G,E0,hf,hs,hdf⟩:=S
   have h0:=hf s
   rw[hs0] at h0
   obtain⟨I',G',E',R',_⟩:=O0 G h0 hr
   refine⟨I',m,G',E0.trans E',fun t=>?_,hs,hdf⟩
   simp only
   split
   ·rename_i ht;subst ht;exact RepD.rep R'
   ·exact Rep.mono E' _ _ _ (hf t)
  ·exact S
 ·exact S
theorem StR.dryAll {a:Act}{w:World}: ∀(ss:List Nat) {st:AS},StR k N K B st a w->StR k N K B (Ab.dryAll ss st) a w
 |[],_,S=>S
 |s::ss,_,S=>StR.dryAll ss (S.dryOne s)
theorem Mq (hm:P.follows .mixedOrders=true)(hE:ELaw P E)(hC:A4 P call){Q:Exit->Act->World->Prop}{ops:Array Oper}{draw:Bool}{st st':AS}{a:Act}{w:World}{id:Nat}(hd: ∀o∈ops.toList,∀x,o.dst=some x->x<N)
  (S:StR k N K B st a w) (h:evRegion P E k call ops draw st=some st') (hQ: ∀a' w',StR k N K B st' a' w'->Q .normal a' w'):(Code.region id ops draw).wp P Q a w:=by
 unfold evRegion at h
 cases draw with
 |true=>
  simp only[if_true] at h
  split at h
  ·rename_i st1 fs hr
   split at h
   ·rename_i hc
    simp only[Bool.and_eq_true] at hc
    cases h
    exact N6 hm (E:=E.dry) (ELaw.dry hE.1) hC hd S hr hc.1 hc.2 hQ
   ·split at h
    ·rename_i st2 fs2 hr2
     split at h
     ·rename_i hc
      simp only[Bool.and_eq_true] at hc
      cases h
      exact N6 hm (E:=E.dry) (ELaw.dry hE.1) hC hd (StR.dryAll _ S) hr2 hc.1 hc.2 hQ
     ·cases h
    ·cases h
  ·cases h
 |false=>
  simp only[Bool.false_eq_true,if_false] at h
  exact T6 hE hC hd S h hQ
open Classical in
noncomputable def least (p:Nat->Prop):Nat:=if h: ∃n,p n/\ ∀m,p m->n<=m then Classical.choose h else 0
theorem Cm {p:Nat->Prop}(h: ∃n,p n):p (least p)/\ ∀m,p m->least p<=m:=by
 have hex: ∃n,p n/\ ∀m,p m->n<=m:=by
  obtain⟨n,hn⟩:=h
  induction n using Nat.strongRecOn with
  |_ n ih=>
   by_cases hc: ∃m,m<n/\p m
   ·obtain⟨m,hm,hp⟩:=hc
    exact ih m hm hp
   ·exact⟨n,hn,fun m hm=>Nat.le_of_not_lt fun hlt=>hc ⟨m,hlt,hm⟩⟩
 unfold least
 rw[dif_pos hex]
 exact Classical.choose_spec hex
def exOf :Ex->Exit
 | .normal=> .normal
 | .exit id=> .exit id
 | .ret=> .ret
 | .panic v=> .panic [{v:=v,recovered:=false}]
theorem Cj {call:Orc}: ∀(n:Nat) (c:Code) (st:AS) {e:Ex} {s:AS},evC P E k call n c st=some (e,s)-> ∀v,e≠ .panic v
 |0,_,_,_,_,h=>by simp[evC] at h
 |n+1,c,st,e,s,h=>by
  intro v hv
  subst hv
  cases c with
  |region i ops d=>
   simp only[evC] at h
   cases hr:evRegion P E k call ops d st<;>simp[hr] at h
  |seq x y=>
   simp only[evC] at h
   split at h
   ·exact Cj n y _ h v rfl
   ·exact Cj n x _ h v rfl
  |cond q x y=>
   simp only[evC] at h
   split at h
   ·split at h
    ·exact Cj n x _ h v rfl
    ·exact Cj n y _ h v rfl
   ·cases h
  |block id x=>
   simp only[evC] at h
   split at h
   ·split at h<;>simp at h
   ·exact Cj n x _ h v rfl
  |loop x=>
   simp only[evC] at h
   split at h
   ·exact Cj n (.loop x) _ h v rfl
   ·exact Cj n x _ h v rfl
  |scope x=>
   simp only[evC] at h
   exact Cj n x _ h v rfl
  |_=>simp[evC] at h
theorem B7 (hm:P.follows .mixedOrders=true)(hE:ELaw P E)(hC:A4 P call): ∀(n:Nat) (c:Code) {Q:Exit->Act->World->Prop} {st st':AS} {e:Ex} {a:Act} {w:World},slotsIn N c=true->StR k N K B st a w->evC P E k call n c st=some (e,st')->
  (∀a' w',StR k N K B st' a' w'->Q (exOf e) a' w')->c.wp P Q a w
 |0,c,Q,st,st',e,a,w,_,_,h,_=>by simp[evC] at h
 |n+1,c,Q,st,st',e,a,w,hs,S,h,hQ=>by
  cases c with
  |skip=>
   simp only[evC,Option.some.injEq,Prod.mk.injEq] at h
   obtain⟨rfl,rfl⟩:=h
   exact wp_skip (hQ a w S)
  |label l=>
   simp only[evC,Option.some.injEq,Prod.mk.injEq] at h
   obtain⟨rfl,rfl⟩:=h
   exact wp_label (hQ a w S)
  |region id ops d=>
   simp only[evC] at h
   cases hr:evRegion P E k call ops d st with
   |none=>rw[hr] at h;cases h
   |some s=>
    rw[hr] at h
    simp only[Option.map_some,Option.some.injEq,Prod.mk.injEq] at h
    obtain⟨rfl,rfl⟩:=h
    refine Mq hm hE hC (fun o ho x hx=>?_) S hr hQ
    simp only[slotsIn,List.all_eq_true,Bool.and_eq_true] at hs
    have:=(hs o ho).1
    rw[hx] at this
    simpa using this
  |seq x y=>
   simp only[slotsIn,Bool.and_eq_true] at hs
   simp only[evC] at h
   split at h
   ·rename_i s h1
    exact wp_seq (B7 hm hE hC n x hs.1 S h1 fun a' w' S'=>B7 hm hE hC n y hs.2 S' h hQ)
   ·rename_i hne
    refine wp_seq (B7 hm hE hC n x hs.1 S h fun a' w' S'=>?_)
    have:=hQ a' w' S'
    cases e with
    |normal=>exact(hne st' h).elim
    |exit id=>exact this
    |ret=>exact this
    |panic v=>exact this
  |cond c x y=>
   simp only[slotsIn,Bool.and_eq_true] at hs
   simp only[evC] at h
   split at h
   ·rename_i t ht
    have hc:a.eval c= .bool t:=by
     obtain⟨I,m,G,E0,hf,hsz,hdf⟩:=S
     have:=Eh G hf c
     rw[ht] at this
     simpa only[Rep] using this
    refine wp_cond hc ?_
    cases t with
    |true=>exact B7 hm hE hC n x hs.1.2 S (by simpa using h) hQ
    |false=>exact B7 hm hE hC n y hs.2 S (by simpa using h) hQ
   ·cases h
  |block id x=>
   simp only[slotsIn] at hs
   simp only[evC] at h
   split at h
   ·rename_i i s h1
    refine wp_block (B7 hm hE hC n x hs S h1 fun a' w' S'=>?_)
    simp only[exOf,Exit.inBlock]
    split at h
    ·rename_i hi
     simp only[Option.some.injEq,Prod.mk.injEq] at h
     obtain⟨rfl,rfl⟩:=h
     rw[if_pos hi]
     exact hQ a' w' S'
    ·rename_i hi
     simp only[Option.some.injEq,Prod.mk.injEq] at h
     obtain⟨rfl,rfl⟩:=h
     rw[if_neg hi]
     exact hQ a' w' S'
   ·rename_i hne
    refine wp_block (B7 hm hE hC n x hs S h fun a' w' S'=>?_)
    have:=hQ a' w' S'
    cases e with
    |normal=>exact this
    |exit i=>exact(hne i st' h).elim
    |ret=>exact this
    |panic v=>exact this
  |loop x=>
   simp only[slotsIn] at hs
   refine wp_loop (I:=fun a w=> ∃g s,g<=n+1/\StR k N K B s a w/\evC P E k call g (.loop x) s=some (e,st'))
    (μ:=fun a w=>least fun g=> ∃s,g<=n+1/\StR k N K B s a w/\evC P E k call g (.loop x) s=some (e,st')) ⟨n+1,st,Nat.le_refl _,S,h⟩ ?_
   intro a w hI
   obtain⟨⟨s,hg,S,h⟩,_⟩:=Cm (p:=fun g=> ∃s,g<=n+1/\StR k N K B s a w/\evC P E k call g (.loop x) s=some (e,st')) hI
   generalize hgl:least (fun g=> ∃s,g<=n+1/\StR k N K B s a w/\evC P E k call g (.loop x) s=some (e,st'))=g at hg h
   cases g with
   |zero=>simp[evC] at h
   |succ g'=>
    have hlt:g'<n+1:=Zo
    simp only[evC] at h
    split at h
    ·rename_i s1 h1
     refine B7 hm hE hC g' x hs S h1 fun a' w' S'=>⟨⟨g',s1,Zo,S',h⟩,?_⟩
     have:=(Cm (p:=fun g=> ∃s,g<=n+1/\StR k N K B s a' w'/\evC P E k call g (.loop x) s=some (e,st')) ⟨g',s1,Zo,S',h⟩).2 g' ⟨s1,Zo,S',h⟩
     exact Nat.lt_succ_of_le this
    ·rename_i hne
     refine B7 hm hE hC g' x hs S h fun a' w' S'=>?_
     have:=hQ a' w' S'
     cases e with
     |normal=>exact(hne st' h).elim
     |exit i=>exact this
     |ret=>exact this
     |panic v=>exact this
  |scope x=>
   simp only[slotsIn] at hs
   simp only[evC] at h
   exact wp_scope_straight (B7 hm hE hC n x hs S h fun a' w' S'=>by have:=hQ a' w' S';cases e<;>exact this)
  |exit id=>
   simp only[evC,Option.some.injEq,Prod.mk.injEq] at h
   obtain⟨rfl,rfl⟩:=h
   exact wp_exit (hQ a w S)
  |ret=>
   simp only[evC,Option.some.injEq,Prod.mk.injEq] at h
   obtain⟨rfl,rfl⟩:=h
   exact wp_ret (hQ a w S)
  |_=>simp[evC] at h
termination_by n=>n
end
end
end Go.Ab
