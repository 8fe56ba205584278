/- A part of the proof: Qg. -/
import Derived.Test.YtpedpkegmalgmaaGreatDoorZ02
import Derived.Laws.StructEq
import Derived.ChangeKeysEq
set_option linter.unusedSimpArgs false
set_option linter.unusedVariables false
namespace Go.Ab
section
open Go
def flatFs (P:Program):Nat→List Field→Bool
 |_,[]=>true
 |k,f::fs=>f.offset==k&&f.name != "_" &&((!isAggB P f.type&&tOk P f.type&&typesOf P f.type==[f.type]&&flatFs P (k+1) fs)||(arrPl P f.type&&flatFs P (k+P.cellsOf f.type) fs))
theorem ext_list {us:List Value}{k n:Nat}:(⟨us⟩:Array Value).extract k (k+n)=⟨(us.drop k).take n⟩:=by
 apply Array.toList_inj.1
 rw[Array.toList_extract]
 simp[List.extract]
theorem fields_eq {P:Program}{w:World}{d:Nat}(us vs:List Value): ∀(fs:List Field) (k:Nat) (b:Bool),flatFs P k fs=true→fitsL P (fs.flatMap fun f=>typesOf P f.type) ((us.drop k).map .sc)=true→fitsL P (fs.flatMap fun f=>typesOf P f.type) ((vs.drop k).map .sc)=true→
  eqL ((us.drop k).map .sc) ((vs.drop k).map .sc)=some b→(Op.eqFields (d+2) ⟨us⟩ ⟨vs⟩ fs).run P w= .ok b w
 |[],k,b,_,h1,h2,h=>by
  cases hu:us.drop k with
  |cons x xs=>rw[hu] at h1;simp[fitsL] at h1
  |nil=>
   cases hv:vs.drop k with
   |cons x xs=>rw[hv] at h2;simp[fitsL] at h2
   |nil=>
    rw[hu,hv] at h
    simp only[List.map_nil,eqL,Option.some.injEq] at h
    subst h
    simp[Op.eqFields]
 |f::fs,k,b,hf,h1,h2,h=>by
  simp only[flatFs,Bool.and_eq_true,Bool.or_eq_true,beq_iff_eq,bne_iff_ne,ne_eq,Bool.not_eq_true'] at hf
  obtain⟨⟨ho,hn⟩,hc⟩:=hf
  simp only[List.flatMap_cons] at h1 h2
  obtain⟨a1,a2⟩:=fitsL_split h1
  obtain⟨b1,b2⟩:=fitsL_split h2
  obtain⟨p,q,e1,e2,rfl⟩:=eqL_split (typesOf P f.type).length h
  rw[←List.map_take] at a1 b1
  rw[←List.map_take,←List.map_take] at e1
  rw[←List.map_drop,List.drop_drop] at a2 b2
  rw[←List.map_drop,←List.map_drop,List.drop_drop,List.drop_drop] at e2
  have fin: ∀x y,(part f.type ⟨us⟩ f.offset).run P w= .ok x w→(part f.type ⟨vs⟩ f.offset).run P w= .ok y w→(Op.equalIn (d+2) f.type x y).run P w= .ok p w→(Op.eqFields (d+2) ⟨us⟩ ⟨vs⟩ fs).run P w= .ok q w→(Op.eqFields (d+2) ⟨us⟩ ⟨vs⟩ (f::fs)).run P w= .ok (p&&q) w:=by
   intro x y r1 r2 r3 r4
   unfold Op.eqFields
   rw[if_pos hn]
   simp only[Sem.run_bind,r1,r2,Result.andThen_ok,r3]
   cases p with
   |true=>simpa using r4
   |false=>simp
  rcases hc with⟨⟨⟨ha,ht⟩,hty⟩,hrest⟩|⟨harr,hrest⟩
  ·rw[hty] at a1 b1 e1 a2 b2 e2
   simp only[List.length_cons,List.length_nil,Nat.zero_add] at a1 b1 e1 a2 b2 e2
   cases hu:us.drop k with
   |nil=>rw[hu] at a1;simp[fitsL] at a1
   |cons x xs=>
    cases hv:vs.drop k with
    |nil=>rw[hv] at b1;simp[fitsL] at b1
    |cons y ys=>
     obtain⟨hx,hxs⟩:=get_drop hu
     obtain⟨hy,hys⟩:=get_drop hv
     rw[hu] at a1 e1
     rw[hv] at b1 e1
     simp only[List.take_succ_cons,List.take_zero,List.map_cons,List.map_nil,fitsL,Bool.and_true] at a1 b1
     have hp:eqV (.sc x) (.sc y)=some p:=by
      simp only[List.take_succ_cons,List.take_zero,List.map_cons,List.map_nil,eqL] at e1
      split at e1
      ·rename_i p' q' g1 g2
       cases g2
       simp only[Bool.and_true,Option.some.injEq] at e1
       rw[g1,e1]
      ·cases e1
     exact fin x y (by rw[ho];exact run_part ha ht hx) (by rw[ho];exact run_part ha ht hy) (cell_eq a1 b1 hp) (fields_eq us vs fs (k+1) q hrest a2 b2 e2)
  ·have harr':=harr
   unfold arrPl at harr'
   split at harr'
   ·rename_i n e hu
    simp only[Bool.and_eq_true,Bool.not_eq_true',beq_iff_eq] at harr'
    obtain⟨_,hi⟩:=harr'
    obtain⟨i,hi⟩:=Option.isSome_iff_exists.1 hi
    have hlen:(typesOf P f.type).length=P.cellsOf f.type:=by
     unfold typesOf
     rw[hu]
     have:P.cellsOf f.type=n:=by
      have hq:=harr
      unfold arrPl at hq
      rw[hu] at hq
      simp only[Bool.and_eq_true,Bool.not_eq_true',beq_iff_eq] at hq
      exact hq.1.1.2
     simp[this]
    rw[hlen] at a1 b1 e1 a2 b2 e2
    exact fin _ _ (by rw[ho,run_part_arr hu hi,ext_list]) (by rw[ho,run_part_arr hu hi,ext_list]) (arr_eq harr _ _ p a1 b1 e1) (fields_eq us vs fs (k+P.cellsOf f.type) q hrest a2 b2 e2)
   ·cases harr'
theorem struct_law {P:Program}{t:TypeId}(ht:P.underlying t=some (.struct (P.fieldsOf t)))(hs:P.stoodInHeld t=false)(hg:P.eqGuardType P.depth t=false)(hf:flatFs P 0 (P.fieldsOf t).toList=true)(htc:tcs P t=(P.fieldsOf t).toList.flatMap fun f=>typesOf P f.type)
  (w:World) (x y:Operand) (us vs:List Value) (b:Bool) (h1:fitsL P (tcs P t) (us.map .sc)=true) (h2:fitsL P (tcs P t) (vs.map .sc)=true) (h:eqL (us.map .sc) (vs.map .sc)=some b):
  (do eqGuard .eql t x y (.agg ⟨us⟩) (.agg ⟨vs⟩);binOp .eql t (.agg ⟨us⟩) (.agg ⟨vs⟩):Sem Value).run P w= .ok (.bool b) w∧
  (do eqGuard .neq t x y (.agg ⟨us⟩) (.agg ⟨vs⟩);binOp .neq t (.agg ⟨us⟩) (.agg ⟨vs⟩):Sem Value).run P w= .ok (.bool (!b)) w:=by
 rw[htc] at h1 h2
 have hq:(Op.equalIn 10000 t (.agg ⟨us⟩) (.agg ⟨vs⟩)).run P w= .ok b w:=by
  have e:(10000:Nat)=9997+2+1:=rfl
  rw[e,run_equalIn_struct w (9997+2) t ⟨us⟩ ⟨vs⟩ ht hs]
  exact fields_eq us vs _ 0 b hf h1 h2 h
 constructor
 ·simp only[Sem.run_bind,run_eqGuard_agg w .eql t x y ⟨us⟩ ⟨vs⟩ hg,Result.andThen_ok,run_eql_struct,hq]
 ·simp only[Sem.run_bind,run_eqGuard_agg w .neq t x y ⟨us⟩ ⟨vs⟩ hg,Result.andThen_ok,run_neq_struct,hq]
theorem array_law {P:Program}{t:TypeId}(ht:arrPl P t=true)(hg:P.eqGuardType P.depth t=false)(htc:tcs P t=typesOf P t)
  (w:World) (x y:Operand) (us vs:List Value) (b:Bool) (h1:fitsL P (tcs P t) (us.map .sc)=true) (h2:fitsL P (tcs P t) (vs.map .sc)=true) (h:eqL (us.map .sc) (vs.map .sc)=some b):
  (do eqGuard .eql t x y (.agg ⟨us⟩) (.agg ⟨vs⟩);binOp .eql t (.agg ⟨us⟩) (.agg ⟨vs⟩):Sem Value).run P w= .ok (.bool b) w∧
  (do eqGuard .neq t x y (.agg ⟨us⟩) (.agg ⟨vs⟩);binOp .neq t (.agg ⟨us⟩) (.agg ⟨vs⟩):Sem Value).run P w= .ok (.bool (!b)) w:=by
 rw[htc] at h1 h2
 have hq:(Op.equalIn 10000 t (.agg ⟨us⟩) (.agg ⟨vs⟩)).run P w= .ok b w:=arr_eq (d:=9998) ht us vs b h1 h2 h
 constructor
 ·simp only[Sem.run_bind,run_eqGuard_agg w .eql t x y ⟨us⟩ ⟨vs⟩ hg,Result.andThen_ok,run_eql_struct,hq]
 ·simp only[Sem.run_bind,run_eqGuard_agg w .neq t x y ⟨us⟩ ⟨vs⟩ hg,Result.andThen_ok,run_neq_struct,hq]
end
end Go.Ab
