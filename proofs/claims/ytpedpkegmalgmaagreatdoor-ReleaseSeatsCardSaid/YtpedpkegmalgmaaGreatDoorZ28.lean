/- A part of the proof: Oz. -/
import Derived.Test.YtpedpkegmalgmaaGreatDoorZ11
import Derived.Test.YtpedpkegmalgmaaGreatDoorZ27
set_option linter.unusedSimpArgs false
set_option linter.unusedVariables false
namespace Go.Proofs.YtpedpkegmalgmaaGreatDoor
section
open Go Go.Ab Go.ChangeShapes Go.WideShapes Go.ChangeAt Go.RowKit
section
variable {H:Type}{enc:TypeId×Value→H}{w:World}{N:Nat}
def toD (x:I4):Q.D4:=⟨x.1,x.2.1,x.2.2.1,x.2.2.2⟩
theorem rowG_toD (l:List I4):rowG (l.map toD)=dr4 l:=by
 show(l.map toD).map Q.D4.row=_
 rw[List.map_map];rfl
def sdR (s:Sd):List AV:=s.sg.row
def ssR (l:List Sd):List AV:=[.sl false 7 (rowSg (l.map Sd.sg))]
def stR (l:List ByteArray):List AV:=[.sl false 1 (rowS l)]
structure RsR where
 s:I4
 b:I4
 p:PaR×PaR
 r:RcR
 l:List Sd
 n:Int
 f:I4
 h:List Sd
def RsR.row (x:RsR):List AV:=r4R x.s++(r4R x.b++((x.p.1.row++(x.p.2.row++[]))++(x.r.row++(ssR x.l++((riR x.n++(r4R x.f++[]))++(ssR x.h++[]))))))
structure AkR where
 r:RsR
 l:List ByteArray
 p:List I4×Int
 fuel:Int
def plR (p:List I4×Int):List AV:=rdsR p.1++(riR p.2++[])
def AkR.row (x:AkR):List AV:=x.r.row++((stR x.l++[])++(plR x.p++(riR x.fuel++[])))
theorem reads_sn2 :Reads H enc Tryz.prog w N 65 (fun p:Int×List I4×List I4=>riR p.1++(rdsR p.2.1++(rdsR p.2.2++[]))) (fun _=>True):=by
 intro fuel cs x h hb
 obtain⟨hl,n,hf⟩:=trod_fields Tryz.underlying65 h hb
 rw[show Tryz.prog.cellsOf 65=3 by kernel_rfl] at hl
 have e0:=hf 0
 have e1:=hf 1
 have e2:=hf 2
 simp only[List.getElem?_toArray,List.getElem?_cons_zero,List.getElem?_cons_succ,Option.some.injEq,forall_eq'] at e0 e1 e2
 obtain⟨y0,h0,b0⟩:=e0
 obtain⟨v0,r0,w0⟩:=(reads_i (N:=N)) _ _ _ h0 b0
 obtain⟨y1,h1,b1⟩:=e1
 obtain⟨v1,r1,w1⟩:=(reads_sig (N:=N)) _ _ _ h1 b1
 obtain⟨y2,h2,b2⟩:=e2
 obtain⟨v2,r2,w2⟩:=(reads_ds (N:=N)) _ _ _ h2 b2
 refine⟨(v0,v1,v2),?_,trivial⟩
 exact rep_step (o:=0) (s:=1) (o':=1) rfl (by simpa only[show Tryz.prog.cellsOf 3=1 by kernel_rfl] using r0) (rep_step (o:=1) (s:=1) (o':=2) rfl (by simpa only[show Tryz.prog.cellsOf 63=1 by kernel_rfl] using r1) (rep_step (o:=2) (s:=1) (o':=3) rfl (by simpa only[show Tryz.prog.cellsOf 29=1 by kernel_rfl] using r2) (rep_end hl)))
theorem reads_sd2 :Reads H enc Tryz.prog w N 67 sdR (fun _=>True):=by
 intro fuel cs x h hb
 obtain⟨hl,n,hf⟩:=trod_fields Tryz.underlying67 h hb
 rw[show Tryz.prog.cellsOf 67=7 by kernel_rfl] at hl
 have e0:=hf 0
 have e1:=hf 1
 simp only[List.getElem?_toArray,List.getElem?_cons_zero,List.getElem?_cons_succ,Option.some.injEq,forall_eq'] at e0 e1
 obtain⟨y0,h0,b0⟩:=e0
 obtain⟨v0,r0,w0⟩:=reads_d4 (N:=N) _ _ _ h0 b0
 obtain⟨y1,h1,b1⟩:=e1
 obtain⟨v1,r1,w1⟩:=reads_sn2 (N:=N) _ _ _ h1 b1
 refine⟨⟨toD v0,v1.1,v1.2.1.map toD,v1.2.2.map toD⟩,?_,trivial⟩
 have e:sdR ⟨toD v0,v1.1,v1.2.1.map toD,v1.2.2.map toD⟩=r4R v0++((riR v1.1++(rdsR v1.2.1++(rdsR v1.2.2++[])))++[]):=by
  simp only[sdR,Sd.sg,Sg.row,rowG_toD,riR,rdsR,r4R,toD,List.cons_append,List.nil_append]
 rw[e]
 exact rep_step (o:=0) (s:=4) (o':=4) rfl (by simpa only[show Tryz.prog.cellsOf 24=4 by kernel_rfl] using r0) (rep_step (o:=4) (s:=3) (o':=7) rfl (by simpa only[show Tryz.prog.cellsOf 65=3 by kernel_rfl] using r1) (rep_end hl))
theorem reads_ss2 :Reads H enc Tryz.prog w N 32 ssR (fun _=>True):=by
 intro fuel cs x h hb
 obtain⟨v,r,_⟩:=reads_slice (N:=N) Tryz.underlying32 (show Tryz.prog.cellsOf 67=7 by kernel_rfl) (by decide) reads_sd2 _ _ _ h hb
 refine⟨v,?_,trivial⟩
 have e:v.map sdR=rowSg (v.map Sd.sg):=by
  show _=(v.map Sd.sg).map Sg.row
  rw[List.map_map];rfl
 unfold ssR
 rw[←e]
 exact r
theorem reads_head2 :Reads H enc Tryz.prog w N 34 (fun a:Int×I4=>riR a.1++(r4R a.2++[])) (fun a=>U4R a.2):=by
 intro fuel cs x h hb
 obtain⟨hl,n,hf⟩:=trod_fields Tryz.underlying34 h hb
 rw[show Tryz.prog.cellsOf 34=5 by kernel_rfl] at hl
 have e0:=hf 0
 have e1:=hf 1
 simp only[List.getElem?_toArray,List.getElem?_cons_zero,List.getElem?_cons_succ,Option.some.injEq,forall_eq'] at e0 e1
 obtain⟨y0,h0,b0⟩:=e0
 obtain⟨v0,r0,w0⟩:=reads_i (N:=N) _ _ _ h0 b0
 obtain⟨y1,h1,b1⟩:=e1
 obtain⟨v1,r1,w1⟩:=reads_d4 (N:=N) _ _ _ h1 b1
 refine⟨(v0,v1),?_,w1⟩
 exact rep_step (o:=0) (s:=1) (o':=1) rfl (by simpa only[show Tryz.prog.cellsOf 3=1 by kernel_rfl] using r0) (rep_step (o:=1) (s:=4) (o':=5) rfl (by simpa only[show Tryz.prog.cellsOf 24=4 by kernel_rfl] using r1) (rep_end hl))
theorem reads_st :Reads H enc Tryz.prog w N 42 stR (fun _=>True):=by
 intro fuel cs x h hb
 obtain⟨v,r,_⟩:=reads_slice (N:=N) Tryz.underlying42 cellsOf_9 (by decide) reads_t _ _ _ h hb
 exact⟨v,r,trivial⟩
theorem reads_store :Reads H enc Tryz.prog w N 44 (fun l:List ByteArray=>stR l++[]) (fun _=>True):=by
 intro fuel cs x h hb
 obtain⟨hl,n,hf⟩:=trod_fields Tryz.underlying44 h hb
 rw[show Tryz.prog.cellsOf 44=1 by kernel_rfl] at hl
 have e0:=hf 0
 simp only[List.getElem?_toArray,List.getElem?_cons_zero,List.getElem?_cons_succ,Option.some.injEq,forall_eq'] at e0
 obtain⟨y0,h0,b0⟩:=e0
 obtain⟨v0,r0,w0⟩:=(reads_st (N:=N)) _ _ _ h0 b0
 refine⟨v0,?_,trivial⟩
 exact rep_step (o:=0) (s:=1) (o':=1) rfl (by simpa only[show Tryz.prog.cellsOf 42=1 by kernel_rfl] using r0) (rep_end hl)
theorem reads_pol :Reads H enc Tryz.prog w N 46 (plR) (fun _=>True):=by
 intro fuel cs x h hb
 obtain⟨hl,n,hf⟩:=trod_fields Tryz.underlying46 h hb
 rw[show Tryz.prog.cellsOf 46=2 by kernel_rfl] at hl
 have e0:=hf 0
 have e1:=hf 1
 simp only[List.getElem?_toArray,List.getElem?_cons_zero,List.getElem?_cons_succ,Option.some.injEq,forall_eq'] at e0 e1
 obtain⟨y0,h0,b0⟩:=e0
 obtain⟨v0,r0,w0⟩:=(reads_ds (N:=N)) _ _ _ h0 b0
 obtain⟨y1,h1,b1⟩:=e1
 obtain⟨v1,r1,w1⟩:=(reads_i (N:=N)) _ _ _ h1 b1
 refine⟨(v0,v1),?_,trivial⟩
 exact rep_step (o:=0) (s:=1) (o':=1) rfl (by simpa only[show Tryz.prog.cellsOf 29=1 by kernel_rfl] using r0) (rep_step (o:=1) (s:=1) (o':=2) rfl (by simpa only[show Tryz.prog.cellsOf 3=1 by kernel_rfl] using r1) (rep_end hl))
theorem reads_rel2 :Reads H enc Tryz.prog w N 36 (RsR.row) (fun x=>U4R x.b∧U4R x.r.m∧(∀a∈x.r.is,U4R a)∧U4R x.f):=by
 intro fuel cs x h hb
 obtain⟨hl,n,hf⟩:=trod_fields Tryz.underlying36 h hb
 rw[show Tryz.prog.cellsOf 36=41 by kernel_rfl] at hl
 have e0:=hf 0
 have e1:=hf 1
 have e2:=hf 2
 have e3:=hf 3
 have e4:=hf 4
 have e5:=hf 5
 have e6:=hf 6
 simp only[List.getElem?_toArray,List.getElem?_cons_zero,List.getElem?_cons_succ,Option.some.injEq,forall_eq'] at e0 e1 e2 e3 e4 e5 e6
 obtain⟨y0,h0,b0⟩:=e0
 obtain⟨v0,r0,w0⟩:=(reads_d4 (N:=N)) _ _ _ h0 b0
 obtain⟨y1,h1,b1⟩:=e1
 obtain⟨v1,r1,w1⟩:=(reads_d4 (N:=N)) _ _ _ h1 b1
 obtain⟨y2,h2,b2⟩:=e2
 obtain⟨v2,r2,w2⟩:=(reads_par2 (N:=N)) _ _ _ h2 b2
 obtain⟨y3,h3,b3⟩:=e3
 obtain⟨v3,r3,w3⟩:=(reads_rec (N:=N)) _ _ _ h3 b3
 obtain⟨y4,h4,b4⟩:=e4
 obtain⟨v4,r4,w4⟩:=(reads_ss2 (N:=N)) _ _ _ h4 b4
 obtain⟨y5,h5,b5⟩:=e5
 obtain⟨v5,r5,w5⟩:=(reads_head2 (N:=N)) _ _ _ h5 b5
 obtain⟨y6,h6,b6⟩:=e6
 obtain⟨v6,r6,w6⟩:=(reads_ss2 (N:=N)) _ _ _ h6 b6
 refine⟨⟨v0,v1,v2,v3,v4,v5.1,v5.2,v6⟩,?_,w1,w3.1,w3.2,w5⟩
 exact rep_step (o:=0) (s:=4) (o':=4) rfl (by simpa only[show Tryz.prog.cellsOf 24=4 by kernel_rfl] using r0) (rep_step (o:=4) (s:=4) (o':=8) rfl (by simpa only[show Tryz.prog.cellsOf 24=4 by kernel_rfl] using r1) (rep_step (o:=8) (s:=18) (o':=26) rfl (by simpa only[show Tryz.prog.cellsOf 28=18 by kernel_rfl] using r2) (rep_step (o:=26) (s:=8) (o':=34) rfl (by simpa only[show Tryz.prog.cellsOf 31=8 by kernel_rfl] using r3) (rep_step (o:=34) (s:=1) (o':=35) rfl (by simpa only[show Tryz.prog.cellsOf 32=1 by kernel_rfl] using r4) (rep_step (o:=35) (s:=5) (o':=40) rfl (by simpa only[show Tryz.prog.cellsOf 34=5 by kernel_rfl] using r5) (rep_step (o:=40) (s:=1) (o':=41) rfl (by simpa only[show Tryz.prog.cellsOf 32=1 by kernel_rfl] using r6) (rep_end hl)))))))
theorem reads_ask :Reads H enc Tryz.prog w N 48 (AkR.row) (fun x=>U4R x.r.b∧U4R x.r.r.m∧(∀a∈x.r.r.is,U4R a)∧U4R x.r.f):=by
 intro fuel cs x h hb
 obtain⟨hl,n,hf⟩:=trod_fields Tryz.underlying48 h hb
 rw[show Tryz.prog.cellsOf 48=45 by kernel_rfl] at hl
 have e0:=hf 0
 have e1:=hf 1
 have e2:=hf 2
 have e3:=hf 3
 simp only[List.getElem?_toArray,List.getElem?_cons_zero,List.getElem?_cons_succ,Option.some.injEq,forall_eq'] at e0 e1 e2 e3
 obtain⟨y0,h0,b0⟩:=e0
 obtain⟨v0,r0,w0⟩:=(reads_rel2 (N:=N)) _ _ _ h0 b0
 obtain⟨y1,h1,b1⟩:=e1
 obtain⟨v1,r1,w1⟩:=(reads_store (N:=N)) _ _ _ h1 b1
 obtain⟨y2,h2,b2⟩:=e2
 obtain⟨v2,r2,w2⟩:=(reads_pol (N:=N)) _ _ _ h2 b2
 obtain⟨y3,h3,b3⟩:=e3
 obtain⟨v3,r3,w3⟩:=(reads_i (N:=N)) _ _ _ h3 b3
 refine⟨⟨v0,v1,v2,v3⟩,?_,w0⟩
 exact rep_step (o:=0) (s:=41) (o':=41) rfl (by simpa only[show Tryz.prog.cellsOf 36=41 by kernel_rfl] using r0) (rep_step (o:=41) (s:=1) (o':=42) rfl (by simpa only[show Tryz.prog.cellsOf 44=1 by kernel_rfl] using r1) (rep_step (o:=42) (s:=2) (o':=44) rfl (by simpa only[show Tryz.prog.cellsOf 46=2 by kernel_rfl] using r2) (rep_step (o:=44) (s:=1) (o':=45) rfl (by simpa only[show Tryz.prog.cellsOf 3=1 by kernel_rfl] using r3) (rep_end hl))))
end
theorem ask_row (x:AkR):x.row=[uv x.r.s.1,uv x.r.s.2.1,uv x.r.s.2.2.1,uv x.r.s.2.2.2,uv x.r.b.1,uv x.r.b.2.1,uv x.r.b.2.2.1,uv x.r.b.2.2.2,iv x.r.p.1.k,.sl false 1 (ir x.r.p.1.ps),tv x.r.p.1.im,iv x.r.p.1.fu,uv x.r.p.1.m.1,uv x.r.p.1.m.2.1,uv x.r.p.1.m.2.2.1,uv x.r.p.1.m.2.2.2,tv x.r.p.1.gv,iv x.r.p.2.k,.sl false 1 (ir x.r.p.2.ps),tv x.r.p.2.im,iv x.r.p.2.fu,uv x.r.p.2.m.1,uv x.r.p.2.m.2.1,uv x.r.p.2.m.2.2.1,uv x.r.p.2.m.2.2.2,tv x.r.p.2.gv,iv x.r.r.t,uv x.r.r.m.1,uv x.r.r.m.2.1,uv x.r.r.m.2.2.1,uv x.r.r.m.2.2.2,.sl false 1 (ir x.r.r.ps),.sl false 4 (dr4 x.r.r.is),iv x.r.r.fu,.sl false 7 (rowSg (x.r.l.map Sd.sg)),iv x.r.n,uv x.r.f.1,uv x.r.f.2.1,uv x.r.f.2.2.1,uv x.r.f.2.2.2,.sl false 7 (rowSg (x.r.h.map Sd.sg)),.sl false 1 (rowS x.l),.sl false 4 (rowG (x.p.1.map toD)),iv x.p.2,iv x.fuel]:=by
 rw[rowG_toD]
 rfl
theorem law4 (x:AkR)(hy:U4R x.r.b)(hm:U4R x.r.r.m)(hi: ∀a∈x.r.r.is,U4R a)(hr:U4R x.r.f):LL7.dat 4 [.agg x.row]=some [bv true]:=by
 rw[ask_row]
 exact g4 x.r.s.1 x.r.s.2.1 x.r.s.2.2.1 x.r.s.2.2.2 x.r.b.1 x.r.b.2.1 x.r.b.2.2.1 x.r.b.2.2.2 x.r.p.1.k x.r.p.1.fu x.r.p.2.k x.r.p.2.fu x.r.p.1.m.1 x.r.p.1.m.2.1 x.r.p.1.m.2.2.1 x.r.p.1.m.2.2.2 x.r.p.2.m.1 x.r.p.2.m.2.1 x.r.p.2.m.2.2.1 x.r.p.2.m.2.2.2 x.r.r.t x.r.r.m.1 x.r.r.m.2.1 x.r.r.m.2.2.1 x.r.r.m.2.2.2 x.r.r.fu x.r.n x.r.f.1 x.r.f.2.1 x.r.f.2.2.1 x.r.f.2.2.2 x.r.p.1.im x.r.p.1.gv x.r.p.2.im x.r.p.2.gv (ir x.r.p.1.ps) (ir x.r.p.2.ps) x.r.r.ps x.r.r.is x.r.l x.r.h x.l (x.p.1.map toD) x.p.2 x.fuel hm hi hy hr
def ask0 :Value:= .agg #[.int .u32 0,.int .u32 0,.int .u32 0,.int .u32 0,.int .u32 0,.int .u32 0,.int .u32 0,.int .u32 0,.int .i64 0,.slice none 0 0,.string ⟨#[]⟩,.int .i64 0,.int .u32 0,.int .u32 0,.int .u32 0,.int .u32 0,.string ⟨#[]⟩,.int .i64 0,.slice none 0 0,.string ⟨#[]⟩,.int .i64 0,.int .u32 0,.int .u32 0,.int .u32 0,.int .u32 0,.string ⟨#[]⟩,.int .i64 0,.int .u32 0,.int .u32 0,.int .u32 0,.int .u32 0,.slice none 0 0,.slice none 0 0,.int .i64 0,.slice none 0 0,.int .i64 0,.int .u32 0,.int .u32 0,.int .u32 0,.int .u32 0,.slice none 0 0,.slice none 0 0,.slice none 0 0,.int .i64 0,.int .i64 0]
theorem rd48 :Tryz.prog.readableRec 48=true:=by kernel_rfl
theorem lt48 :48<Tryz.prog.types.size:=of_decide_eq_true (by kernel_rfl)
theorem want48 :Tryz.prog.wantsStandIn 48=false:=by kernel_rfl
end
end Go.Proofs.YtpedpkegmalgmaaGreatDoor
