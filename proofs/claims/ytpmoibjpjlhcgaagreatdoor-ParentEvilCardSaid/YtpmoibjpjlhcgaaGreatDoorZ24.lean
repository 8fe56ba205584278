/- A part of the proof: Ga, Gb, Gd. -/
import Derived.Test.YtpmoibjpjlhcgaaGreatDoorZ23
import Derived.Test.YtpmoibjpjlhcgaaGreatDoorZ15
import Derived.Test.YtpmoibjpjlhcgaaGreatDoorZ10
import Derived.Test.YtpmoibjpjlhcgaaGreatDoorZ16
set_option linter.unusedSimpArgs false
set_option linter.unusedVariables false
set_option maxRecDepth 200000
set_option maxHeartbeats 8000000
namespace Go.Proofs.YtpmoibjpjlhcgaaGreatDoor
open Go Go.Ab Go.Ab.Sy
def Rd48 (f:Nat)(a r:List AV):Prop:=f=48∧a=[.agg x1.row]∧r=[bv true]
noncomputable def X48 :Orc:=⟨(semX Tryz.prog Rd48 (fun _ _ _ _ _ _=>False)).dat,X47.hpc⟩
theorem X48_ok :OrcOk Tryz.prog X48:=⟨(semX_ok _ _ _).1,X47_ok.2⟩
theorem Lm48_ok :OrcOk Tryz.prog (Lm X48):=lim_ok mixed47 E47_law X48_ok
theorem X48_no {f:Nat}(a:List AV)(h:f≠48):X48.dat f a=none:=semX_dat_none (Rh:=fun _ _ _ _ _ _=>False) fun r hr=>h hr.1
theorem semD_of {X:Orc}(h:OrcOk Tryz.prog (Lm X)){f:Nat}{a r:List AV}(hf:(Lm X).dat f a=some r):SemD Tryz.prog f a r:=h.1 f a r hf
theorem right_46 :(Lm X46).dat 48 [.agg x1.row]=some [bv true]:=lim_dat.2 ⟨200,by kernel_rfl⟩
theorem right_x :(Lm X48).dat 48 [.agg x1.row]=some [bv true]:=by
 obtain⟨r,h1,h2⟩:=semX_dat (Rd:=Rd48) (Rh:=fun _ _ _ _ _ _=>False) (semD_of Lm46_ok right_46) ⟨rfl,rfl,rfl⟩
 obtain⟨_,_,rfl⟩:=h2
 exact lim_base_dat (X:=X48) h1
theorem read_hx {d gp:Nat}{hp:Hp}{c1v c2v c3v:AV}(hF:Fresh1 s1 gp hp)(hbx:hp ⟨0,5,0⟩= .box gp [c1v,c2v,c3v] false):
  HB Tryz.prog E47 (Lm X48) 0 d 45 [tv s1,.fn 46 [.ptr ⟨0,5,0⟩ gp 0]] hp (fun v hp'=>v= .tup [iv 0,iv 0]∧hp' ⟨0,5,0⟩= .box gp x1.row false∧hp' ⟨0,2,0⟩=hp ⟨0,2,0⟩) (fun _ _=>False):=by
 obtain⟨v,hp',h1,h2⟩:=read_sem (s:=s1) (by decide) hbx
 obtain⟨v',hp'',h3,_,_,s',gp',h4,⟨a,e,_,_,hlow⟩,h5⟩:=semX_hpc (d:=d) (Rd:=fun _ _ _=>False) (Rh:=RhR) h1 ⟨rfl,rfl,s1,gp,rfl,h2⟩
 simp only[List.cons.injEq,AV.sc.injEq,Value.string.injEq,AV.fn.injEq,AV.ptr.injEq,and_true,true_and] at h4
 obtain⟨rfl,rfl⟩:=h4
 exact .inl ⟨v',hp'',lim_base_hpc (X:=X48) h3,(h5 hF).1,(h5 hF).2,hlow 2 0 (by simp)⟩
theorem prog_x :(Lm X48).dat 22 [tv s1]=some [.agg x1.row,iv 0,iv 0]:=by
 refine fnW (P:=Tryz.prog) (E:=E47) (X:=X48) Tryz.func22 (X48_no _ (by decide)) rfl bodyOk_22 rfl rtys_22 rvs_22 ?_
 have rw1:=right_x
 obtain⟨R,hR⟩: ∃R,x1.row=[.sl false 1 [],.sl false 2 [],.sl false 5 [R]]:=⟨_,rfl⟩
 rw[hR] at rw1⊢
 repeat' (first|(refine ZN ?_)|(refine Z2 ?_ ?_)|(intro h h';try simp[*,-h] at h')|((with_reducible apply Wo_call (f:=45));(iterate 5 exact Z5);(apply read_hx);(exact⟨rfl,rfl,fun c=>by simp,fun d i c=>by simp⟩);(exact Zc);rotate_left;(rintro _ _ h;exact h.elim);(rintro _ hp2 ⟨rfl,hb,h2⟩;simp only[hR] at hb;simp at h2))|fail)
 all_goals rfl
def im1 :List (List AV):=[[uv 32505857],[uv 17825799],[uv 286261248],[uv 269484032],[uv 403701760],[uv 436207616]]
def by1 :ByteArray:=⟨#[83,69,69,68,6,0,0,0,1,0,0,0,1,0,240,1,7,0,16,1,0,0,16,17,0,0,16,16,0,0,16,24,0,0,0,26]⟩
theorem image_x :(Lm X46).dat 24 [.agg x1.row]=some [.agg [.vec 1 im1,iv 1],iv 0]:=lim_dat.2 ⟨200,by kernel_rfl⟩
theorem put_x :(Lm X46).dat 26 [.agg [.sl false 1 im1,iv 1]]=some [tv by1,iv 0]:=lim_dat.2 ⟨200,by kernel_rfl⟩
def Rd49 (f:Nat)(a r:List AV):Prop:=(f=22∧a=[tv s1]∧r=[.agg x1.row,iv 0,iv 0])∨(f=24∧a=[.agg x1.row]∧r=[.agg [.vec 1 im1,iv 1],iv 0])∨(f=26∧a=[.agg [.sl false 1 im1,iv 1]]∧r=[tv by1,iv 0])
noncomputable def X49 :Orc:=semX Tryz.prog Rd49 (fun _ _ _ _ _ _=>False)
theorem X49_ok :OrcOk Tryz.prog X49:=semX_ok _ _ _
theorem Lm49_ok :OrcOk Tryz.prog (Lm X49):=lim_ok mixed47 E47_law X49_ok
theorem prog_49 :(Lm X49).dat 22 [tv s1]=some [.agg x1.row,iv 0,iv 0]:=by
 obtain⟨r,h1,h2⟩:=semX_dat (Rd:=Rd49) (Rh:=fun _ _ _ _ _ _=>False) (semD_of Lm48_ok prog_x) (.inl ⟨rfl,rfl,rfl⟩)
 rcases h2 with⟨_,_,rfl⟩|⟨h,_⟩|⟨h,_⟩
 ·exact lim_base_dat h1
 ·exact absurd h (by decide)
 ·exact absurd h (by decide)
theorem image_49 :(Lm X49).dat 24 [.agg x1.row]=some [.agg [.vec 1 im1,iv 1],iv 0]:=by
 obtain⟨r,h1,h2⟩:=semX_dat (Rd:=Rd49) (Rh:=fun _ _ _ _ _ _=>False) (semD_of Lm46_ok image_x) (.inr (.inl ⟨rfl,rfl,rfl⟩))
 rcases h2 with⟨h,_⟩|⟨_,_,rfl⟩|⟨h,_⟩
 ·exact absurd h (by decide)
 ·exact lim_base_dat h1
 ·exact absurd h (by decide)
theorem put_49 :(Lm X49).dat 26 [.agg [.sl false 1 im1,iv 1]]=some [tv by1,iv 0]:=by
 obtain⟨r,h1,h2⟩:=semX_dat (Rd:=Rd49) (Rh:=fun _ _ _ _ _ _=>False) (semD_of Lm46_ok put_x) (.inr (.inr ⟨rfl,rfl,rfl⟩))
 rcases h2 with⟨h,_⟩|⟨h,_⟩|⟨_,_,rfl⟩
 ·exact absurd h (by decide)
 ·exact absurd h (by decide)
 ·exact lim_base_dat h1
theorem X49_no {f:Nat}(a:List AV)(h:f≠22∧f≠24∧f≠26):X49.dat f a=none:=semX_dat_none fun r hr=>by
 rcases hr with⟨e,_⟩|⟨e,_⟩|⟨e,_⟩
 ·exact h.1 e
 ·exact h.2.1 e
 ·exact h.2.2 e
theorem t23_x :(Lm X49).dat 23 [.agg x1.row,iv 0,.fn 24 []]=some [.agg [.vec 1 im1,iv 1],iv 0]:=by
 refine fnW (P:=Tryz.prog) (E:=E47) (X:=X49) Tryz.func23 (X49_no _ (by decide)) rfl bodyOk_23 rfl rtys_23 rvs_23 ?_
 have h1:=image_49
 obtain⟨R,hR⟩: ∃R,x1.row=[.sl false 1 [],.sl false 2 [],.sl false 5 [R]]:=⟨_,rfl⟩
 rw[hR] at h1⊢
 have hl:im1.length=6:=rfl
 have ht:im1.take 6=im1:=rfl
 generalize im1=m1 at*
 repeat' (first|(refine ZN ?_)|(refine Z2 ?_ ?_)|(intro h h';try simp[*,-h] at h'))
 all_goals rfl
theorem t25_x :(Lm X49).dat 25 [.agg [.sl false 1 im1,iv 1],iv 0,.fn 26 []]=some [tv by1,iv 0]:=by
 refine fnW (P:=Tryz.prog) (E:=E47) (X:=X49) Tryz.func25 (X49_no _ (by decide)) rfl bodyOk_25 rfl rtys_25 rvs_25 ?_
 have h1:=put_49
 have hl:im1.length=6:=rfl
 have ht:im1.take 6=im1:=rfl
 generalize im1=m1 at*
 repeat' (first|(refine ZN ?_)|(refine Z2 ?_ ?_)|(intro h h';try simp[*,-h] at h'))
 all_goals rfl
theorem Compile_x :(Lm X49).dat 9 [tv s1]=some [tv by1,iv 0,iv 0]:=by
 refine fnW (P:=Tryz.prog) (E:=E47) (X:=X49) Tryz.func9 (X49_no _ (by decide)) rfl bodyOk_9 rfl rtys_9 rvs_9 ?_
 have h0:=prog_49
 have h1:=t23_x
 have h2:=t25_x
 obtain⟨R,hR⟩: ∃R,x1.row=[.sl false 1 [],.sl false 2 [],.sl false 5 [R]]:=⟨_,rfl⟩
 rw[hR] at h0 h1
 have hl:im1.length=6:=rfl
 have ht:im1.take 6=im1:=rfl
 generalize im1=m1 at*
 repeat' (first|(refine ZN ?_)|(refine Z2 ?_ ?_)|(intro h h';try simp[*,-h] at h'))
 all_goals rfl
theorem stack_x :(Lm X49).dat 19 [tv s1]=some [tv by1,iv 0]:=by
 refine fnW (P:=Tryz.prog) (E:=E47) (X:=X49) Tryz.func19 (X49_no _ (by decide)) rfl bodyOk_19 rfl rtys_19 rvs_19 ?_
 have h0:=Compile_x
 repeat' (first|(refine ZN ?_)|(refine Z2 ?_ ?_)|(intro h h';try simp[*,-h] at h'))
 all_goals rfl
end Go.Proofs.YtpmoibjpjlhcgaaGreatDoor
namespace Go.Proofs.YtpmoibjpjlhcgaaGreatDoor
open Go Go.Ab Go.Ab.Sy
def X51 :Orc:=⟨fun f a=>if f==19 then(match a with
 |[.sc (.string s)]=>if s=s1 then some [tv by1,iv 0] else none
 |_=>none) else none,fun _ _ _ _ _=>none⟩
theorem X51_ok :OrcOk Tryz.prog X51:=by
 refine⟨fun f a r h=>?_,fun _ _ _ _ _ _ _ h=>nomatch h⟩
 simp only[X51] at h
 split at h
 ·rename_i hf
  split at h
  ·split at h
   ·rename_i hs
    cases h
    rw[hs,show f=19 from by simpa using hf]
    exact Lm49_ok.1 _ _ _ stack_x
   ·cases h
  ·cases h
 ·cases h
theorem awake_x :(lim Tryz.prog E2 X51).dat 6 []=some [bv true]:=lim_dat.2 ⟨200,by kernel_rfl⟩
theorem both (src:ByteArray)(hs:src.size<9223372036854775807): ∃r:ByteArray×Int×Int,SemD Tryz.prog 9 [tv src] [tv r.1,iv r.2.1,iv r.2.2]∧SemD Tryz.prog 19 [tv src] [tv r.1,iv r.2.2]:=by
 obtain⟨s,a,e,h1,h2,_⟩:=stack_w src hs
 exact⟨(s,a,e),semD_of Lm47_ok h1,semD_of Lm47_ok h2⟩
open Classical in
noncomputable def cR (src:ByteArray):ByteArray×Int×Int:=if h: ∃r:ByteArray×Int×Int,SemD Tryz.prog 9 [tv src] [tv r.1,iv r.2.1,iv r.2.2]∧SemD Tryz.prog 19 [tv src] [tv r.1,iv r.2.2] then Classical.choose h else(⟨#[]⟩,0,0)
theorem cR_spec (src:ByteArray)(hs:src.size<9223372036854775807):SemD Tryz.prog 9 [tv src] [tv (cR src).1,iv (cR src).2.1,iv (cR src).2.2]∧SemD Tryz.prog 19 [tv src] [tv (cR src).1,iv (cR src).2.2]:=by
 have h:=both src hs
 unfold cR
 rw[dif_pos h]
 exact Classical.choose_spec h
def Rd2 (f:Nat)(a r:List AV):Prop:=(f=6∧a=[]∧r=[bv true])∨ ∃s,a=[tv s]∧((f=7∧r=[.agg (Q.ofP s).row])∨(f=12∧r=[.agg (Q.ofP s).row])∨(f=9∧r=[tv (cR s).1,iv (cR s).2.1,iv (cR s).2.2])∨(f=19∧r=[tv (cR s).1,iv (cR s).2.2]))
noncomputable def X2 :Orc:=semX Tryz.prog Rd2 (fun _ _ _ _ _ _=>False)
theorem X2_ok :OrcOk Tryz.prog X2:=semX_ok _ _ _
noncomputable abbrev L2 :Orc:=lim Tryz.prog E2 X2
theorem L2_ok :OrcOk Tryz.prog L2:=lim_ok mixed47 E2_law X2_ok
theorem x2_of {f:Nat}{a r:List AV}(h:SemD Tryz.prog f a r)(hr:Rd2 f a r)(hu: ∀r',Rd2 f a r'→r'=r):L2.dat f a=some r:=by
 obtain⟨r',h1,h2⟩:=semX_dat (Rd:=Rd2) (Rh:=fun _ _ _ _ _ _=>False) h hr
 rw[hu r' h2] at h1
 exact lim_base_dat h1
theorem L51_ok :OrcOk Tryz.prog (lim Tryz.prog E2 X51):=lim_ok mixed47 E2_law X51_ok
theorem x2_awake :L2.dat 6 []=some [bv true]:=x2_of (L51_ok.1 _ _ _ awake_x) (by simp[Rd2]) (fun r h=>by simpa[Rd2] using h)
theorem x2_ref (s:ByteArray)(hs:s.size≤1000000):L2.dat 7 [tv s]=some [.agg (Q.ofP s).row]:=x2_of (semD_of Lm46_ok (Q.d27 s hs)) (by simp[Rd2]) (fun r h=>by simpa[Rd2] using h)
theorem x2_dig (s:ByteArray)(hs:s.size≤1000000):L2.dat 12 [tv s]=some [.agg (Q.ofP s).row]:=x2_of (semD_of Lm46_ok (Q.d34 s hs)) (by simp[Rd2]) (fun r h=>by simpa[Rd2] using h)
theorem x2_comp (s:ByteArray)(hs:s.size<9223372036854775807):L2.dat 9 [tv s]=some [tv (cR s).1,iv (cR s).2.1,iv (cR s).2.2]:=x2_of (cR_spec s hs).1 (by simp[Rd2]) (fun r h=>by simpa[Rd2] using h)
theorem x2_stack (s:ByteArray)(hs:s.size<9223372036854775807):L2.dat 19 [tv s]=some [tv (cR s).1,iv (cR s).2.2]:=x2_of (cR_spec s hs).2 (by simp[Rd2]) (fun r h=>by simpa[Rd2] using h)
theorem X2_no {f:Nat}(a:List AV)(h:f≠6∧f≠7∧f≠12∧f≠9∧f≠19):X2.dat f a=none:=semX_dat_none fun r hr=>by
 obtain⟨h1,h2,h3,h4,h5⟩:=h
 simp[Rd2,h1,h2,h3,h4,h5] at hr
end Go.Proofs.YtpmoibjpjlhcgaaGreatDoor
namespace Go.Proofs.YtpmoibjpjlhcgaaGreatDoor
open Go Go.Ab Go.Ab.Sy
theorem g3 (s t give:ByteArray):L2.dat 3 [tv s,tv t,tv give]=some [bv true]:=by
 have hX: ∀a,X2.dat 3 a=none:=fun a=>X2_no a (by decide)
 have hB: ∀a,X2.dat 8 a=none:=fun a=>X2_no a (by decide)
 by_cases hb:s.size≤300∧t.size≤300∧give.size≤300
 ·obtain⟨h1,h2,h3⟩:=hb
  by_cases hm:Q.ofP t=Q.ofP s
  ·exact g3_same s t give (cR t).1 (Q.ofP s) (cR t).2.1 (cR t).2.2 hX x2_awake (x2_ref s (by omega)) (hm▸x2_ref t (by omega)) (build_e _ give s hB (x2_dig s (by omega))) (x2_comp t (by omega)) (by omega) (by omega) (by omega) (build_e _ give t hB (hm▸x2_dig t (by omega)))
  ·exact g3_else s t give (cR t).1 (Q.ofP s) (Q.ofP t) (cR t).2.1 (cR t).2.2 hX x2_awake (x2_ref s (by omega)) (x2_ref t (by omega)) (build_e _ give s hB (x2_dig s (by omega))) (x2_comp t (by omega)) (by omega) (by omega) (by omega) (build_n _ _ give t _ _ hB (x2_dig t (by omega)) (x2_stack t (by omega)) hm) hm
 ·exact g3_big s t give hX x2_awake hb
end Go.Proofs.YtpmoibjpjlhcgaaGreatDoor
