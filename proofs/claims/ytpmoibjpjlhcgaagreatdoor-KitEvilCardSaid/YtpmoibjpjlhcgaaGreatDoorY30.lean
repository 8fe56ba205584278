/- A part of the proof: Gm. -/
import Derived.Test.YtpmoibjpjlhcgaaGreatDoorY21
import Derived.Test.YtpmoibjpjlhcgaaGreatDoorY23
import Derived.Test.YtpmoibjpjlhcgaaGreatDoorY29
set_option linter.unusedSimpArgs false
set_option linter.unusedVariables false
namespace Go.Proofs.YtpmoibjpjlhcgaaGreatDoor
open Go Go.Ab Go.Ab.Sy
def mir1 :ByteArray:=⟨#[83,69,69,68,31,0,0,0,0,0,0,0,83,0,16,1,0,0,16,24,69,0,16,1,0,0,16,24,0,0,16,24,68,0,16,1,0,0,16,24,8,0,128,1,1,0,112,1,31,0,64,1,0,0,36,3,19,0,240,21,19,0,240,21,0,0,35,27,19,0,240,21,7,0,51,4,4,0,83,14,13,0,80,20,0,0,0,26,0,0,32,24,8,0,34,13,0,0,32,24,8,0,34,13,0,0,32,24,8,0,34,13,0,0,32,24,8,0,34,13,0,0,240,22,1,0,0,0,2,0,0,0,3,0,0,0]⟩
def X61 :Orc:=⟨fun f a=>if f==56 then K.readO a else if f==30 then(match a with
 |[.sc (.string s),.sc (.string t)]=>if s=mir1/\t=⟨#[97,98]⟩ then some [bv true] else none
 |_=>none) else none,fun _ _ _ _ _=>none⟩
theorem K_law :ELaw Tryz.prog K.E47:=⟨fun t h=>by simp at h,fun _=>rfl⟩
theorem LK_ok :Ba Tryz.prog (lim Tryz.prog K.E47 K.X47):=Mr Bc K_law K.X47_ok
theorem mir1_is :K.txtI (K.mirC [1,2,3]) 0=mir1:=by kernel_rfl
theorem X61_ok :Ba Tryz.prog X61:=by
 refine⟨fun f a r h=>?_,fun _ _ _ _ _ _ _ h=>nomatch h⟩
 simp only[X61] at h
 split at h
 ·rename_i hf
  have hf2:f=56:=by simpa using hf
  subst hf2
  exact K.X47_ok.1 _ _ _ (by simpa[K.X47] using h)
 ·split at h
  ·rename_i hf
   have hf2:f=30:=by simpa using hf
   subst hf2
   split at h
   ·split at h
    ·rename_i hs
     cases h
     obtain⟨rfl,rfl⟩:=hs
     have h3:=K.d11 [1,2,3] (by decide) (by simp[K.U]) ⟨#[97,98]⟩
     rw[mir1_is] at h3
     exact LK_ok.1 _ _ _ h3
    ·cases h
   ·cases h
  ·cases h
theorem L61_ok :Ba Tryz.prog (lim Tryz.prog E2 X61):=Mr Bc E2_law X61_ok
theorem Jva :(lim Tryz.prog E2 X61).dat 10 []=some [bv true]:=lim_dat.2 ⟨200,by kernel_rfl⟩
theorem stack_e (src:ByteArray)(hs:src.size<9223372036854775807): ∃r:ByteArray×Int,SemD Tryz.prog 19 [tv src] [tv r.1,iv r.2]:=by
 obtain⟨s,_,e,_,h2,_⟩:=stack_w src hs
 exact⟨(s,e),Lm47_ok.1 _ _ _ h2⟩
open Classical in
noncomputable def cK (src:ByteArray):ByteArray×Int:=if h: ∃r:ByteArray×Int,SemD Tryz.prog 19 [tv src] [tv r.1,iv r.2] then Classical.choose h else(⟨#[]⟩,0)
theorem cK_spec (src:ByteArray)(hs:src.size<9223372036854775807):SemD Tryz.prog 19 [tv src] [tv (cK src).1,iv (cK src).2]:=by
 have h:=stack_e src hs
 unfold cK
 rw[dif_pos h]
 exact Classical.choose_spec h
def RdK (f:Nat)(a r:List AV):Prop:=(f=10/\a=[]/\r=[bv true])\/ ∃s,a=[tv s]/\((f=12/\r=[.agg (Q.ofP s).row])\/(f=19/\r=[tv (cK s).1,iv (cK s).2]))
noncomputable def XK :Orc:=semX Tryz.prog RdK (fun _ _ _ _ _ _=>False)
theorem XK_ok :Ba Tryz.prog XK:=Y5 _ _ _
noncomputable abbrev LK :Orc:=lim Tryz.prog E2 XK
theorem LKK_ok :Ba Tryz.prog LK:=Mr Bc E2_law XK_ok
theorem xK_of {f:Nat}{a r:List AV}(h:SemD Tryz.prog f a r)(hr:RdK f a r)(hu: ∀r',RdK f a r'->r'=r):LK.dat f a=some r:=by
 obtain⟨r',h1,h2⟩:=Eoa (Rd:=RdK) (Rh:=fun _ _ _ _ _ _=>False) h hr
 rw[hu r' h2] at h1
 exact Px h1
theorem Lo :LK.dat 10 []=some [bv true]:=xK_of (L61_ok.1 _ _ _ Jva) (by simp[RdK]) (fun r h=>by simpa[RdK] using h)
theorem xK_dig (s:ByteArray)(hs:s.size<=1000000):LK.dat 12 [tv s]=some [.agg (Q.ofP s).row]:=xK_of (Lm46_ok.1 _ _ _ (Q.d34 s hs)) (by simp[RdK]) (fun r h=>by simpa[RdK] using h)
theorem Qn (s:ByteArray)(hs:s.size<9223372036854775807):LK.dat 19 [tv s]=some [tv (cK s).1,iv (cK s).2]:=xK_of (cK_spec s hs) (by simp[RdK]) (fun r h=>by simpa[RdK] using h)
theorem Apa {f:Nat}(a:List AV)(h:f≠10/\f≠12/\f≠19):XK.dat f a=none:=Hc fun r hr=>by
 obtain⟨h1,h4,h5⟩:=h
 simp[RdK,h1,h4,h5] at hr
theorem g4 (s give t:ByteArray):LK.dat 4 [tv s,tv give,tv t]=some [bv true]:=by
 have hX: ∀a,XK.dat 4 a=none:=fun a=>Apa a (by decide)
 have hB: ∀a,XK.dat 8 a=none:=fun a=>Apa a (by decide)
 have hE: ∀a,XK.dat 11 a=none:=fun a=>Apa a (by decide)
 have hH: ∀a,XK.dat 13 a=none:=fun a=>Apa a (by decide)
 by_cases hb:s.size<=300/\give.size<=300/\t.size<=300
 ·obtain⟨h1,h2,h3⟩:=hb
  have ds:=xK_dig s (by omega)
  have dt:=xK_dig t (by omega)
  by_cases hm:Q.ofP t=Q.ofP s
  ·exact g4_same s give t (Q.ofP s) hX Lo (evil_w _ give s hE ds) ds (hm▸dt) (Aka _ give s hB ds) (Ru _ give s hH ds) (by omega) (by omega) (by omega)
  ·exact g4_else s give t (cK t).1 (Q.ofP s) (Q.ofP t) (cK t).2 hX Lo (evil_w _ give s hE ds) ds dt (Aka _ give s hB ds) (Ru _ give s hH ds) (by omega) (by omega) (by omega) (build_n _ _ give t _ _ hB dt (Qn t (by omega)) hm) (build_s t _ _ hB (Qn t (by omega))) (Hia _ _ give t hH dt hm) hm
 ·exact g4_big s give t hX Lo hb
end Go.Proofs.YtpmoibjpjlhcgaaGreatDoor
