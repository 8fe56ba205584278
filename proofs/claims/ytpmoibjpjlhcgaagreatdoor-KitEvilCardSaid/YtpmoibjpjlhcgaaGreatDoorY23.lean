/- A part of the proof: Gk, Gq. -/
import Derived.Test.YtpmoibjpjlhcgaaGreatDoorY16
import Derived.Test.YtpmoibjpjlhcgaaGreatDoorY22
set_option linter.unusedSimpArgs false
set_option linter.unusedVariables false
set_option maxRecDepth 200000
set_option maxHeartbeats 8000000
namespace Go.Proofs.YtpmoibjpjlhcgaaGreatDoor
open Go Go.Ab Go.Ab.Sy
attribute [-simp] Prog.bind getCs putCs
attribute [local simp ↓] run_bind
attribute [local simp ↓] Ax
attribute [local simp] Av As Bn facetsC facetsW facetsH A5 A0
theorem evil_w {X:Orc}(m:Q.D4)(give src:ByteArray)(hX: ∀a,X.dat 11 a=none)(hd:(lim Tryz.prog E2 X).dat 12 [tv src]=some [.agg m.row]):(lim Tryz.prog E2 X).dat 11 [tv src,tv give]=some [.agg [iv 4,.vec 1 [],tv ⟨#[]⟩,iv 0,uv m.d0,uv m.d1,uv m.d2,uv m.d3,tv give]]:=by
 refine fnW (P:=Tryz.prog) (E:=E2) (X:=X) Tryz.func11 (hX _) rfl Dua rfl rtys_11 rvs_11 ?_
 unfold Q.D4.row at hd
 exact ZS
theorem build_s {X:Orc}(src c:ByteArray)(e:Int)(hX: ∀a,X.dat 8 a=none)(hs:(lim Tryz.prog E2 X).dat 19 [tv src]=some [tv c,iv e]):(lim Tryz.prog E2 X).dat 8 [.agg [iv 1,.sl false 1 [],tv ⟨#[]⟩,iv 0,uv 0,uv 0,uv 0,uv 0,tv ⟨#[]⟩],tv src]=some [tv c,iv e]:=by
 refine fnW (P:=Tryz.prog) (E:=E2) (X:=X) Tryz.func8 (hX _) rfl Nc rfl Tm rvs_8 ?_
 exact ZS
theorem Ru {X:Orc}(m:Q.D4)(give src:ByteArray)(hX: ∀a,X.dat 13 a=none)(hd:(lim Tryz.prog E2 X).dat 12 [tv src]=some [.agg m.row]):(lim Tryz.prog E2 X).dat 13 [.agg [iv 4,.sl false 1 [],tv ⟨#[]⟩,iv 0,uv m.d0,uv m.d1,uv m.d2,uv m.d3,tv give],tv src]=some [bv false]:=by
 refine fnW (P:=Tryz.prog) (E:=E2) (X:=X) Tryz.func13 (hX _) rfl O9 rfl Ze rvs_13 ?_
 unfold Q.D4.row at hd
 repeat' (first|refine ZN ?_|refine Z2 ?_ ?_|(intro h h';try simp[*,-h] at h'))
 all_goals first
  |rfl
  |(exfalso;simp_all;done)
theorem Hia {X:Orc}(m n:Q.D4)(give src:ByteArray)(hX: ∀a,X.dat 13 a=none)(hd:(lim Tryz.prog E2 X).dat 12 [tv src]=some [.agg n.row])(hne:n≠m):(lim Tryz.prog E2 X).dat 13 [.agg [iv 4,.sl false 1 [],tv ⟨#[]⟩,iv 0,uv m.d0,uv m.d1,uv m.d2,uv m.d3,tv give],tv src]=some [bv true]:=by
 refine fnW (P:=Tryz.prog) (E:=E2) (X:=X) Tryz.func13 (hX _) rfl O9 rfl Ze rvs_13 ?_
 unfold Q.D4.row at hd
 have hb:(n.d0==m.d0&&(n.d1==m.d1&&(n.d2==m.d2&&n.d3==m.d3)))=false:=by
  cases n;cases m
  simp at hne⊢
  exact hne
 repeat' (first|refine ZN ?_|refine Z2 ?_ ?_|(intro h h';try simp[*,-h] at h'))
 all_goals first
  |rfl
  |(exfalso;apply hne;cases n;cases m;simp_all;done)
end Go.Proofs.YtpmoibjpjlhcgaaGreatDoor
namespace Go.Proofs.YtpmoibjpjlhcgaaGreatDoor
open Go Go.Ab Go.Ab.Sy
attribute [-simp] Prog.bind getCs putCs
attribute [local simp ↓] run_bind
attribute [local simp ↓] Ax
attribute [local simp] Av As Bn facetsC facetsW facetsH A5 A0
theorem g4_big {X:Orc}(s give t:ByteArray)(hX: ∀a,X.dat 4 a=none)(h6:(lim Tryz.prog E2 X).dat 10 []=some [bv true])(hb: ¬(s.size<=300/\give.size<=300/\t.size<=300)):(lim Tryz.prog E2 X).dat 4 [tv s,tv give,tv t]=some [bv true]:=by
 refine fnW (P:=Tryz.prog) (E:=E2) (X:=X) Tryz.func4 (hX _) rfl Nd rfl Pp rvs_4 ?_
 by_cases h1:s.size<=300
 ·have e1:(s.size:Int)<=300:=by omega
  by_cases h2:give.size<=300
  ·have e2:(give.size:Int)<=300:=by omega
   have e3: ¬(t.size:Int)<=300:=by omega
   clear hb h1 h2
   exact ZS
  ·have e2: ¬(give.size:Int)<=300:=by omega
   clear hb h1 h2
   exact ZS
 ·have e1: ¬(s.size:Int)<=300:=by omega
  clear hb h1
  exact ZS
theorem g4_same {X:Orc}(s give t:ByteArray)(m:Q.D4)(hX: ∀a,X.dat 4 a=none)(h6:(lim Tryz.prog E2 X).dat 10 []=some [bv true])(hv:(lim Tryz.prog E2 X).dat 11 [tv s,tv give]=some [.agg [iv 4,.vec 1 [],tv ⟨#[]⟩,iv 0,uv m.d0,uv m.d1,uv m.d2,uv m.d3,tv give]])(hd:(lim Tryz.prog E2 X).dat 12 [tv s]=some [.agg m.row])(h8:(lim Tryz.prog E2 X).dat 12 [tv t]=some [.agg m.row])(hs:(lim Tryz.prog E2 X).dat 8 [.agg [iv 4,.sl false 1 [],tv ⟨#[]⟩,iv 0,uv m.d0,uv m.d1,uv m.d2,uv m.d3,tv give],tv s]=some [tv give,iv 0])(hh:(lim Tryz.prog E2 X).dat 13 [.agg [iv 4,.sl false 1 [],tv ⟨#[]⟩,iv 0,uv m.d0,uv m.d1,uv m.d2,uv m.d3,tv give],tv s]=some [bv false])(e1:(s.size:Int)<=300)(e2:(give.size:Int)<=300)(e3:(t.size:Int)<=300):(lim Tryz.prog E2 X).dat 4 [tv s,tv give,tv t]=some [bv true]:=by
 refine fnW (P:=Tryz.prog) (E:=E2) (X:=X) Tryz.func4 (hX _) rfl Nd rfl Pp rvs_4 ?_
 unfold Q.D4.row at hd h8
 repeat' (first|refine ZN ?_|refine Z2 ?_ ?_|(intro h h';try simp[*,-h] at h'))
 all_goals first
  |rfl
  |(exfalso;simp_all;done)
theorem g4_else {X:Orc}(s give t c:ByteArray)(m n:Q.D4)(e:Int)(hX: ∀a,X.dat 4 a=none)(h6:(lim Tryz.prog E2 X).dat 10 []=some [bv true])(hv:(lim Tryz.prog E2 X).dat 11 [tv s,tv give]=some [.agg [iv 4,.vec 1 [],tv ⟨#[]⟩,iv 0,uv m.d0,uv m.d1,uv m.d2,uv m.d3,tv give]])(hd:(lim Tryz.prog E2 X).dat 12 [tv s]=some [.agg m.row])(h8:(lim Tryz.prog E2 X).dat 12 [tv t]=some [.agg n.row])(hs:(lim Tryz.prog E2 X).dat 8 [.agg [iv 4,.sl false 1 [],tv ⟨#[]⟩,iv 0,uv m.d0,uv m.d1,uv m.d2,uv m.d3,tv give],tv s]=some [tv give,iv 0])(hh:(lim Tryz.prog E2 X).dat 13 [.agg [iv 4,.sl false 1 [],tv ⟨#[]⟩,iv 0,uv m.d0,uv m.d1,uv m.d2,uv m.d3,tv give],tv s]=some [bv false])(e1:(s.size:Int)<=300)(e2:(give.size:Int)<=300)(e3:(t.size:Int)<=300)(ht:(lim Tryz.prog E2 X).dat 8 [.agg [iv 4,.sl false 1 [],tv ⟨#[]⟩,iv 0,uv m.d0,uv m.d1,uv m.d2,uv m.d3,tv give],tv t]=some [tv c,iv e])(hk:(lim Tryz.prog E2 X).dat 8 [.agg [iv 1,.sl false 1 [],tv ⟨#[]⟩,iv 0,uv 0,uv 0,uv 0,uv 0,tv ⟨#[]⟩],tv t]=some [tv c,iv e])(hh2:(lim Tryz.prog E2 X).dat 13 [.agg [iv 4,.sl false 1 [],tv ⟨#[]⟩,iv 0,uv m.d0,uv m.d1,uv m.d2,uv m.d3,tv give],tv t]=some [bv true])(hne:n≠m):(lim Tryz.prog E2 X).dat 4 [tv s,tv give,tv t]=some [bv true]:=by
 refine fnW (P:=Tryz.prog) (E:=E2) (X:=X) Tryz.func4 (hX _) rfl Nd rfl Pp rvs_4 ?_
 unfold Q.D4.row at hd h8
 repeat' (first|refine ZN ?_|refine Z2 ?_ ?_|(intro h h';try simp[*,-h] at h'))
 all_goals first
  |rfl
  |(exfalso;apply hne;cases n;cases m;simp_all;done)
end Go.Proofs.YtpmoibjpjlhcgaaGreatDoor
