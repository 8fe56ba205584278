/- A part of the proof: Ta, Tb, Tc, Td, Te, Tf. -/
import Derived.Test.YtpmoibjpjlhcgaaGreatDoorY08
import Derived.Test.YtpmoibjpjlhcgaaGreatDoorY11
import Derived.Test.YtpmoibjpjlhcgaaGreatDoorY12
set_option linter.unusedSimpArgs false
set_option linter.unusedVariables false
set_option maxRecDepth 200000
set_option maxHeartbeats 8000000
namespace Go.Proofs.YtpmoibjpjlhcgaaGreatDoor
open Go Go.Ab Go.Ab.Sy
abbrev cv (c:Int):AV:= .sc (.int .u8 c)
def digB (c:Int):Bool:=decide (48<=c)&&decide (c<=57)
def letB (c:Int):Bool:=(decide (97<=c)&&decide (c<=122))||(decide (65<=c)&&decide (c<=90))
def innB (c:Int):Bool:=letB c||digB c||(c==95)
def notB (c:Int):Bool:=c !=10
theorem P7 {X:Orc}(hX: ∀f a,X.dat f a=none)(c:Int):(Lm X).dat 156 [cv c]=some [bv (digB c)]:=by
 refine fnW (P:=Tryz.prog) (E:=E47) (X:=X) Tryz.func156 (hX _ _) rfl Xw rfl Fsa rvs_156 ?_
 repeat' (first|refine ZN ?_|refine Z2 ?_ ?_|(intro h h';try simp[*,-h] at h'))
 all_goals (first|(simp_all[digB];done)|(simp_all[digB];omega))
theorem Ms {X:Orc}(hX: ∀f a,X.dat f a=none)(c:Int):(Lm X).dat 159 [cv c]=some [bv (letB c)]:=by
 refine fnW (P:=Tryz.prog) (E:=E47) (X:=X) Tryz.func159 (hX _ _) rfl Xt rfl Fpa rvs_159 ?_
 repeat' (first|refine ZN ?_|refine Z2 ?_ ?_|(intro h h';try simp[*,-h] at h'))
 all_goals (first|(simp_all[letB];done)|(simp_all[letB];omega))
theorem Hca {X:Orc}(hX: ∀f a,X.dat f a=none)(c:Int):(Lm X).dat 161 [cv c]=some [bv (innB c)]:=by
 refine fnW (P:=Tryz.prog) (E:=E47) (X:=X) Tryz.func161 (hX _ _) rfl Xr rfl Fna rvs_161 ?_
 have d1:=P7 hX
 have l1:=Ms hX
 repeat' (first|refine ZN ?_|refine Z2 ?_ ?_|(intro h h';try simp[*,-h] at h'))
 all_goals (first|(simp_all[innB];done)|(simp_all[innB];omega))
theorem not_w {X:Orc}(hX: ∀f a,X.dat f a=none)(c:Int):(Lm X).dat 109 [cv c]=some [bv (notB c)]:=by
 refine fnW (P:=Tryz.prog) (E:=E47) (X:=X) Tryz.func109 (hX _ _) rfl Yo rfl F9a rvs_109 ?_
 repeat' (first|refine ZN ?_|refine Z2 ?_ ?_|(intro h h';try simp[*,-h] at h'))
 all_goals (first|(simp_all[notB];done)|(simp_all[notB];omega))
end Go.Proofs.YtpmoibjpjlhcgaaGreatDoor
namespace Go.Proofs.YtpmoibjpjlhcgaaGreatDoor
open Go Go.Ab Go.Ab.Sy
theorem front_d {X:Orc}(hX: ∀f a,X.dat f a=none)(s:ByteArray)(hs:s.size<9223372036854775807): ∃rs,(Lm X).dat 108 [tv s,.fn 156 []]=some rs/\ ∃n,n<=s.size/\(∀h:n<s.size,digB (s[n]).toNat=false)/\rs=[tv (s.extract 0 n)]:=by
 refine fnR (P:=Tryz.prog) (E:=E47) (X:=X) (R:=fun rs=> ∃n,n<=s.size/\(∀h:n<s.size,digB (s[n]).toNat=false)/\rs=[tv (s.extract 0 n)]) Tryz.func108 (hX _ _) rfl Ht rfl Ma Po ?_
 have d1:=P7 hX
 repeat' (first|refine ZN ?_|refine Z2 ?_ ?_|(intro h h';try simp[*,-h] at h'))
 refine Ah (n:=s.size) (fun s0 m z=> ∃i:Nat,s.size - i<=m/\i<=s.size/\z.fr 0=tv s/\z.fr 1= .fn 156 []/\z.fr 5=iv i) ⟨0,by omega,by omega,by simp,by simp,by simp⟩ ?_
 rintro m ⟨fr,hp⟩ ⟨i,hm,hi,f0,f1,f5⟩
 simp at f0 f1 f5
 by_cases hlt:i<s.size
 all_goals (first|have e1:(i:Int)<s.size:=(by omega)|have e1: ¬(i:Int)<s.size:=(by omega))
 repeat' (first|refine ZN ?_|refine Z2 ?_ ?_|(intro h h';try simp[*,-h] at h'))
 ·exact⟨s.size - (i+1),by omega,i+1,by omega,by omega,by simp[*],by simp[*],by simp[*,wrapN (k:=i) (by omega)]⟩
 ·exact⟨i,hi,fun _=>h',rfl⟩
 ·exact⟨i,hi,fun hh=>absurd hh hlt,rfl⟩
theorem Z9 {X:Orc}(hX: ∀f a,X.dat f a=none)(s:ByteArray)(hs:s.size<9223372036854775807): ∃rs,(Lm X).dat 108 [tv s,.fn 161 []]=some rs/\ ∃n,n<=s.size/\(∀h:n<s.size,innB (s[n]).toNat=false)/\rs=[tv (s.extract 0 n)]:=by
 refine fnR (P:=Tryz.prog) (E:=E47) (X:=X) (R:=fun rs=> ∃n,n<=s.size/\(∀h:n<s.size,innB (s[n]).toNat=false)/\rs=[tv (s.extract 0 n)]) Tryz.func108 (hX _ _) rfl Ht rfl Ma Po ?_
 have d1:=Hca hX
 repeat' (first|refine ZN ?_|refine Z2 ?_ ?_|(intro h h';try simp[*,-h] at h'))
 refine Ah (n:=s.size) (fun s0 m z=> ∃i:Nat,s.size - i<=m/\i<=s.size/\z.fr 0=tv s/\z.fr 1= .fn 161 []/\z.fr 5=iv i) ⟨0,by omega,by omega,by simp,by simp,by simp⟩ ?_
 rintro m ⟨fr,hp⟩ ⟨i,hm,hi,f0,f1,f5⟩
 simp at f0 f1 f5
 by_cases hlt:i<s.size
 all_goals (first|have e1:(i:Int)<s.size:=(by omega)|have e1: ¬(i:Int)<s.size:=(by omega))
 repeat' (first|refine ZN ?_|refine Z2 ?_ ?_|(intro h h';try simp[*,-h] at h'))
 ·exact⟨s.size - (i+1),by omega,i+1,by omega,by omega,by simp[*],by simp[*],by simp[*,wrapN (k:=i) (by omega)]⟩
 ·exact⟨i,hi,fun _=>h',rfl⟩
 ·exact⟨i,hi,fun hh=>absurd hh hlt,rfl⟩
theorem front_c {X:Orc}(hX: ∀f a,X.dat f a=none)(s:ByteArray)(hs:s.size<9223372036854775807): ∃rs,(Lm X).dat 108 [tv s,.fn 109 []]=some rs/\ ∃n,n<=s.size/\(∀h:n<s.size,notB (s[n]).toNat=false)/\rs=[tv (s.extract 0 n)]:=by
 refine fnR (P:=Tryz.prog) (E:=E47) (X:=X) (R:=fun rs=> ∃n,n<=s.size/\(∀h:n<s.size,notB (s[n]).toNat=false)/\rs=[tv (s.extract 0 n)]) Tryz.func108 (hX _ _) rfl Ht rfl Ma Po ?_
 have d1:=not_w hX
 repeat' (first|refine ZN ?_|refine Z2 ?_ ?_|(intro h h';try simp[*,-h] at h'))
 refine Ah (n:=s.size) (fun s0 m z=> ∃i:Nat,s.size - i<=m/\i<=s.size/\z.fr 0=tv s/\z.fr 1= .fn 109 []/\z.fr 5=iv i) ⟨0,by omega,by omega,by simp,by simp,by simp⟩ ?_
 rintro m ⟨fr,hp⟩ ⟨i,hm,hi,f0,f1,f5⟩
 simp at f0 f1 f5
 by_cases hlt:i<s.size
 all_goals (first|have e1:(i:Int)<s.size:=(by omega)|have e1: ¬(i:Int)<s.size:=(by omega))
 repeat' (first|refine ZN ?_|refine Z2 ?_ ?_|(intro h h';try simp[*,-h] at h'))
 ·exact⟨s.size - (i+1),by omega,i+1,by omega,by omega,by simp[*],by simp[*],by simp[*,wrapN (k:=i) (by omega)]⟩
 ·exact⟨i,hi,fun _=>h',rfl⟩
 ·exact⟨i,hi,fun hh=>absurd hh hlt,rfl⟩
end Go.Proofs.YtpmoibjpjlhcgaaGreatDoor
namespace Go.Proofs.YtpmoibjpjlhcgaaGreatDoor
open Go Go.Ab Go.Ab.Sy
theorem Gka {X:Orc}(hX: ∀f a,X.dat f a=none)(s t:ByteArray): ∃rs,(Lm X).dat 155 [tv s,tv t]=some rs/\ ∃b,(b=true->t.size<=s.size)/\rs=[bv b]:=by
 refine fnR (P:=Tryz.prog) (E:=E47) (X:=X) (R:=fun rs=> ∃b,(b=true->t.size<=s.size)/\rs=[bv b]) Tryz.func155 (hX _ _) rfl Xx rfl Fta rvs_155 ?_
 repeat' (first|refine ZN ?_|refine Z2 ?_ ?_|(intro h h';try simp[*,-h] at h'))
 ·exact⟨_,fun _=>h',rfl⟩
 ·exact⟨_,by simp,rfl⟩
theorem Gra {X:Orc}(hX: ∀f a,X.dat f a=none)(s:ByteArray)(hs:s.size<9223372036854775807): ∃rs,(Lm X).dat 157 [tv s]=some rs/\ ∃(k n e:Int) (t:ByteArray),(t=s/\e=0\/e=2)/\rs=[.agg [iz k,tz t,uz n,iz 0],iz e]:=by
 refine fnR (P:=Tryz.prog) (E:=E47) (X:=X) (R:=fun rs=> ∃(k n e:Int) (t:ByteArray),(t=s/\e=0\/e=2)/\rs=[.agg [iz k,tz t,uz n,iz 0],iz e]) Tryz.func157 (hX _ _) rfl Xv rfl Fra rvs_157 ?_
 repeat' (first|refine ZN ?_|refine Z2 ?_ ?_|(intro h h';try simp[*,-h] at h'))
 refine Ah (n:=s.size) (fun s0 m z=> ∃(i:Nat) (a:Int),s.size - i<=m/\i<=s.size/\z.fr 0=tv s/\z.fr 4= .sc (.int .u64 a)/\z.fr 5=iv i/\z.fr 2=s0.fr 2/\z.hp=s0.hp) ⟨0,0,by omega,by omega,by simp,by simp,by simp,rfl,rfl⟩ ?_
 rintro m ⟨fr,hp⟩ ⟨i,a,hm,hi,f0,f4,f5,f2,fh⟩
 simp at f0 f4 f5 f2 fh
 by_cases hlt:i<s.size
 all_goals (first|have e1:(i:Int)<s.size:=(by omega)|have e1: ¬(i:Int)<s.size:=(by omega))
 repeat' (first|refine ZN ?_|refine Z2 ?_ ?_|(intro h h';try simp[*,-h] at h'))
 ·exact⟨0,0,2,⟨#[]⟩,.inr rfl,rfl⟩
 ·refine⟨s.size - (i+1),by omega,i+1,?_⟩
  apply Exists.intro
  refine⟨by omega,by omega,by simp[*],?_,by simp[*,wrapN (k:=i) (by omega)],by simp[*],by simp[*]⟩
  (conv=>lhs;simp[*])<;>exact rfl
 ·exact⟨2,_,0,s,.inl ⟨rfl,rfl⟩,rfl⟩
theorem byte_w {X:Orc}(hX: ∀f a,X.dat f a=none)(s:ByteArray): ∃rs,(Lm X).dat 158 [tv s]=some rs/\ ∃(k n e:Int) (t:ByteArray),(t.size=3/\3<=s.size/\e=0\/e=3)/\rs=[.agg [iz k,tz t,uz n,iz 0],iz e]:=by
 refine fnR (P:=Tryz.prog) (E:=E47) (X:=X) (R:=fun rs=> ∃(k n e:Int) (t:ByteArray),(t.size=3/\3<=s.size/\e=0\/e=3)/\rs=[.agg [iz k,tz t,uz n,iz 0],iz e]) Tryz.func158 (hX _ _) rfl Xu rfl Fqa rvs_158 ?_
 by_cases h3:s.size<3
 all_goals (first|(have e1:(s.size:Int)<3:=(by omega))|(have e1: ¬(s.size:Int)<3:=(by omega);have e2:2<s.size:=(by omega);have e3:1<s.size:=(by omega);have e4:3<=s.size:=(by omega)))
 repeat' (first|refine ZN ?_|refine Z2 ?_ ?_|(intro h h';try simp[*,-h] at h'))
 all_goals (first|exact⟨2,_,0,s.extract 0 3,.inl ⟨by simp;omega,by omega,rfl⟩,rfl⟩|exact⟨0,0,3,⟨#[]⟩,.inr rfl,rfl⟩)
theorem Rt {X:Orc}(hX: ∀f a,X.dat f a=none)(s:ByteArray): ∃rs,(Lm X).dat 163 [tv s]=some rs/\ ∃b,rs=[bv b]:=by
 refine fnR (P:=Tryz.prog) (E:=E47) (X:=X) (R:=fun rs=> ∃b,rs=[bv b]) Tryz.func163 (hX _ _) rfl Xp rfl Fla rvs_163 ?_
 repeat' (first|refine ZN ?_|refine Z2 ?_ ?_|(intro h h';try simp[*,-h] at h'))
 refine Ah (n:=10) (fun s0 m z=> ∃i:Nat,10 - i<=m/\i<=10/\z.fr 0=tv s/\z.fr 2=bv false/\z.fr 4=iv i) ⟨0,by omega,by omega,by simp,by simp,by simp⟩ ?_
 rintro m ⟨fr,hp⟩ ⟨i,hm,hi,f0,f2,f4⟩
 simp at f0 f2 f4
 obtain(rfl|rfl|rfl|rfl|rfl|rfl|rfl|rfl|rfl|rfl|rfl):i=0\/i=1\/i=2\/i=3\/i=4\/i=5\/i=6\/i=7\/i=8\/i=9\/i=10:=by omega
 all_goals simp at f4
 repeat' (first|refine ZN ?_|refine Z2 ?_ ?_|(intro h h';try simp[*,-h] at h'))
 all_goals (first|exact⟨_,rfl⟩|exact⟨9,by omega,1,by omega,by omega,by simp[*],by simp[*],by(first|(simp[*];done)|(simp[*];decide+kernel))⟩|exact⟨8,by omega,2,by omega,by omega,by simp[*],by simp[*],by(first|(simp[*];done)|(simp[*];decide+kernel))⟩|exact⟨7,by omega,3,by omega,by omega,by simp[*],by simp[*],by(first|(simp[*];done)|(simp[*];decide+kernel))⟩|exact⟨6,by omega,4,by omega,by omega,by simp[*],by simp[*],by(first|(simp[*];done)|(simp[*];decide+kernel))⟩|exact⟨5,by omega,5,by omega,by omega,by simp[*],by simp[*],by(first|(simp[*];done)|(simp[*];decide+kernel))⟩|exact⟨4,by omega,6,by omega,by omega,by simp[*],by simp[*],by(first|(simp[*];done)|(simp[*];decide+kernel))⟩|exact⟨3,by omega,7,by omega,by omega,by simp[*],by simp[*],by(first|(simp[*];done)|(simp[*];decide+kernel))⟩|exact⟨2,by omega,8,by omega,by omega,by simp[*],by simp[*],by(first|(simp[*];done)|(simp[*];decide+kernel))⟩|exact⟨1,by omega,9,by omega,by omega,by simp[*],by simp[*],by(first|(simp[*];done)|(simp[*];decide+kernel))⟩|exact⟨0,by omega,10,by omega,by omega,by simp[*],by simp[*],by(first|(simp[*];done)|(simp[*];decide+kernel))⟩)
end Go.Proofs.YtpmoibjpjlhcgaaGreatDoor
namespace Go.Proofs.YtpmoibjpjlhcgaaGreatDoor
open Go Go.Ab Go.Ab.Sy
theorem Kx {X:Orc}(hX: ∀f a,X.dat f a=none)(s t:ByteArray): ∃rs,(Lm X).dat 107 [tv s,tv t]=some rs/\ ∃b,(b=true->t.size<=s.size)/\rs=[bv b]:=by
 refine fnR (P:=Tryz.prog) (E:=E47) (X:=X) (R:=fun rs=> ∃b,(b=true->t.size<=s.size)/\rs=[bv b]) Tryz.func107 (hX _ _) rfl Yp rfl Gaa rvs_107 ?_
 obtain⟨_,h1,b,hb,rfl⟩:=Gka hX s t
 repeat' (first|refine ZN ?_|refine Z2 ?_ ?_|(intro h h';try simp[*,-h] at h'))
 exact⟨b,hb,rfl⟩
theorem name_w {X:Orc}(hX: ∀f a,X.dat f a=none)(s:ByteArray): ∃rs,(Lm X).dat 160 [tv s]=some rs/\ ∃(k n e:Int) (t:ByteArray),(t=s/\e=0\/e=2)/\rs=[.agg [iz k,tz t,uz n,iz 0],iz e]:=by
 refine fnR (P:=Tryz.prog) (E:=E47) (X:=X) (R:=fun rs=> ∃(k n e:Int) (t:ByteArray),(t=s/\e=0\/e=2)/\rs=[.agg [iz k,tz t,uz n,iz 0],iz e]) Tryz.func160 (hX _ _) rfl Xs rfl Foa rvs_160 ?_
 obtain⟨_,h1,b,rfl⟩:=Rt hX s
 repeat' (first|refine ZN ?_|refine Z2 ?_ ?_|(intro h h';try simp[*,-h] at h'))
 all_goals (first|exact⟨_,_,0,s,.inl ⟨rfl,rfl⟩,rfl⟩|exact⟨0,0,2,⟨#[]⟩,.inr rfl,rfl⟩)
theorem first_w {X:Orc}(hX: ∀f a,X.dat f a=none)(s:ByteArray)(h0:0<s.size)(hs:s.size<9223372036854775807): ∃rs,(Lm X).dat 110 [tv s]=some rs/\ ∃(k n e:Int) (t:ByteArray),(1<=t.size/\t.size<=s.size/\e=0\/1<=e)/\rs=[.agg [iz k,tz t,uz n,iz 0],iz e]:=by
 refine fnR (P:=Tryz.prog) (E:=E47) (X:=X) (R:=fun rs=> ∃(k n e:Int) (t:ByteArray),(1<=t.size/\t.size<=s.size/\e=0\/1<=e)/\rs=[.agg [iz k,tz t,uz n,iz 0],iz e]) Tryz.func110 (hX _ _) rfl Yn rfl F8a rvs_110 ?_
 obtain⟨_,fd1,nd,hnd,hpd,rfl⟩:=front_d hX s hs
 obtain⟨_,fn1,nn,hnn,hpn,rfl⟩:=Z9 hX s hs
 obtain⟨_,nu,k1,n1,e1,t1,hr1,rfl⟩:=Gra hX (s.extract 0 nd) (by simp;omega)
 obtain⟨_,na,k2,n2,e2,t2,hr2,rfl⟩:=name_w hX (s.extract 0 nn)
 obtain⟨_,bq,k3,n3,e3,t3,hr3,rfl⟩:=byte_w hX s
 have d1:=P7 hX
 have l1:=Ms hX
 have pw: ∀t,∃b,(b=true->t.size<=s.size)/\(Lm X).dat 107 [tv s,tv t]=some [bv b]:=fun t=>by
  obtain⟨_,h1,b,hb,rfl⟩:=Kx hX s t
  exact⟨b,hb,h1⟩
 obtain⟨bp,hbp⟩: ∃bp:ByteArray->Bool,∀t,(bp t=true->t.size<=s.size)/\(Lm X).dat 107 [tv s,tv t]=some [bv (bp t)]:=⟨fun t=>Classical.choose (pw t),fun t=>Classical.choose_spec (pw t)⟩
 have hb1:=fun t=>(hbp t).1
 have hb2:=fun t=>(hbp t).2
 clear hbp pw
 repeat' (first|refine ZN ?_|refine Z2 ?_ ?_|(intro h h';try simp[*,-h] at h'))
 ·have z1:nd≠0:=(by rintro rfl;have q:digB ↑s[0].toNat=true:=h';rw[hpd h0] at q;cases q)
  rcases hr1 with⟨rfl,rfl⟩|rfl
  ·exact⟨k1,n1,0,_,.inl ⟨by simp;omega,by simp;omega,rfl⟩,rfl⟩
  ·exact⟨k1,n1,2,t1,.inr (by decide),rfl⟩
 ·rcases hr3 with⟨ha,hb,rfl⟩|rfl
  ·exact⟨k3,n3,0,_,.inl ⟨by omega,by omega,rfl⟩,rfl⟩
  ·exact⟨k3,n3,3,t3,.inr (by decide),rfl⟩
 ·have z1:nn≠0:=(by rintro rfl;have q:innB ↑s[0].toNat=true:=(by simp only[innB,Bool.or_eq_true];exact .inl (.inl h'));rw[hpn h0] at q;cases q)
  rcases hr2 with⟨rfl,rfl⟩|rfl
  ·exact⟨k2,n2,0,_,.inl ⟨by simp;omega,by simp;omega,rfl⟩,rfl⟩
  ·exact⟨k2,n2,2,t2,.inr (by decide),rfl⟩
 refine Ah (n:=24) (fun s0 m z=> ∃i:Nat,24 - i<=m/\i<=24/\z.fr 0=tv s/\z.fr 2=s0.fr 2/\z.hp=s0.hp/\z.fr 31=iv i) ⟨0,by omega,by omega,by simp,rfl,rfl,by simp⟩ ?_
 rintro m ⟨fr,hp⟩ ⟨i,hm,hi,f0,f2,fh,f4⟩
 simp at f0 f2 f4 fh
 obtain(rfl|rfl|rfl|rfl|rfl|rfl|rfl|rfl|rfl|rfl|rfl|rfl|rfl|rfl|rfl|rfl|rfl|rfl|rfl|rfl|rfl|rfl|rfl|rfl|rfl):i=0\/i=1\/i=2\/i=3\/i=4\/i=5\/i=6\/i=7\/i=8\/i=9\/i=10\/i=11\/i=12\/i=13\/i=14\/i=15\/i=16\/i=17\/i=18\/i=19\/i=20\/i=21\/i=22\/i=23\/i=24:=by omega
 all_goals simp at f4
 repeat' (first|refine ZN ?_|refine Z2 ?_ ?_|(intro h h';try simp[*,-h] at h'))
 all_goals (first|exact⟨_,_,0,_,.inl ⟨by decide,hb1 _ h',rfl⟩,rfl⟩|exact⟨0,0,3,⟨#[]⟩,.inr (by decide),rfl⟩|exact⟨23,by omega,1,by omega,by omega,by simp[*],by simp[*],by simp[*],by(first|(simp[*];done)|(simp[*];decide+kernel))⟩|exact⟨22,by omega,2,by omega,by omega,by simp[*],by simp[*],by simp[*],by(first|(simp[*];done)|(simp[*];decide+kernel))⟩|exact⟨21,by omega,3,by omega,by omega,by simp[*],by simp[*],by simp[*],by(first|(simp[*];done)|(simp[*];decide+kernel))⟩|exact⟨20,by omega,4,by omega,by omega,by simp[*],by simp[*],by simp[*],by(first|(simp[*];done)|(simp[*];decide+kernel))⟩|exact⟨19,by omega,5,by omega,by omega,by simp[*],by simp[*],by simp[*],by(first|(simp[*];done)|(simp[*];decide+kernel))⟩|exact⟨18,by omega,6,by omega,by omega,by simp[*],by simp[*],by simp[*],by(first|(simp[*];done)|(simp[*];decide+kernel))⟩|exact⟨17,by omega,7,by omega,by omega,by simp[*],by simp[*],by simp[*],by(first|(simp[*];done)|(simp[*];decide+kernel))⟩|exact⟨16,by omega,8,by omega,by omega,by simp[*],by simp[*],by simp[*],by(first|(simp[*];done)|(simp[*];decide+kernel))⟩|exact⟨15,by omega,9,by omega,by omega,by simp[*],by simp[*],by simp[*],by(first|(simp[*];done)|(simp[*];decide+kernel))⟩|exact⟨14,by omega,10,by omega,by omega,by simp[*],by simp[*],by simp[*],by(first|(simp[*];done)|(simp[*];decide+kernel))⟩|exact⟨13,by omega,11,by omega,by omega,by simp[*],by simp[*],by simp[*],by(first|(simp[*];done)|(simp[*];decide+kernel))⟩|exact⟨12,by omega,12,by omega,by omega,by simp[*],by simp[*],by simp[*],by(first|(simp[*];done)|(simp[*];decide+kernel))⟩|exact⟨11,by omega,13,by omega,by omega,by simp[*],by simp[*],by simp[*],by(first|(simp[*];done)|(simp[*];decide+kernel))⟩|exact⟨10,by omega,14,by omega,by omega,by simp[*],by simp[*],by simp[*],by(first|(simp[*];done)|(simp[*];decide+kernel))⟩|exact⟨9,by omega,15,by omega,by omega,by simp[*],by simp[*],by simp[*],by(first|(simp[*];done)|(simp[*];decide+kernel))⟩|exact⟨8,by omega,16,by omega,by omega,by simp[*],by simp[*],by simp[*],by(first|(simp[*];done)|(simp[*];decide+kernel))⟩|exact⟨7,by omega,17,by omega,by omega,by simp[*],by simp[*],by simp[*],by(first|(simp[*];done)|(simp[*];decide+kernel))⟩|exact⟨6,by omega,18,by omega,by omega,by simp[*],by simp[*],by simp[*],by(first|(simp[*];done)|(simp[*];decide+kernel))⟩|exact⟨5,by omega,19,by omega,by omega,by simp[*],by simp[*],by simp[*],by(first|(simp[*];done)|(simp[*];decide+kernel))⟩|exact⟨4,by omega,20,by omega,by omega,by simp[*],by simp[*],by simp[*],by(first|(simp[*];done)|(simp[*];decide+kernel))⟩|exact⟨3,by omega,21,by omega,by omega,by simp[*],by simp[*],by simp[*],by(first|(simp[*];done)|(simp[*];decide+kernel))⟩|exact⟨2,by omega,22,by omega,by omega,by simp[*],by simp[*],by simp[*],by(first|(simp[*];done)|(simp[*];decide+kernel))⟩|exact⟨1,by omega,23,by omega,by omega,by simp[*],by simp[*],by simp[*],by(first|(simp[*];done)|(simp[*];decide+kernel))⟩|exact⟨0,by omega,24,by omega,by omega,by simp[*],by simp[*],by simp[*],by(first|(simp[*];done)|(simp[*];decide+kernel))⟩)
end Go.Proofs.YtpmoibjpjlhcgaaGreatDoor
namespace Go.Proofs.YtpmoibjpjlhcgaaGreatDoor
open Go Go.Ab Go.Ab.Sy
theorem Lex_w {X:Orc}(hX: ∀f a,X.dat f a=none)(s:ByteArray)(hs:s.size<9223372036854775807): ∃rs,(Lm X).dat 71 [tv s]=some rs/\ ∃(T:List Tok) (a e:Int),T.length<=s.size/\T.length<=20000/\0<=e/\rs=[.vec 4 (T.map Tok.row),iz a,iz e]:=by
 refine fnR (P:=Tryz.prog) (E:=E47) (X:=X) (R:=fun rs=> ∃(T:List Tok) (a e:Int),T.length<=s.size/\T.length<=20000/\0<=e/\rs=[.vec 4 (T.map Tok.row),iz a,iz e]) Tryz.func71 (hX _ _) rfl C9a rfl rtys_71 rvs_71 ?_
 by_cases h2:s.size<=20000
 all_goals (first|have e1:(s.size:Int)<=20000:=(by omega)|have e1: ¬(s.size:Int)<=20000:=(by omega))
 repeat' (first|refine ZN ?_|refine Z2 ?_ ?_|(intro h h';try simp[*,-h] at h')|(with_reducible first|apply Qi|apply W_sscope|apply No|apply Ln)|fail)
 ·exact⟨[],0,2,by simp,by simp,by decide,rfl⟩
 rotate_left
 ·exact⟨[],0,2,by simp,by simp,by decide,rfl⟩
 refine Ah (n:=s.size) (fun s0 m z=> ∃(i g:Nat) (T:List Tok),s.size - i<=m/\i<=s.size/\T.length<=i/\z.fr 0=tv s/\z.fr 5= .own ⟨0,5,0⟩ g T.length/\z.fr 6=iv i/\z.hp ⟨0,5,0⟩= .arr g 4 141 (T.map Tok.row) false) ⟨0,1,[],by omega,by omega,by simp,by simp,by simp,by simp,by simp⟩ ?_
 rintro m ⟨fr,hp⟩ ⟨i,g,T,hm,hi,hT,f0,f5,f6,h5⟩
 simp at f0 f5 f6 h5
 have x1:(T.length+1)*40<=140737488355328:=by omega
 have x2:T.length<=9223372036854775806:=by omega
 by_cases hlt:i<s.size
 all_goals (first|have e1:(i:Int)<s.size:=(by omega)|have e1: ¬(i:Int)<s.size:=(by omega))
 ·obtain⟨_,fw,k1,n1,ee,t1,hr1,rfl⟩:=first_w hX (s.extract i s.size) (by simp;omega) (by simp;omega)
  obtain⟨_,pw,b1,hb1,rfl⟩:=Kx hX (s.extract i s.size) ⟨#[47,47]⟩
  obtain⟨_,cw,nc,hnc,hpc,rfl⟩:=front_c hX (s.extract i s.size) (by simp;omega)
  repeat' (first|refine ZN ?_|refine Z2 ?_ ?_|(intro h h';try simp[*,-h] at h')|(with_reducible first|apply Qi|apply W_sscope|apply No|apply Ln)|fail)
  ·exact⟨s.size - (i+1),by omega,i+1,g,T,by omega,by omega,by omega,by simp[*],by simp[*],by simp[*,wrapN (k:=i) (by omega)],by simp[*]⟩
  ·have hn0:i+1<=s.size:=(by omega)
   have hx:(s.extract i s.size).size=s.size - i:=by simp
   have z1:nc≠0:=by
    rintro rfl
    have q:=hpc (by omega)
    have q2:(s.extract i s.size)[0]'(by omega)=s.data[i]:=by simp[ByteArray.getElem_extract];rfl
    rw[q2] at q
    simp[notB] at q
    omega
   rw[hx] at hnc
   have z2:min nc (s.size - i)=nc:=by omega
   have z3:IntKind.i64.wrap ((i:Int)+nc)=(i:Int)+nc:=Ag (by omega) (by omega)
   clear hpc
   exact⟨s.size - (i+nc),by omega,i+nc,g,T,by omega,by omega,by omega,by simp[*],by simp[*],by simp[*],by simp[*]⟩
  ·exact⟨[],i,ee,by simp,by simp,by omega,rfl⟩
  ·obtain⟨h6,h7,rfl⟩|h6:=hr1
   ·have hx:(s.extract i s.size).size=s.size - i:=by simp
    rw[hx] at h7
    have z3:IntKind.i64.wrap ((i:Int)+t1.size)=(i:Int)+t1.size:=Ag (by omega) (by omega)
    clear hpc hnc
    exact⟨s.size - (i+t1.size),by omega,i+t1.size,g+1,T++[⟨k1,⟨t1,by omega⟩,n1,i⟩],by omega,by omega,by simp;omega,by simp[*],by simp[*],by simp[*],by first|(simp[*];done)|(simp[*];rfl)⟩
   ·omega
  ·exact⟨s.size - (i+1),by omega,i+1,g,T,by omega,by omega,by omega,by simp[*],by simp[*],by simp[*,wrapN (k:=i) (by omega)],by simp[*]⟩
  ·exact⟨s.size - (i+1),by omega,i+1,g,T,by omega,by omega,by omega,by simp[*],by simp[*],by simp[*,wrapN (k:=i) (by omega)],by simp[*]⟩
 repeat' (first|refine ZN ?_|refine Z2 ?_ ?_|(intro h h';try simp[*,-h] at h')|(with_reducible first|apply Qi|apply W_sscope|apply No|apply Ln)|fail)
 exact⟨T,0,0,by omega,by omega,by decide,rfl⟩
end Go.Proofs.YtpmoibjpjlhcgaaGreatDoor
namespace Go.Proofs.YtpmoibjpjlhcgaaGreatDoor
open Go Go.Ab Go.Ab.Sy
theorem Name_w {X:Orc}(hX: ∀f a,X.dat f a=none)(s:ByteArray)(hs:s.size<9223372036854775807): ∃rs,(Lm X).dat 114 [tv s]=some rs/\ ∃b,rs=[bv b]:=by
 refine fnR (P:=Tryz.prog) (E:=E47) (X:=X) (R:=fun rs=> ∃b,rs=[bv b]) Tryz.func114 (hX _ _) rfl Yj rfl F6a rvs_114 ?_
 obtain⟨_,fn1,nn,hnn,hpn,rfl⟩:=Z9 hX s hs
 obtain⟨_,iw,b,rfl⟩:=Rt hX s
 have l1:=Ms hX
 by_cases h0:s=⟨#[]⟩
 ·subst h0
  repeat' (first|refine ZN ?_|refine Z2 ?_ ?_|(intro h h';try simp[*,-h] at h'))
  all_goals exact⟨_,rfl⟩
 have hz:0<s.size:=by
  rcases Nat.eq_zero_or_pos s.size with h|h
  ·exact absurd (ByteArray.ext (Array.eq_empty_of_size_eq_zero h)) h0
  ·exact h
 repeat' (first|refine ZN ?_|refine Z2 ?_ ?_|(intro h h';try simp[*,-h] at h'))
 all_goals exact⟨_,rfl⟩
end Go.Proofs.YtpmoibjpjlhcgaaGreatDoor
