/- A part of the proof: Pa, Pb, Pc, Pd, Pe, Pf, Pg, Ph, Pi, Ta, Tb, Tc, Td, Te, Tf. -/
import Derived.Test.YtpmoibjpjlhcgaaGreatDoorT05
import Derived.Test.YtpmoibjpjlhcgaaGreatDoorT06
import Derived.Lib.Hide
set_option linter.unusedSimpArgs false
set_option linter.unusedVariables false
set_option maxRecDepth 200000
set_option maxHeartbeats 8000000
namespace Go.Proofs.YtpmoibjpjlhcgaaGreatDoor
section
open Go Go.Ab Go.Ab.Sy
def wrongV (a:Int):Value:= .iface 135 (.agg ⟨[.int .i64 a]⟩)
structure Rd (T:List Tok)(e:Int)(q gx gy n:Nat)(hp:Hp):Prop where
 box:hp ⟨1,q,0⟩= .box gx [.own ⟨1,q,1⟩ gy T.length,iv n,iv e] false
 arr:hp ⟨1,q,1⟩= .arr gy 4 141 (T.map Tok.row) false
 len:T.length<=1048576
 le:n<=T.length
def Far (k q:Nat)(hp1 hp2:Hp):Prop:= ∀d i c,d<=k->(⟨d,i,c⟩:Nm)≠⟨1,q,0⟩->hp2 ⟨d,i,c⟩=hp1 ⟨d,i,c⟩
abbrev Wr (k q:Nat)(hp1:Hp)(v:Value)(hp2:Hp):Prop:=(∃a,v=wrongV a)/\Far k q hp1 hp2
def peekT (T:List Tok)(n:Nat):ByteArray:=match T[n]? with|some t=>if t.kind=3\/t.kind=4 then t.text.1 else⟨#[]⟩|none=>⟨#[]⟩
def kindT (T:List Tok)(n:Nat):Int:=match T[n]? with|some t=>t.kind|none=>0
attribute [simp] resultV lowerRes lowerV lowerAll
theorem Af {P:Program}{E:Cfg}{X:Orc}{f k k1 d:Nat}{fn:Func}{c:Code}{args:List AV}{hp:Hp}{rvs:List ResultVar}{R:AV->Hp->Prop}{PR:Value->Hp->Prop}(hk:k+1=k1)(hf:P.funcs[f]?=some fn)(hx:X.hpc k d f args hp=none)(hb:fn.body=some c)(hok:Ac fn=true)(hl:args.length=fn.params.size+fn.nfree)
  (hrv:fn.results.toList=rvs) (h:W P E k1 (lim P E X) c ⟨frame0 args,hp⟩ (EndB P k d rvs R PR)) (hi:E.inl f=false:=by first|rfl|simp) (hz:E.frz f=false:=by first|rfl|simp):
  (∃v hp',(lim P E X).hpc k d f args hp=some (v,hp')/\R v hp')\/ ∃n v hp',Pan P E (lim P E X) (.fn k f args hp) n v hp'/\PR v hp':=by
 subst hk
 exact K8a hf hx hb hok hl hrv h hi hz
theorem Bc {P:Program}{E:Cfg}{X:Orc}{f k k1 d:Nat}{fn:Func}{c:Code}{args:List AV}{hp:Hp}{rvs:List ResultVar}{ts:List TypeId}{R:AV->Hp->Prop}{PR:Value->Hp->Prop}(hk:k+1=k1)(hf:P.funcs[f]?=some fn)(hx:X.hpc k d f args hp=none)(hb:fn.body=some c)(hok:Ac fn=true)(hl:args.length=fn.params.size+fn.nfree)
  (hrv:fn.results.toList=rvs) (ht:rtys P f=ts) (h:W P E k1 (lim P E X) c ⟨frame0 args,hp⟩ (C9a P ts rvs R PR)) (hi:E.inl f=false:=by first|rfl|simp) (hz:E.frz f=true:=by first|rfl|simp):
  (∃v hp',(lim P E X).hpc k d f args hp=some (v,hp')/\R v hp')\/ ∃n v hp',Pan P E (lim P E X) (.fn k f args hp) n v hp'/\PR v hp':=by
 subst hk
 exact Ema hf hx hb hok hl hrv ht h hi hz
attribute [simp] resultV lowerRes lowerV lowerAll
@[simp] theorem Tok.row_mk (k:Int)(t:Tx)(n a:Int):Tok.row ⟨k,t,n,a⟩=[iz k,tz t.1,uz n,iz a]:=rfl
theorem Pm {T:List Tok}{n:Nat}(h: ¬n<T.length):T[n]?=none:=List.getElem?_eq_none Zo
@[simp] theorem lk_ne {d k i j c c':Nat}(h:d≠k):((⟨d,i,c⟩:Nm)=⟨k,j,c'⟩)=False:=by simp[h]
theorem peek {T:List Tok}{e:Int}{q n gx gy:Nat}(D:Nat)(hD:1<=D)(d:Nat)(hp1:Hp)(hr:Rd T e q gx gy n hp1):HB P0 E47 (Lm X46) D d 111 [.ptr ⟨1,q,0⟩ gx 0] hp1 (fun v hp2=>v=tv (peekT T n)/\Rd T e q gx gy n hp2/\Far D q hp1 hp2) (Wr D q hp1):=by
 obtain⟨k,rfl⟩: ∃k,D=k+1:=⟨D - 1,Zo⟩
 clear hD
 refine Af (k1:=k+2) (PR:=Wr (k+1) q hp1) rfl Tryz.func111 rfl rfl Bla rfl rvs_111 ?_
 obtain⟨h1,h2,hlen,hle⟩:=hr
 by_cases hn:n<T.length
 ·have e1:(n:Int)<T.length:=Zo
  have e3:T[n]?=some T[n]:=List.getElem?_eq_getElem hn
  generalize hq:T[n]=t at*
  obtain⟨tk,tt,tn,ta⟩:=t
  by_cases k3:tk=3
  ·subst k3
   repeat' (first|refine ZN ?_|refine Z2 ?_ ?_|(intro h h';try simp[*,-h] at h'))
   all_goals refine⟨by simp[peekT,kindT,e3, *];done,⟨Zm,Zm,hlen,hle⟩,fun d i c hd hne=>by have hd2:d≠k+2:=Zo;simp[hd2,hne]⟩
  ·by_cases k4:tk=4
   ·subst k4
    repeat' (first|refine ZN ?_|refine Z2 ?_ ?_|(intro h h';try simp[*,-h] at h'))
    all_goals refine⟨by simp[peekT,kindT,e3, *];done,⟨Zm,Zm,hlen,hle⟩,fun d i c hd hne=>by have hd2:d≠k+2:=Zo;simp[hd2,hne]⟩
   ·have q3:(tk==3)=false:=by simpa using k3
    have q4:(tk==4)=false:=by simpa using k4
    repeat' (first|refine ZN ?_|refine Z2 ?_ ?_|(intro h h';try simp[*,-h] at h'))
    all_goals refine⟨by simp[peekT,kindT,e3, *];done,⟨Zm,Zm,hlen,hle⟩,fun d i c hd hne=>by have hd2:d≠k+2:=Zo;simp[hd2,hne]⟩
 ·have e1: ¬(n:Int)<T.length:=Zo
  have e3:T[n]?=none:=Pm hn
  repeat' (first|refine ZN ?_|refine Z2 ?_ ?_|(intro h h';try simp[*,-h] at h'))
  all_goals refine⟨by simp[peekT,kindT,e3, *];done,⟨Zm,Zm,hlen,hle⟩,fun d i c hd hne=>by have hd2:d≠k+2:=Zo;simp[hd2,hne]⟩
theorem kind {T:List Tok}{e:Int}{q n gx gy:Nat}(D:Nat)(hD:1<=D)(d:Nat)(hp1:Hp)(hr:Rd T e q gx gy n hp1):HB P0 E47 (Lm X46) D d 112 [.ptr ⟨1,q,0⟩ gx 0] hp1 (fun v hp2=>v=iv (kindT T n)/\Rd T e q gx gy n hp2/\Far D q hp1 hp2) (Wr D q hp1):=by
 obtain⟨k,rfl⟩: ∃k,D=k+1:=⟨D - 1,Zo⟩
 clear hD
 refine Af (k1:=k+2) (PR:=Wr (k+1) q hp1) rfl Tryz.func112 rfl rfl Bka rfl rvs_112 ?_
 obtain⟨h1,h2,hlen,hle⟩:=hr
 by_cases hn:n<T.length
 ·have e1:(n:Int)<T.length:=Zo
  have e3:T[n]?=some T[n]:=List.getElem?_eq_getElem hn
  generalize hq:T[n]=t at*
  obtain⟨tk,tt,tn,ta⟩:=t
  repeat' (first|refine ZN ?_|refine Z2 ?_ ?_|(intro h h';try simp[*,-h] at h'))
  all_goals refine⟨by simp[peekT,kindT,e3, *];done,⟨Zm,Zm,hlen,hle⟩,fun d i c hd hne=>by have hd2:d≠k+2:=Zo;simp[hd2,hne]⟩
 ·have e1: ¬(n:Int)<T.length:=Zo
  have e3:T[n]?=none:=Pm hn
  repeat' (first|refine ZN ?_|refine Z2 ?_ ?_|(intro h h';try simp[*,-h] at h'))
  all_goals refine⟨by simp[peekT,kindT,e3, *];done,⟨Zm,Zm,hlen,hle⟩,fun d i c hd hne=>by have hd2:d≠k+2:=Zo;simp[hd2,hne]⟩
theorem fail {T:List Tok}{e:Int}{q n gx gy:Nat}(D:Nat)(hD:1<=D)(d:Nat)(hp1:Hp)(hr:Rd T e q gx gy n hp1):HB P0 E47 (Lm X46) D d 73 [.ptr ⟨1,q,0⟩ gx 0] hp1 (fun v hp2=>False) (Wr D q hp1):=by
 obtain⟨k,rfl⟩: ∃k,D=k+1:=⟨D - 1,Zo⟩
 clear hD
 refine Af (k1:=k+2) (PR:=Wr (k+1) q hp1) rfl Tryz.func73 rfl rfl Fza rfl rvs_73 ?_
 obtain⟨h1,h2,hlen,hle⟩:=hr
 by_cases hn:n<T.length
 ·have e1:(n:Int)<T.length:=Zo
  have e3:T[n]?=some T[n]:=List.getElem?_eq_getElem hn
  generalize hq:T[n]=t at*
  obtain⟨tk,tt,tn,ta⟩:=t
  repeat' (first|(apply W_srdt (c:=13) (idx:=[0,1,2,3,4,5,6,7,8,9,10,11,12]);kernel_rfl;kernel_rfl;(simp only[List.map_cons,List.map_nil,Array.getD_eq_getD_getElem?,List.getElem?_toArray,List.getElem?_cons_zero,List.getElem?_cons_succ,Option.getD_some]);(repeat' (first|exact Free.nil|((with_reducible apply Cc);(exact Zc))));exact rfl;exact Zc)|(refine Z1 ?_)|(refine Z2 ?_ ?_)|(intro h h';try simp[*,-h] at h'))
  all_goals exact⟨⟨_,rfl⟩,fun _ _ _ _ _=>rfl⟩
 ·have e1: ¬(n:Int)<T.length:=Zo
  have e3:T[n]?=none:=Pm hn
  repeat' (first|refine ZN ?_|refine Z2 ?_ ?_|(intro h h';try simp[*,-h] at h'))
  all_goals exact⟨⟨_,rfl⟩,fun _ _ _ _ _=>rfl⟩
theorem Far.trans {k k' q:Nat}{a b c:Hp}(h1:Far k q a b)(h2:Far k' q b c)(h:k<=k'):Far k q a c:=fun d i x hd hne=>(h2 d i x Zo hne).trans (h1 d i x hd hne)
theorem Far.own {D q:Nat}{a b:Hp}(h:Far D q a b)(hD:D≠1): ∀i c,b ⟨D,i,c⟩=a ⟨D,i,c⟩:=fun i c=>h _ i c (Nat.le_refl _) (by simp[hD])
theorem Far.all {k k1 q:Nat}{a b:Hp}(h:Far k1 q a b)(hk:k<=k1): ∀d i c,d<=k->(⟨d,i,c⟩:Nm)≠⟨1,q,0⟩->b ⟨d,i,c⟩=a ⟨d,i,c⟩:=fun d i c hd hne=>h d i c Zo hne
theorem N9 {T:List Tok}{n:Nat}{s:ByteArray}(h:peekT T n=s)(hs:s≠⟨#[]⟩):n<T.length:=by
 by_cases hn:n<T.length
 ·exact hn
 ·unfold peekT at h
  rw[Pm hn] at h
  exact(hs h.symm).elim
theorem Lca {T:List Tok}{n:Nat}{k:Int}(h:kindT T n=k)(hs:k≠0):n<T.length:=by
 by_cases hn:n<T.length
 ·exact hn
 ·unfold kindT at h
  rw[Pm hn] at h
  exact(hs h.symm).elim
end
section
open Go Go.Ab Go.Ab.Sy
theorem may {T:List Tok}{e:Int}{q n gx gy:Nat}{s:ByteArray}(D:Nat)(hD:2<=D)(d:Nat)(hp1:Hp)(hs:s≠⟨#[]⟩)(hr:Rd T e q gx gy n hp1):HB P0 E47 (Lm X46) D d 74 [.ptr ⟨1,q,0⟩ gx 0,tv s] hp1 (fun v hp2=>(v=bv false/\Rd T e q gx gy n hp2/\Far D q hp1 hp2)\/(v=bv true/\n<T.length/\Rd T e q gx gy (n+1) hp2/\Far D q hp1 hp2)) (Wr D q hp1):=by
 obtain⟨k,rfl⟩: ∃k,D=k+2:=⟨D - 2,Zo⟩
 clear hD
 refine Af (k1:=k+3) (PR:=Wr (k+2) q hp1) rfl Tryz.func74 rfl rfl Fya rfl rvs_74 ?_
 obtain⟨h1,h2,hlen,hle⟩:=hr
 have w1:IntKind.i64.wrap ((n:Int)+1)=(n:Int)+1:=wrapN Zo
 repeat' (first|refine ZN ?_|refine Z2 ?_ ?_|(intro h h';try simp[*,-h] at h')|(exact Zx)|((with_reducible apply Aq (f:=111));exact Zv;(apply peek (k+3) Zo);exact Zw;rotate_left;(rintro _ hpp ⟨⟨a,rfl⟩,hpf⟩);rotate_right;(rintro _ hp2 ⟨rfl,⟨hb2,ha2,_,_⟩,hf2⟩;have hO2:=hf2.own Zo;have hL2:=hf2.all (k:=k+2) Zo;clear hf2))|fail)
 ·left
  exact⟨rfl,⟨Zm,Zm,hlen,hle⟩,fun d i c hd hne=>by have hd2:d≠k+3:=Zo;simp[*]⟩
 ·right
  have hn:n<T.length:=N9 (by assumption) hs
  exact⟨rfl,hn,⟨Zm,Zm,hlen,hn⟩,fun d i c hd hne=>by have hd2:d≠k+3:=Zo;simp[*]⟩
theorem take {T:List Tok}{e:Int}{q n gx gy:Nat}{kd:Int}(D:Nat)(hD:2<=D)(d:Nat)(hp1:Hp)(hs:kd≠0)(hr:Rd T e q gx gy n hp1):HB P0 E47 (Lm X46) D d 76 [.ptr ⟨1,q,0⟩ gx 0,iv kd] hp1 (fun v hp2=> ∃t:Tok,v= .agg t.row/\n<T.length/\Rd T e q gx gy (n+1) hp2/\Far D q hp1 hp2) (Wr D q hp1):=by
 obtain⟨k,rfl⟩: ∃k,D=k+2:=⟨D - 2,Zo⟩
 clear hD
 refine Bc (k1:=k+3) (PR:=Wr (k+2) q hp1) rfl Tryz.func76 rfl rfl Fwa rfl rvs_76 rtys_76 ?_
 obtain⟨h1,h2,hlen,hle⟩:=hr
 have w1:IntKind.i64.wrap ((n:Int)+1)=(n:Int)+1:=wrapN Zo
 by_cases hkd:kindT T n=kd
 ·have hn:n<T.length:=Lca hkd hs
  have e1:(n:Int)<T.length:=Zo
  have e3:T[n]?=some T[n]:=List.getElem?_eq_getElem hn
  generalize hq:T[n]=t at*
  obtain⟨tk,tt,tn,ta⟩:=t
  repeat' (first|refine ZN ?_|refine Z2 ?_ ?_|(intro h h';try simp[*,-h] at h')|(exact Zx)|((with_reducible apply Aq (f:=112));exact Zv;(apply kind (k+3) Zo);exact Zw;rotate_left;(rintro _ hpp ⟨⟨a,rfl⟩,hpf⟩);rotate_right;(rintro _ hp2 ⟨rfl,⟨hb2,ha2,_,_⟩,hf2⟩;have hO2:=hf2.own Zo;have hL2:=hf2.all (k:=k+2) Zo;clear hf2))|((with_reducible apply Aq (f:=73));exact Zv;(apply fail (k+3) Zo);exact Zw;rotate_left;(rintro _ hpp ⟨⟨a,rfl⟩,hpf⟩);rotate_right;(rintro _ _ hf2;exact hf2.elim))|fail)
  all_goals exact⟨⟨tk,tt,tn,ta⟩,rfl,hn,⟨Zm,Zm,hlen,hn⟩,fun d i c hd hne=>by have hd2:d≠k+3:=Zo;simp[*]⟩
 ·
  repeat' (first|refine ZN ?_|refine Z2 ?_ ?_|(intro h h';try simp[*,-h] at h')|(exact Zx)|((with_reducible apply Aq (f:=112));exact Zv;(apply kind (k+3) Zo);exact Zw;rotate_left;(rintro _ hpp ⟨⟨a,rfl⟩,hpf⟩);rotate_right;(rintro _ hp2 ⟨rfl,⟨hb2,ha2,_,_⟩,hf2⟩;have hO2:=hf2.own Zo;have hL2:=hf2.all (k:=k+2) Zo;clear hf2))|((with_reducible apply Aq (f:=73));exact Zv;(apply fail (k+3) Zo);exact Zw;rotate_left;(rintro _ hpp ⟨⟨a,rfl⟩,hpf⟩);rotate_right;(rintro _ _ hf2;exact hf2.elim))|fail)
theorem must {T:List Tok}{e:Int}{q n gx gy:Nat}{l:List ByteArray}{s0 gl:Nat}(D:Nat)(hD:2<=D)(d:Nat)(hp1:Hp)(hs: ∀s∈l,s≠⟨#[]⟩)(hl:l.length<=8)(hls:hp1 ⟨D,s0,0⟩= .arr gl 1 9 (tbRows l) false)(hr:Rd T e q gx gy n hp1):HB P0 E47 (Lm X46) D d 77 [.ptr ⟨1,q,0⟩ gx 0,.own ⟨D,s0,0⟩ gl l.length] hp1 (fun v hp2=>v= .tup []/\n+l.length<=T.length/\Rd T e q gx gy (n+l.length) hp2/\Far D q hp1 hp2) (Wr D q hp1):=by
 obtain⟨k,rfl⟩: ∃k,D=k+2:=⟨D - 2,Zo⟩
 clear hD
 refine Af (k1:=k+3) (PR:=Wr (k+2) q hp1) rfl Tryz.func77 rfl rfl Fva rfl rvs_77 ?_
 obtain⟨h1,h2,hlen,hle⟩:=hr
 have w1: ∀i:Nat,i<=1048576->IntKind.i64.wrap ((i:Int)+1)=(i:Int)+1:=fun i hi=>wrapN Zo
 repeat' (first|refine ZN ?_|refine Z2 ?_ ?_|(intro h h';try simp[*,-h] at h')|(exact Zx)|((with_reducible apply Aq (f:=111));exact Zv;(apply peek (k+3) Zo);exact Zw;rotate_left;(rintro _ hpp ⟨⟨a,rfl⟩,hpf⟩);rotate_right;(rintro _ hp2 ⟨rfl,⟨hb2,ha2,_,_⟩,hf2⟩;have hO2:=hf2.own Zo;have hL2:=hf2.all (k:=k+2) Zo;clear hf2))|((with_reducible apply Aq (f:=73));exact Zv;(apply fail (k+3) Zo);exact Zw;rotate_left;(rintro _ hpp ⟨⟨a,rfl⟩,hpf⟩);rotate_right;(rintro _ _ hf2;exact hf2.elim))|fail)
 refine Ag (n:=l.length) (fun s0 m s=> ∃i:Nat,m=l.length - i/\i<=l.length/\n+i<=T.length/\s.fr 8=iv i/\s.fr 6=s0.fr 6/\s.fr 7=s0.fr 7/\s.fr 0=s0.fr 0/\Rd T e q gx gy (n+i) s.hp/\Far (k+2) q hp1 s.hp) ⟨0,Zi,Zo,Zo,Zi,Zi,Zi,Zi,⟨Zm,Zm,hlen,hle⟩,fun d i c hd hne=>by have hd2:d≠k+3:=Zo;simp[*]⟩ ?_
 rintro m ⟨fr,hp⟩ ⟨i,rfl,hi,hni,f8,f6,f7,f0,⟨hb,ha,_,_⟩,hfar⟩
 simp at f8 f6 f7 f0 hb ha hfar
 have hlo:hp ⟨k+2,s0,0⟩= .arr gl 1 9 (tbRows l) false:=(hfar _ _ _ (Nat.le_refl _) Zi).trans hls
 clear h1 h2 hls
 by_cases hlt:i<l.length
 ·have hg:l[i]?=some l[i]:=List.getElem?_eq_getElem hlt
  have hz:=hs _ (List.getElem_mem hlt)
  generalize hq:l[i]=t at*
  have e1:(i:Int)<l.length:=Zo
  have w2:=w1 i Zo
  have w3:IntKind.i64.wrap ((n:Int)+i+1)=(n:Int)+i+1:=by have:=w1 (n+i) Zo;rw[Int.natCast_add] at this;exact this
  have HF:=Lib.hid hfar
  clear hfar
  repeat' (first|refine ZN ?_|refine Z2 ?_ ?_|(intro h h';try simp[*,-h] at h')|(exact Zx)|((with_reducible apply Aq (f:=111));exact Zv;(apply peek (k+3) Zo);exact Zw;rotate_left;(rintro _ hpp ⟨⟨a,rfl⟩,hpf⟩);rotate_right;(rintro _ hp2 ⟨rfl,⟨hb2,ha2,_,_⟩,hf2⟩;have hO2:=hf2.own Zo;have hL2:=hf2.all (k:=k+2) Zo;clear hf2))|((with_reducible apply Aq (f:=73));exact Zv;(apply fail (k+3) Zo);exact Zw;rotate_left;(rintro _ hpp ⟨⟨a,rfl⟩,hpf⟩);rotate_right;(rintro _ _ hf2;exact hf2.elim))|fail)
  have hn:n+i<T.length:=N9 (by assumption) hz
  have hfar:=HF.out
  exact⟨l.length - (i+1),Zo,i+1,rfl,Zo,Zo,Zi,Zm,Zm,Zm,⟨by simp[*];try omega,Zm,hlen,Zo⟩,fun d i c hd hne=>by have hd2:d≠k+3:=Zo;simp[*];exact hfar d i c hd hne⟩
 ·obtain rfl:i=l.length:=Zo
  have e1: ¬(l.length:Int)<l.length:=Zo
  have HF:=Lib.hid hfar
  clear hfar
  repeat' (first|refine ZN ?_|refine Z2 ?_ ?_|(intro h h';try simp[*,-h] at h')|(exact Zx)|((with_reducible apply Aq (f:=111));exact Zv;(apply peek (k+3) Zo);exact Zw;rotate_left;(rintro _ hpp ⟨⟨a,rfl⟩,hpf⟩);rotate_right;(rintro _ hp2 ⟨rfl,⟨hb2,ha2,_,_⟩,hf2⟩;have hO2:=hf2.own Zo;have hL2:=hf2.all (k:=k+2) Zo;clear hf2))|((with_reducible apply Aq (f:=73));exact Zv;(apply fail (k+3) Zo);exact Zw;rotate_left;(rintro _ hpp ⟨⟨a,rfl⟩,hpf⟩);rotate_right;(rintro _ _ hf2;exact hf2.elim))|fail)
  exact⟨rfl,hni,⟨Zm,Zm,hlen,hni⟩,HF.out⟩
theorem M3 (l:List Tx):(txRows l).take l.length=txRows l:=by rw[List.take_of_length_le Zi]
theorem names {T:List Tok}{e:Int}{q n gx gy:Nat}(D:Nat)(hD:2<=D)(d:Nat)(hp1:Hp)(hr:Rd T e q gx gy n hp1):HB P0 E47 (Lm X46) D d 75 [.ptr ⟨1,q,0⟩ gx 0] hp1 (fun v hp2=> ∃(l:List Tx) (n2:Nat),v= .sl false 1 (txRows l)/\n+l.length<=n2/\n<n2/\Rd T e q gx gy n2 hp2/\Far D q hp1 hp2) (Wr D q hp1):=by
 obtain⟨k,rfl⟩: ∃k,D=k+2:=⟨D - 2,Zo⟩
 clear hD
 refine Bc (k1:=k+3) (PR:=Wr (k+2) q hp1) rfl Tryz.func75 rfl rfl Fxa rfl rvs_75 rtys_75 ?_
 obtain⟨h1,h2,hlen,hle⟩:=hr
 repeat' (first|refine ZN ?_|refine Z2 ?_ ?_|(intro h h';try simp[*,-h] at h')|(exact Zx)|((with_reducible apply Aq (f:=76));exact Zv;(apply take (k+3) Zo);decide;exact Zw;rotate_left;(rintro _ hpp ⟨⟨a,rfl⟩,hpf⟩);rotate_right;(rintro _ hp2 ⟨⟨tk2,tt2,tn2,ta2⟩,rfl,hn2,⟨hb2,ha2,_,hle2⟩,hf2⟩;have hO2:=hf2.own Zo;have hL2:=hf2.all (k:=k+2) Zo;clear hf2;simp only[Tok.row_mk]))|fail)
 refine Ag (n:=T.length - (n+1)) (fun s0 m s=> ∃(n2 g:Nat) (l:List Tx),m=T.length - n2/\n+l.length<=n2/\n<n2/\s.fr 0=s0.fr 0/\s.fr 3= .own ⟨k+3,7,0⟩ g l.length/\s.hp ⟨k+3,7,0⟩= .arr g 1 9 (txRows l) false/\Rd T e q gx gy n2 s.hp/\Far (k+2) q hp1 s.hp) ⟨n+1,_,[tt2],Zo,Zi,Zo,Zi,by simp;rfl,Zm,⟨Zm,Zm,hlen,hle2⟩,fun d i c hd hne=>by have hd2:d≠k+3:=Zo;simp[*]⟩ ?_
 rintro m ⟨fr,hp⟩ ⟨n2,g,l,rfl,hnl,hnn,f0,f3,hl,⟨hb,ha,_,hle3⟩,hfar⟩
 simp at f0 f3 hl hb ha hfar
 have HF:=Lib.hid hfar
 clear hfar h1 h2 hb2 ha2 hO2 hL2
 have a1:(l.length+1)*16<=140737488355328:=Zo
 have a2:l.length<=9223372036854775806:=Zo
 have a3:=M3 l
 repeat' (first|refine ZN ?_|refine Z2 ?_ ?_|(intro h h';try simp[*,-h] at h')|(exact Zx)|((with_reducible apply Aq (f:=74));exact Zv;(apply may (k+3) Zo);decide;exact Zw;rotate_left;(rintro _ hpp ⟨⟨a,rfl⟩,hpf⟩);rotate_right;(rintro _ hp2 (⟨rfl,⟨hb2,ha2,_,_⟩,hf2⟩|⟨rfl,hn2,⟨hb2,ha2,_,hle2⟩,hf2⟩)<;>(have hO2:=hf2.own Zo;have hL2:=hf2.all (k:=k+2) Zo;clear hf2)))|((with_reducible apply Aq (f:=76));exact Zv;(apply take (k+3) Zo);decide;exact Zw;rotate_left;(rintro _ hpp ⟨⟨a,rfl⟩,hpf⟩);rotate_right;(rintro _ hp2 ⟨⟨tk2,tt2,tn2,ta2⟩,rfl,hn2,⟨hb2,ha2,_,hle2⟩,hf2⟩;have hO2:=hf2.own Zo;have hL2:=hf2.all (k:=k+2) Zo;clear hf2;simp only[Tok.row_mk]))|fail)
 ·have hfar:=HF.out
  exact⟨l,n2,Zm,hnl,hnn,⟨Zm,Zm,hlen,hle3⟩,fun d i c hd hne=>by have hd2:d≠k+3:=Zo;simp[*];exact hfar d i c hd hne⟩
 ·have hfar:=HF.out
  exact⟨T.length - (n2+1+1),Zo,n2+1+1,g+1,l++[tt2],rfl,by simp;omega,Zo,Zm,Zm,Zm,⟨Zm,Zm,hlen,hle2⟩,fun d i c hd hne=>by have hd2:d≠k+3:=Zo;simp[*];exact hfar d i c hd hne⟩
theorem Jt {T:List Tok}{e:Int}{q n gx gy:Nat}{s:ByteArray}{s0 gl:Nat}(D:Nat)(hD:2<=D)(d:Nat)(hp1:Hp)(hls:hp1 ⟨D,s0,0⟩= .arr gl 1 9 [[tz s]] false)(hs:s≠⟨#[]⟩)(hr:Rd T e q gx gy n hp1):
  HB P0 E47 (Lm X46) D d 77 [.ptr ⟨1,q,0⟩ gx 0,.own ⟨D,s0,0⟩ gl 1] hp1 (fun v hp2=>v= .tup []/\n+1<=T.length/\Rd T e q gx gy (n+1) hp2/\Far D q hp1 hp2) (Wr D q hp1):=
 must (l:=[s]) D hD d hp1 (fun x hx=>by simp at hx;rw[hx];exact hs) Zi hls hr
theorem must2 {T:List Tok}{e:Int}{q n gx gy:Nat}{s t:ByteArray}{s0 gl:Nat}(D:Nat)(hD:2<=D)(d:Nat)(hp1:Hp)(hls:hp1 ⟨D,s0,0⟩= .arr gl 1 9 [[tz s],[tz t]] false)(hs:s≠⟨#[]⟩)(ht:t≠⟨#[]⟩)(hr:Rd T e q gx gy n hp1):
  HB P0 E47 (Lm X46) D d 77 [.ptr ⟨1,q,0⟩ gx 0,.own ⟨D,s0,0⟩ gl 2] hp1 (fun v hp2=>v= .tup []/\n+2<=T.length/\Rd T e q gx gy (n+2) hp2/\Far D q hp1 hp2) (Wr D q hp1):=
 must (l:=[s,t]) D hD d hp1 (fun x hx=>by simp at hx;rcases hx with rfl|rfl;exact hs;exact ht) Zi hls hr
@[simp] theorem Az (k o n:Int)(s:Tx)(l:List Sy.Ex):(Sy.Ex.mk k o n s l).row=[iz k,iz o,uz n,tz s.1,.sl false 5 (exRows l)]:=Sy.Ex.row_eq _
@[simp] theorem A2 (k o n:Int)(s:Tx)(l:List Sy.Ex):(Sy.Ex.mk k o n s l).size=exSize l+1:=Sy.Ex.size_eq _
def RE (T:List Tok)(e:Int)(q gx gy n D:Nat)(hp1:Hp)(v:AV)(hp2:Hp):Prop:= ∃(x:Sy.Ex) (n2:Nat),v= .agg x.row/\n+x.size<=n2/\n<n2/\Rd T e q gx gy n2 hp2/\Far D q hp1 hp2
def RL (T:List Tok)(e:Int)(q gx gy n D:Nat)(hp1:Hp)(v:AV)(hp2:Hp):Prop:= ∃(x:List Sy.Ex) (n2:Nat),v= .sl false 5 (exRows x)/\n+exSize x<=n2/\n<n2/\Rd T e q gx gy n2 hp2/\Far D q hp1 hp2
theorem atom_w {T:List Tok}{e:Int}{q n gx gy:Nat}(D:Nat)(hD:2<=D)(d:Nat)(hp1:Hp)(ihE: ∀(D:Nat) (hD:2<=D) (d:Nat) (hp1:Hp) {n2:Nat} {ls:Int} (hls:1<=ls) (hr:Rd T e q gx gy n2 hp1) (hn:n<n2),HB P0 E47 (Lm X46) D d 239 [.ptr ⟨1,q,0⟩ gx 0,iv ls] hp1 (RE T e q gx gy n2 D hp1) (Wr D q hp1))(ihA: ∀(D:Nat) (hD:2<=D) (d:Nat) (hp1:Hp) {n2:Nat} (hr:Rd T e q gx gy n2 hp1) (hn:n<n2),HB P0 E47 (Lm X46) D d 290 [.ptr ⟨1,q,0⟩ gx 0] hp1 (RE T e q gx gy n2 D hp1) (Wr D q hp1))(ihG: ∀(D:Nat) (hD:2<=D) (d:Nat) (hp1:Hp) {n2:Nat} (hr:Rd T e q gx gy n2 hp1) (hn:n<n2),HB P0 E47 (Lm X46) D d 292 [.ptr ⟨1,q,0⟩ gx 0] hp1 (RL T e q gx gy n2 D hp1) (Wr D q hp1))(hr:Rd T e q gx gy n hp1):HB P0 E47 (Lm X46) D d 290 [.ptr ⟨1,q,0⟩ gx 0] hp1 (RE T e q gx gy n D hp1) (Wr D q hp1):=by
 obtain⟨k,rfl⟩: ∃k,D=k+2:=⟨D - 2,Zo⟩
 clear hD
 refine Bc (k1:=k+3) (PR:=Wr (k+2) q hp1) rfl Tryz.func290 rfl rfl Yj rfl rvs_290 Hza ?_
 obtain⟨h1,h2,hlen,hle⟩:=hr
 repeat' (first|refine ZN ?_|refine Z2 ?_ ?_|(intro h h';try simp[*,-h] at h')|(exact Zx)|((with_reducible apply Aq (f:=112));exact Zv;(apply kind (k+3) Zo);exact Zw;rotate_left;(rintro _ hpp ⟨⟨a,rfl⟩,hpf⟩);rotate_right;(rintro _ hp2 ⟨rfl,⟨hb2,ha2,_,_⟩,hf2⟩;have hO2:=hf2.own Zo;have hL2:=hf2.all (k:=k+2) Zo;clear hf2))|((with_reducible apply Aq (f:=74));exact Zv;(apply may (k+3) Zo);decide;exact Zw;rotate_left;(rintro _ hpp ⟨⟨a,rfl⟩,hpf⟩);rotate_right;(rintro _ hp2 (⟨rfl,⟨hb2,ha2,_,_⟩,hf2⟩|⟨rfl,hn2,⟨hb2,ha2,_,hle2⟩,hf2⟩)<;>(have hO2:=hf2.own Zo;have hL2:=hf2.all (k:=k+2) Zo;clear hf2)))|((with_reducible apply Aq (f:=76));exact Zv;(apply take (k+3) Zo);decide;exact Zw;rotate_left;(rintro _ hpp ⟨⟨a,rfl⟩,hpf⟩);rotate_right;(rintro _ hp2 ⟨⟨tk2,tt2,tn2,ta2⟩,rfl,hn2,⟨hb2,ha2,_,hle2⟩,hf2⟩;have hO2:=hf2.own Zo;have hL2:=hf2.all (k:=k+2) Zo;clear hf2;simp only[Tok.row_mk]))|((with_reducible apply Aq (f:=77));exact Zv;(apply Jt (k+3) Zo);exact Zc;decide;exact Zw;rotate_left;(rintro _ hpp ⟨⟨a,rfl⟩,hpf⟩);rotate_right;(rintro _ hp2 ⟨rfl,hn2,⟨hb2,ha2,_,hle2⟩,hf2⟩;have hO2:=hf2.own Zo;have hL2:=hf2.all (k:=k+2) Zo;clear hf2))|((with_reducible apply Aq (f:=77));exact Zv;(apply must2 (k+3) Zo);exact Zc;decide;decide;exact Zw;rotate_left;(rintro _ hpp ⟨⟨a,rfl⟩,hpf⟩);rotate_right;(rintro _ hp2 ⟨rfl,hn2,⟨hb2,ha2,_,hle2⟩,hf2⟩;have hO2:=hf2.own Zo;have hL2:=hf2.all (k:=k+2) Zo;clear hf2))|((with_reducible apply Aq (f:=239));exact Zv;(apply ihE (k+3) Zo);omega;exact Zw;omega;rotate_left;(rintro _ hpp ⟨⟨a,rfl⟩,hpf⟩);rotate_right;(rintro _ hp2 ⟨⟨xk,xo,xn,xs,xl⟩,m2,rfl,hs2,hn2,⟨hb2,ha2,_,hle2⟩,hf2⟩;have hO2:=hf2.own Zo;have hL2:=hf2.all (k:=k+2) Zo;clear hf2;simp only[Az,A2] at*))|((with_reducible apply Aq (f:=290));exact Zv;(apply ihA (k+3) Zo);exact Zw;omega;rotate_left;(rintro _ hpp ⟨⟨a,rfl⟩,hpf⟩);rotate_right;(rintro _ hp2 ⟨⟨xk,xo,xn,xs,xl⟩,m2,rfl,hs2,hn2,⟨hb2,ha2,_,hle2⟩,hf2⟩;have hO2:=hf2.own Zo;have hL2:=hf2.all (k:=k+2) Zo;clear hf2;simp only[Az,A2] at*))|((with_reducible apply Aq (f:=292));exact Zv;(apply ihG (k+3) Zo);exact Zw;omega;rotate_left;(rintro _ hpp ⟨⟨a,rfl⟩,hpf⟩);rotate_right;(rintro _ hp2 ⟨xl,m2,rfl,hs2,hn2,⟨hb2,ha2,_,hle2⟩,hf2⟩;have hO2:=hf2.own Zo;have hL2:=hf2.all (k:=k+2) Zo;clear hf2))|fail)
 ·exact⟨.mk 1 0 tn2 tx0 [],n+1,Zm,by(try simp);try omega,Zo,⟨Zm,Zm,hlen,Zo⟩,fun d i c hd hne=>by have hd2:d≠k+3:=Zo;simp[*]⟩
 ·exact⟨.mk 2 0 0 tt2 [],n+1,Zm,by(try simp);try omega,Zo,⟨Zm,Zm,hlen,Zo⟩,fun d i c hd hne=>by have hd2:d≠k+3:=Zo;simp[*]⟩
 ·exact⟨.mk 4 0 0 tt2 xl,m2,Zm,by(try simp);try omega,Zo,⟨Zm,Zm,hlen,Zo⟩,fun d i c hd hne=>by have hd2:d≠k+3:=Zo;simp[*]⟩
 ·exact⟨.mk 3 0 0 tt2 [.mk xk xo xn xs xl],m2+1,Zm,by(try simp);try omega,Zo,⟨Zm,Zm,hlen,Zo⟩,fun d i c hd hne=>by have hd2:d≠k+3:=Zo;simp[*]⟩
 ·exact⟨.mk 7 0 0 tx0 [.mk xk xo xn xs xl],m2,Zm,by(try simp);try omega,Zo,⟨Zm,Zm,hlen,Zo⟩,fun d i c hd hne=>by have hd2:d≠k+3:=Zo;simp[*]⟩
 ·exact⟨.mk xk xo xn xs xl,m2+1,Zm,by(try simp);try omega,Zo,⟨Zm,Zm,hlen,Zo⟩,fun d i c hd hne=>by have hd2:d≠k+3:=Zo;simp[*]⟩
 ·exact⟨.mk 5 0 0 tx0 [],n+1+2,Zm,by(try simp);try omega,Zo,⟨Zm,Zm,hlen,Zo⟩,fun d i c hd hne=>by have hd2:d≠k+3:=Zo;simp[*]⟩
theorem Cua (l:List Sy.Ex):(exRows l).take l.length=exRows l:=by rw[List.take_of_length_le Zi]
theorem sign (s:ByteArray): ∃ke oe st:Int,(Lm X46).dat 291 [tv s]=some [.agg [iz ke,iz oe,uz 0,tz ⟨#[]⟩,.vec 5 []],iz st]/\0<=st/\st<=9/\(1<=st->s≠⟨#[]⟩):=by
 obtain⟨rs,h1,ke,oe,st,rfl,h2⟩:=fnR (P:=P0) (E:=E47) (X:=X46) (args:=[tv s]) (R:=fun rs=> ∃ke oe st:Int,rs=[.agg [iz ke,iz oe,uz 0,tz ⟨#[]⟩,.vec 5 []],iz st]/\0<=st/\st<=9/\(1<=st->s≠⟨#[]⟩)) Tryz.func291 rfl rfl Yi rfl Hya rvs_291 (by
  have hop: ∀o:Int,(Lm X46).dat 322 [iz o]=some [.agg [iz 6,iz o,uz 0,tz ⟨#[]⟩,.vec 5 []]]:=fun o=>by
   refine fnW Tryz.func322 rfl rfl Ye rfl Hva rvs_322 ?_
   exact ZS
  repeat' (first|refine ZN ?_|refine Z2 ?_ ?_|(intro h h';try simp[*,-h] at h'))
  all_goals (refine⟨_,_,_,rfl,Zd,Zd,?_⟩)
  all_goals (first|(intro hh;exact absurd hh Zd)|(rintro _ rfl;simp_all)))
 exact⟨ke,oe,st,h1,h2⟩
theorem args_w {T:List Tok}{e:Int}{q n gx gy:Nat}(D:Nat)(hD:2<=D)(d:Nat)(hp1:Hp)(ihE: ∀(D:Nat) (hD:2<=D) (d:Nat) (hp1:Hp) {n2:Nat} {ls:Int} (hls:1<=ls) (hr:Rd T e q gx gy n2 hp1) (hn:n<=n2),HB P0 E47 (Lm X46) D d 239 [.ptr ⟨1,q,0⟩ gx 0,iv ls] hp1 (RE T e q gx gy n2 D hp1) (Wr D q hp1))(hr:Rd T e q gx gy n hp1):HB P0 E47 (Lm X46) D d 292 [.ptr ⟨1,q,0⟩ gx 0] hp1 (RL T e q gx gy n D hp1) (Wr D q hp1):=by
 obtain⟨k,rfl⟩: ∃k,D=k+2:=⟨D - 2,Zo⟩
 clear hD
 refine Bc (k1:=k+3) (PR:=Wr (k+2) q hp1) rfl Tryz.func292 rfl rfl Yh rfl rvs_292 Hwa ?_
 obtain⟨h1,h2,hlen,hle⟩:=hr
 repeat' (first|refine ZN ?_|refine Z2 ?_ ?_|(intro h h';try simp[*,-h] at h')|(exact Zx)|((with_reducible apply Aq (f:=74));exact Zv;(apply may (k+3) Zo);decide;exact Zw;rotate_left;(rintro _ hpp ⟨⟨a,rfl⟩,hpf⟩);rotate_right;(rintro _ hp2 (⟨rfl,⟨hb2,ha2,_,_⟩,hf2⟩|⟨rfl,hn2,⟨hb2,ha2,_,hle2⟩,hf2⟩)<;>(have hO2:=hf2.own Zo;have hL2:=hf2.all (k:=k+2) Zo;clear hf2)))|((with_reducible apply Aq (f:=77));exact Zv;(apply Jt (k+3) Zo);exact Zc;decide;exact Zw;rotate_left;(rintro _ hpp ⟨⟨a,rfl⟩,hpf⟩);rotate_right;(rintro _ hp2 ⟨rfl,hn2,⟨hb2,ha2,_,hle2⟩,hf2⟩;have hO2:=hf2.own Zo;have hL2:=hf2.all (k:=k+2) Zo;clear hf2))|((with_reducible apply Aq (f:=239));exact Zv;(apply ihE (k+3) Zo);omega;exact Zw;omega;rotate_left;(rintro _ hpp ⟨⟨a,rfl⟩,hpf⟩);rotate_right;(rintro _ hp2 ⟨⟨xk,xo,xn,xs,xl⟩,m2,rfl,hs2,hn2,⟨hb2,ha2,_,hle2⟩,hf2⟩;have hO2:=hf2.own Zo;have hL2:=hf2.all (k:=k+2) Zo;clear hf2;simp only[Az,A2] at*))|fail)
 all_goals try exact⟨[],n+1,Zm,by(try simp);try omega,Zo,⟨Zm,Zm,hlen,Zo⟩,fun d i c hd hne=>by have hd2:d≠k+3:=Zo;simp[*]⟩
 refine Ag (n:=T.length - m2) (fun s0 m s=> ∃(n2 g:Nat) (l:List Sy.Ex),m=T.length - n2/\n+exSize l<=n2/\n<n2/\s.fr 0=s0.fr 0/\s.fr 3= .own ⟨k+3,8,0⟩ g l.length/\s.hp ⟨k+3,8,0⟩= .arr g 5 288 (exRows l) false/\Rd T e q gx gy n2 s.hp/\Far (k+2) q hp1 s.hp) ⟨m2,_,[.mk xk xo xn xs xl],Zo,by simp;omega,Zo,Zi,by simp;rfl,Zm,⟨Zm,Zm,hlen,hle2⟩,fun d i c hd hne=>by have hd2:d≠k+3:=Zo;simp[*]⟩ ?_
 clear h1 h2 hb2 ha2 hO2 hL2
 rintro m ⟨fr,hp⟩ ⟨n2,g,l,rfl,hnl,hnn,f0,f3,hl,⟨hb,ha,_,hle3⟩,hfar⟩
 simp at f0 f3 hl ha hfar
 simp only at hb
 have HF:=Lib.hid hfar
 clear hfar
 have hll:=Bv l
 have a1:(l.length+1)*64<=140737488355328:=Zo
 have a2:l.length<=9223372036854775806:=Zo
 have a3:=Cua l
 repeat' (first|refine ZN ?_|refine Z2 ?_ ?_|(intro h h';try simp[*,-h] at h')|(exact Zx)|((with_reducible apply Aq (f:=74));exact Zv;(apply may (k+3) Zo);decide;exact Zw;rotate_left;(rintro _ hpp ⟨⟨a,rfl⟩,hpf⟩);rotate_right;(rintro _ hp2 (⟨rfl,⟨hb2,ha2,_,_⟩,hf2⟩|⟨rfl,hn2,⟨hb2,ha2,_,hle2⟩,hf2⟩)<;>(have hO2:=hf2.own Zo;have hL2:=hf2.all (k:=k+2) Zo;clear hf2)))|((with_reducible apply Aq (f:=77));exact Zv;(apply Jt (k+3) Zo);exact Zc;decide;exact Zw;rotate_left;(rintro _ hpp ⟨⟨a,rfl⟩,hpf⟩);rotate_right;(rintro _ hp2 ⟨rfl,hn2,⟨hb2,ha2,_,hle2⟩,hf2⟩;have hO2:=hf2.own Zo;have hL2:=hf2.all (k:=k+2) Zo;clear hf2))|((with_reducible apply Aq (f:=239));exact Zv;(apply ihE (k+3) Zo);omega;exact Zw;omega;rotate_left;(rintro _ hpp ⟨⟨a,rfl⟩,hpf⟩);rotate_right;(rintro _ hp2 ⟨⟨xk,xo,xn,xs,xl⟩,m2,rfl,hs2,hn2,⟨hb2,ha2,_,hle2⟩,hf2⟩;have hO2:=hf2.own Zo;have hL2:=hf2.all (k:=k+2) Zo;clear hf2;simp only[Az,A2] at*))|fail)
 ·have hfar:=HF.out
  exact⟨l,n2+1,Zm,Zo,Zo,⟨Zm,Zm,hlen,Zo⟩,fun d i c hd hne=>by have hd2:d≠k+3:=Zo;simp[*];exact hfar d i c hd hne⟩
 ·have hfar:=HF.out
  exact⟨T.length - m2,Zo,m2,g+1,l++[.mk xk xo xn xs xl],rfl,by simp;omega,Zo,Zm,Zm,Zm,⟨Zm,Zm,hlen,hle2⟩,fun d i c hd hne=>by have hd2:d≠k+3:=Zo;simp[*];exact hfar d i c hd hne⟩
theorem expr_w {T:List Tok}{e:Int}{q n gx gy:Nat}{ls:Int}(D:Nat)(hD:2<=D)(d:Nat)(hp1:Hp)(ihE: ∀(D:Nat) (hD:2<=D) (d:Nat) (hp1:Hp) {n2:Nat} {ls:Int} (hls:1<=ls) (hr:Rd T e q gx gy n2 hp1) (hn:n<n2),HB P0 E47 (Lm X46) D d 239 [.ptr ⟨1,q,0⟩ gx 0,iv ls] hp1 (RE T e q gx gy n2 D hp1) (Wr D q hp1))(ihA: ∀(D:Nat) (hD:2<=D) (d:Nat) (hp1:Hp) {n2:Nat} (hr:Rd T e q gx gy n2 hp1) (hn:n<=n2),HB P0 E47 (Lm X46) D d 290 [.ptr ⟨1,q,0⟩ gx 0] hp1 (RE T e q gx gy n2 D hp1) (Wr D q hp1))(hls:1<=ls)(hr:Rd T e q gx gy n hp1):HB P0 E47 (Lm X46) D d 239 [.ptr ⟨1,q,0⟩ gx 0,iv ls] hp1 (RE T e q gx gy n D hp1) (Wr D q hp1):=by
 obtain⟨k,rfl⟩: ∃k,D=k+2:=⟨D - 2,Zo⟩
 clear hD
 refine Bc (k1:=k+3) (PR:=Wr (k+2) q hp1) rfl Tryz.func239 rfl rfl Y2 rfl rvs_239 H5a ?_
 obtain⟨h1,h2,hlen,hle⟩:=hr
 repeat' (first|refine ZN ?_|refine Z2 ?_ ?_|(intro h h';try simp[*,-h] at h')|(exact Zx)|((with_reducible apply Aq (f:=290));exact Zv;(apply ihA (k+3) Zo);exact Zw;omega;rotate_left;(rintro _ hpp ⟨⟨a,rfl⟩,hpf⟩);rotate_right;(rintro _ hp2 ⟨⟨xk,xo,xn,xs,xl⟩,m2,rfl,hs2,hn2,⟨hb2,ha2,_,hle2⟩,hf2⟩;have hO2:=hf2.own Zo;have hL2:=hf2.all (k:=k+2) Zo;clear hf2;simp only[Az,A2] at*))|fail)
 refine Ag (n:=T.length - m2) (fun s0 m s=> ∃(n2 g:Nat) (x:Sy.Ex) (kc:AV),m=T.length - n2/\n+x.size<=n2/\n<n2/\s.fr 0=s0.fr 0/\s.fr 1=s0.fr 1/\s.fr 4=s0.fr 4/\s.fr 5= .ptr ⟨k+3,5,0⟩ g 0/\s.hp ⟨k+3,5,0⟩= .box g [iz x.kind,iz x.op,uz x.num,tz x.name,kc] false/\
  (kc= .sl false 5 (exRows x.kids)\/ ∃g',kc= .own ⟨k+3,5,5⟩ g' x.kids.length/\s.hp ⟨k+3,5,5⟩= .arr g' 5 288 (exRows x.kids) false)/\s.hp ⟨k+3,4,0⟩= .box ((hp1 ⟨k+3,4,0⟩).gen+1) [iv 0,iv 0,uv 0,tv ⟨⟨[]⟩⟩,.own ⟨k+3,4,5⟩ ((hp1 ⟨k+3,4,5⟩).gen+1) 0] false/\Rd T e q gx gy n2 s.hp/\Far (k+2) q hp1 s.hp)
  ⟨m2,_,.mk xk xo xn xs xl,_,rfl,by simp;omega,Zo,Zi,Zi,Zi,by simp;rfl,by simp[Sy.Ex.kind,Sy.Ex.op,Sy.Ex.num,Sy.Ex.name];rfl,.inl (by simp[Sy.Ex.kids]),Zm,⟨Zm,Zm,hlen,hle2⟩,fun d i c hd hne=>by have hd2:d≠k+3:=Zo;simp[*]⟩ ?_
 rintro m ⟨fr,hp⟩ ⟨n2,g,⟨lk,lo,ln,ls_,ll⟩,kc,rfl,hnl,hnn,f0,f1,f4,f5,h5,hkc,h4,⟨hb,ha,_,hle3⟩,hfar⟩
 simp[Sy.Ex.kind,Sy.Ex.op,Sy.Ex.num,Sy.Ex.name,Sy.Ex.kids] at f0 f1 f4 f5 h5 hkc ha hfar hnl
 simp at h4
 simp only at hb
 clear h1 h2 hb2 ha2 hO2 hL2
 have HF:=Lib.hid hfar
 clear hfar
 obtain⟨ke,oe,st,hsg,hs0,hs9,hsn⟩:=sign (peekT T n2)
 have w1:IntKind.i64.wrap ((n2:Int)+1)=(n2:Int)+1:=wrapN Zo
 have w2:IntKind.i64.wrap (st+1)=st+1:=Ad Zo Zo
 have a3:=Cua ll
 have hn3:1<=st->n2<T.length:=fun h=>N9 rfl (hsn h)
 have HN:=Lib.hid hn3
 clear hsn hn3
 rcases hkc with rfl|⟨g',rfl,h55⟩
 all_goals by_cases hlt:st<ls
 all_goals (try have hn2':n2<T.length:=HN.out Zo)
 repeat' (first|((apply L0 (c:=4) (idx:=[0,1,2,3]) (d:=31));kernel_rfl;kernel_rfl;(simp only[List.map_cons,List.map_nil,Array.getD_eq_getD_getElem?,List.getElem?_toArray,List.getElem?_cons_zero,List.getElem?_cons_succ,Option.getD_some]);(repeat' (first|exact Free.nil|((with_reducible apply Cc);(exact Zc))));exact rfl;exact Zc;(exact Od);decide;exact Zc;(apply ihE (k+3) Zo);omega;constructor;(conv=>lhs;simp -implicitDefEqProofs [*,-Int.natCast_add]);(rw[show((n2:Int)+1)=((n2+1:Nat):Int) from Zo]);exact Zc;assumption;omega;omega;rotate_left;(rintro _ hpp ⟨⟨a,rfl⟩,hpf⟩);rotate_right;(rintro _ hp2 h1c ⟨⟨xk,xo,xn,xs,xl⟩,m2,rfl,hs2,hn2,⟨hb2,ha2,_,hle2⟩,hf2⟩;have hO2:=hf2.own Zo;have hL2:=hf2.all (k:=k+2) Zo;clear hf2;simp only[Az,A2] at*);(refine C5 Zf ?_);(repeat (first|((with_reducible apply Wd_u);(exact Zc))|((with_reducible apply Wd_n);(exact Zc))));(with_reducible apply A6);(apply Cz (ps:=[(0,1),(0,2),(1,2),(0,3),(1,3),(0,4)]));kernel_rfl;(iterate 5 refine Zk ?_);(refine List.forall_mem_cons.2 ⟨?_,?_⟩);((focus (refine Cb Zi Zi rfl ?_;(repeat' (refine List.forall_mem_cons.2 ⟨⟨trivial,rfl,by simp[Facet.nm],by simp[Facet.nm],by simp[Facet.nm],by simp[Facet.nm, *]⟩,?_⟩));exact fun y hy=>by cases hy)));(exact Zz))|(refine Z1 ?_)|(refine Z2 ?_ ?_)|(intro h h';try simp[*,-h] at h')|(exact Zx)|((with_reducible apply Aq (f:=111));exact Zv;(apply peek (k+3) Zo);exact Zw;rotate_left;(rintro _ hpp ⟨⟨a,rfl⟩,hpf⟩);rotate_right;(rintro _ hp2 ⟨rfl,⟨hb2,ha2,_,_⟩,hf2⟩;have hO2:=hf2.own Zo;have hL2:=hf2.all (k:=k+2) Zo;clear hf2))|fail)
 all_goals have hfar:=HF.out
 all_goals first
  |exact⟨.mk lk lo ln ls_ ll,n2,Zm,by simp;omega,hnn,⟨Zm,Zm,hlen,hle3⟩,fun d i c hd hne=>by have hd2:d≠k+3:=Zo;simp[*];exact hfar d i c hd hne⟩
  |exact⟨T.length - m2,Zo,m2,g,.mk ke oe 0 tx0 [.mk lk lo ln ls_ ll,.mk xk xo xn xs xl],.own ⟨k+3,5,5⟩ ((hp ⟨k+3,5,5⟩).gen+1) 2,rfl,by simp;omega,Zo,Zm,Zm,Zm,Zm,by simp[Sy.Ex.kind,Sy.Ex.op,Sy.Ex.num,Sy.Ex.name, *];done,.inr ⟨_,rfl,by simp[Sy.Ex.kids, *];done⟩,Zm,⟨Zm,Zm,hlen,hle2⟩,fun d i c hd hne=>by have hd2:d≠k+3:=Zo;simp[*];exact hfar d i c hd hne⟩
  |exact⟨T.length - m2,Zo,m2,g,.mk ke oe 0 tx0 [.mk lk lo ln ls_ ll,.mk xk xo xn xs xl],.own ⟨k+3,5,5⟩ (g'+1) 2,rfl,by simp;omega,Zo,Zm,Zm,Zm,Zm,by simp[Sy.Ex.kind,Sy.Ex.op,Sy.Ex.num,Sy.Ex.name, *];done,.inr ⟨_,rfl,by simp[Sy.Ex.kids, *];done⟩,Zm,⟨Zm,Zm,hlen,hle2⟩,fun d i c hd hne=>by have hd2:d≠k+3:=Zo;simp[*];exact hfar d i c hd hne⟩
theorem exprs (T:List Tok)(e:Int)(q gx gy:Nat): ∀m n:Nat,T.length+1 - n<=m->
  (∀(D:Nat) (hD:2<=D) (d:Nat) (hp1:Hp) (hr:Rd T e q gx gy n hp1),HB P0 E47 (Lm X46) D d 290 [.ptr ⟨1,q,0⟩ gx 0] hp1 (RE T e q gx gy n D hp1) (Wr D q hp1))/\
  (∀(D:Nat) (hD:2<=D) (d:Nat) (hp1:Hp) (ls:Int) (hls:1<=ls) (hr:Rd T e q gx gy n hp1),HB P0 E47 (Lm X46) D d 239 [.ptr ⟨1,q,0⟩ gx 0,iv ls] hp1 (RE T e q gx gy n D hp1) (Wr D q hp1))/\
  (∀(D:Nat) (hD:2<=D) (d:Nat) (hp1:Hp) (hr:Rd T e q gx gy n hp1),HB P0 E47 (Lm X46) D d 292 [.ptr ⟨1,q,0⟩ gx 0] hp1 (RL T e q gx gy n D hp1) (Wr D q hp1)):=by
 intro m
 induction m using Nat.strongRecOn with
 |_ m ih=>
  intro n hm
  have ihE: ∀(D:Nat) (hD:2<=D) (d:Nat) (hp1:Hp) {n2:Nat} {ls:Int} (hls:1<=ls) (hr:Rd T e q gx gy n2 hp1) (hn:n<n2),HB P0 E47 (Lm X46) D d 239 [.ptr ⟨1,q,0⟩ gx 0,iv ls] hp1 (RE T e q gx gy n2 D hp1) (Wr D q hp1):=
   fun D hD d hp1 n2 ls hls hr hn=>(ih (T.length+1 - n2) (by have:=hr.le;omega) n2 (Nat.le_refl _)).2.1 D hD d hp1 ls hls hr
  have hA: ∀(D:Nat) (hD:2<=D) (d:Nat) (hp1:Hp) (hr:Rd T e q gx gy n hp1),HB P0 E47 (Lm X46) D d 290 [.ptr ⟨1,q,0⟩ gx 0] hp1 (RE T e q gx gy n D hp1) (Wr D q hp1):=
   fun D hD d hp1 hr=>atom_w D hD d hp1 ihE (fun D hD d hp1 n2 hr hn=>(ih (T.length+1 - n2) (by have:=hr.le;omega) n2 (Nat.le_refl _)).1 D hD d hp1 hr) (fun D hD d hp1 n2 hr hn=>(ih (T.length+1 - n2) (by have:=hr.le;omega) n2 (Nat.le_refl _)).2.2 D hD d hp1 hr) hr
  have hE: ∀(D:Nat) (hD:2<=D) (d:Nat) (hp1:Hp) (ls:Int) (hls:1<=ls) (hr:Rd T e q gx gy n hp1),HB P0 E47 (Lm X46) D d 239 [.ptr ⟨1,q,0⟩ gx 0,iv ls] hp1 (RE T e q gx gy n D hp1) (Wr D q hp1):=
   fun D hD d hp1 ls hls hr=>expr_w D hD d hp1 ihE (fun D hD d hp1 n2 hr hn=>by
    by_cases h:n=n2
    ·subst h;exact hA D hD d hp1 hr
    ·exact(ih (T.length+1 - n2) (by have:=hr.le;omega) n2 (Nat.le_refl _)).1 D hD d hp1 hr) hls hr
  exact⟨hA,hE,fun D hD d hp1 hr=>args_w D hD d hp1 (fun D hD d hp1 n2 ls hls hr hn=>by
    by_cases h:n=n2
    ·subst h;exact hE D hD d hp1 ls hls hr
    ·exact ihE D hD d hp1 hls hr Zo) hr⟩
theorem Ky {T:List Tok}{e:Int}{q gx gy n:Nat}{ls:Int}(D:Nat)(hD:2<=D)(d:Nat)(hp1:Hp)(hls:1<=ls)(hr:Rd T e q gx gy n hp1):HB P0 E47 (Lm X46) D d 239 [.ptr ⟨1,q,0⟩ gx 0,iv ls] hp1 (RE T e q gx gy n D hp1) (Wr D q hp1):=
 (exprs T e q gx gy _ n (Nat.le_refl _)).2.1 D hD d hp1 ls hls hr
theorem C1a {T:List Tok}{e:Int}{q gx gy n:Nat}(D:Nat)(hD:2<=D)(d:Nat)(hp1:Hp)(hr:Rd T e q gx gy n hp1):HB P0 E47 (Lm X46) D d 292 [.ptr ⟨1,q,0⟩ gx 0] hp1 (RL T e q gx gy n D hp1) (Wr D q hp1):=
 (exprs T e q gx gy _ n (Nat.le_refl _)).2.2 D hD d hp1 hr
@[simp] theorem Db (k:Int)(s:Tx)(e:List Sy.Ex)(t f:List Sy.St):(Sy.St.mk k s e t f).row=[iz k,tz s.1,.sl false 5 (exRows e),.sl false 5 (stRows t),.sl false 5 (stRows f)]:=Sy.St.row_eq _
@[simp] theorem Cp (k:Int)(s:Tx)(e:List Sy.Ex)(t f:List Sy.St):(Sy.St.mk k s e t f).size=exSize e+stSize t+stSize f+1:=Sy.St.size_eq _
def RS (T:List Tok)(e:Int)(q gx gy n D:Nat)(hp1:Hp)(v:AV)(hp2:Hp):Prop:= ∃(x:Sy.St) (n2:Nat),v= .agg x.row/\n+x.size<=n2/\n<n2/\Rd T e q gx gy n2 hp2/\Far D q hp1 hp2
def RSL (T:List Tok)(e:Int)(q gx gy n D:Nat)(hp1:Hp)(v:AV)(hp2:Hp):Prop:= ∃(x:List Sy.St) (n2:Nat),v= .sl false 5 (stRows x)/\n+stSize x<=n2/\n<n2/\Rd T e q gx gy n2 hp2/\Far D q hp1 hp2
theorem st_take (l:List Sy.St):(stRows l).take l.length=stRows l:=by rw[List.take_of_length_le Zi]
theorem round {T:List Tok}{e:Int}{q n gx gy:Nat}(D:Nat)(hD:2<=D)(d:Nat)(hp1:Hp)(hr:Rd T e q gx gy n hp1):HB P0 E47 (Lm X46) D d 238 [.ptr ⟨1,q,0⟩ gx 0] hp1 (fun v hp2=> ∃(x:Sy.Ex) (n2:Nat),v= .sl false 5 [x.row]/\n+x.size<=n2/\n<n2/\Rd T e q gx gy n2 hp2/\Far D q hp1 hp2) (Wr D q hp1):=by
 obtain⟨k,rfl⟩: ∃k,D=k+2:=⟨D - 2,Zo⟩
 clear hD
 refine Bc (k1:=k+3) (PR:=Wr (k+2) q hp1) rfl Tryz.func238 rfl rfl Y3 rfl rvs_238 H6a ?_
 obtain⟨h1,h2,hlen,hle⟩:=hr
 repeat' (first|refine ZN ?_|refine Z2 ?_ ?_|(intro h h';try simp[*,-h] at h')|(exact Zx)|((with_reducible apply Aq (f:=77));exact Zv;(apply Jt (k+3) Zo);exact Zc;decide;exact Zw;rotate_left;(rintro _ hpp ⟨⟨a,rfl⟩,hpf⟩);rotate_right;(rintro _ hp2 ⟨rfl,hn2,⟨hb2,ha2,_,hle2⟩,hf2⟩;have hO2:=hf2.own Zo;have hL2:=hf2.all (k:=k+2) Zo;clear hf2))|((with_reducible apply Aq (f:=239));exact Zv;(apply Ky (k+3) Zo);omega;exact Zw;rotate_left;(rintro _ hpp ⟨⟨a,rfl⟩,hpf⟩);rotate_right;(rintro _ hp2 ⟨⟨xk,xo,xn,xs,xl⟩,m2,rfl,hs2,hn2,⟨hb2,ha2,_,hle2⟩,hf2⟩;have hO2:=hf2.own Zo;have hL2:=hf2.all (k:=k+2) Zo;clear hf2;simp only[Az,A2] at*))|fail)
 exact⟨.mk xk xo xn xs xl,m2+1,Zm,by(try simp);try omega,Zo,⟨Zm,Zm,hlen,Zo⟩,fun d i c hd hne=>by have hd2:d≠k+3:=Zo;simp[*]⟩
theorem body_w {T:List Tok}{e:Int}{q n gx gy:Nat}(D:Nat)(hD:2<=D)(d:Nat)(hp1:Hp)(ihL: ∀(D:Nat) (hD:2<=D) (d:Nat) (hp1:Hp) {n2:Nat} (hr:Rd T e q gx gy n2 hp1) (hn:n<n2),HB P0 E47 (Lm X46) D d 113 [.ptr ⟨1,q,0⟩ gx 0] hp1 (RSL T e q gx gy n2 D hp1) (Wr D q hp1))(hr:Rd T e q gx gy n hp1):HB P0 E47 (Lm X46) D d 240 [.ptr ⟨1,q,0⟩ gx 0] hp1 (RSL T e q gx gy n D hp1) (Wr D q hp1):=by
 obtain⟨k,rfl⟩: ∃k,D=k+2:=⟨D - 2,Zo⟩
 clear hD
 refine Bc (k1:=k+3) (PR:=Wr (k+2) q hp1) rfl Tryz.func240 rfl rfl Y1 rfl rvs_240 H4a ?_
 obtain⟨h1,h2,hlen,hle⟩:=hr
 repeat' (first|refine ZN ?_|refine Z2 ?_ ?_|(intro h h';try simp[*,-h] at h')|(exact Zx)|((with_reducible apply Aq (f:=77));exact Zv;(apply Jt (k+3) Zo);exact Zc;decide;exact Zw;rotate_left;(rintro _ hpp ⟨⟨a,rfl⟩,hpf⟩);rotate_right;(rintro _ hp2 ⟨rfl,hn2,⟨hb2,ha2,_,hle2⟩,hf2⟩;have hO2:=hf2.own Zo;have hL2:=hf2.all (k:=k+2) Zo;clear hf2))|((with_reducible apply Aq (f:=113));exact Zv;(apply ihL (k+3) Zo);exact Zw;omega;rotate_left;(rintro _ hpp ⟨⟨a,rfl⟩,hpf⟩);rotate_right;(rintro _ hp2 ⟨sl,m2,rfl,hs2,hn2,⟨hb2,ha2,_,hle2⟩,hf2⟩;have hO2:=hf2.own Zo;have hL2:=hf2.all (k:=k+2) Zo;clear hf2))|fail)
 exact⟨sl,m2,Zm,by(try simp);try omega,Zo,⟨Zm,Zm,hlen,Zo⟩,fun d i c hd hne=>by have hd2:d≠k+3:=Zo;simp[*]⟩
theorem stmts_w {T:List Tok}{e:Int}{q n gx gy:Nat}(D:Nat)(hD:2<=D)(d:Nat)(hp1:Hp)(ihS: ∀(D:Nat) (hD:2<=D) (d:Nat) (hp1:Hp) {n2:Nat} (hr:Rd T e q gx gy n2 hp1) (hn:n<=n2),HB P0 E47 (Lm X46) D d 162 [.ptr ⟨1,q,0⟩ gx 0] hp1 (RS T e q gx gy n2 D hp1) (Wr D q hp1))(hr:Rd T e q gx gy n hp1):HB P0 E47 (Lm X46) D d 113 [.ptr ⟨1,q,0⟩ gx 0] hp1 (RSL T e q gx gy n D hp1) (Wr D q hp1):=by
 obtain⟨k,rfl⟩: ∃k,D=k+2:=⟨D - 2,Zo⟩
 clear hD
 refine Bc (k1:=k+3) (PR:=Wr (k+2) q hp1) rfl Tryz.func113 rfl rfl Bja rfl rvs_113 Jxa ?_
 obtain⟨h1,h2,hlen,hle⟩:=hr
 repeat' (first|refine ZN ?_|refine Z2 ?_ ?_|(intro h h';try simp[*,-h] at h')|(exact Zx)|fail)
 refine Ag (n:=T.length+1 - n) (fun s0 m s=> ∃(n2 g:Nat) (l:List Sy.St),m=T.length+1 - n2/\n+stSize l<=n2/\s.fr 0=s0.fr 0/\s.fr 3= .own ⟨k+3,3,0⟩ g l.length/\s.hp ⟨k+3,3,0⟩= .arr g 5 215 (stRows l) false/\Rd T e q gx gy n2 s.hp/\Far (k+2) q hp1 s.hp) ⟨n,_,[],rfl,Zi,Zi,by simp;rfl,Zm,⟨Zm,Zm,hlen,hle⟩,fun d i c hd hne=>by have hd2:d≠k+3:=Zo;simp[*]⟩ ?_
 clear h1 h2
 rintro m ⟨fr,hp⟩ ⟨n2,g,l,rfl,hnl,f0,f3,hl,⟨hb,ha,_,hle3⟩,hfar⟩
 simp at f0 f3 hl ha hfar
 simp only at hb
 have HF:=Lib.hid hfar
 clear hfar
 have hll:=Cl l
 have a1:(l.length+1)*96<=140737488355328:=Zo
 have a2:l.length<=9223372036854775806:=Zo
 have a3:=st_take l
 repeat' (first|refine ZN ?_|refine Z2 ?_ ?_|(intro h h';try simp[*,-h] at h')|(exact Zx)|((with_reducible apply Aq (f:=74));exact Zv;(apply may (k+3) Zo);decide;exact Zw;rotate_left;(rintro _ hpp ⟨⟨a,rfl⟩,hpf⟩);rotate_right;(rintro _ hp2 (⟨rfl,⟨hb2,ha2,_,_⟩,hf2⟩|⟨rfl,hn2,⟨hb2,ha2,_,hle2⟩,hf2⟩)<;>(have hO2:=hf2.own Zo;have hL2:=hf2.all (k:=k+2) Zo;clear hf2)))|((with_reducible apply Aq (f:=162));exact Zv;(apply ihS (k+3) Zo);exact Zw;omega;rotate_left;(rintro _ hpp ⟨⟨a,rfl⟩,hpf⟩);rotate_right;(rintro _ hp2 ⟨⟨sk,sn,se,sth,sel⟩,m2,rfl,hs2,hn2,⟨hb2,ha2,_,hle2⟩,hf2⟩;have hO2:=hf2.own Zo;have hL2:=hf2.all (k:=k+2) Zo;clear hf2;simp only[Db,Cp] at*))|fail)
 all_goals have hfar:=HF.out
 ·exact⟨T.length+1 - m2,Zo,m2,g+1,l++[.mk sk sn se sth sel],rfl,by simp;omega,Zm,Zm,Zm,⟨Zm,Zm,hlen,hle2⟩,fun d i c hd hne=>by have hd2:d≠k+3:=Zo;simp[*];exact hfar d i c hd hne⟩
 ·exact⟨l,n2+1,Zm,Zo,Zo,⟨Zm,Zm,hlen,Zo⟩,fun d i c hd hne=>by have hd2:d≠k+3:=Zo;simp[*];exact hfar d i c hd hne⟩
theorem named {T:List Tok}{e:Int}{q n gx gy:Nat}(D:Nat)(hD:2<=D)(d:Nat)(hp1:Hp)(hr:Rd T e q gx gy n hp1):HB P0 E47 (Lm X46) D d 241 [.ptr ⟨1,q,0⟩ gx 0] hp1 (RS T e q gx gy n D hp1) (Wr D q hp1):=by
 obtain⟨k,rfl⟩: ∃k,D=k+2:=⟨D - 2,Zo⟩
 clear hD
 refine Bc (k1:=k+3) (PR:=Wr (k+2) q hp1) rfl Tryz.func241 rfl rfl Y0 rfl rvs_241 H3a ?_
 obtain⟨h1,h2,hlen,hle⟩:=hr
 repeat' (first|((apply L0 (c:=2) (idx:=[0,1]) (d:=30));kernel_rfl;kernel_rfl;(simp only[List.map_cons,List.map_nil,Array.getD_eq_getD_getElem?,List.getElem?_toArray,List.getElem?_cons_zero,List.getElem?_cons_succ,Option.getD_some]);(repeat' (first|exact Free.nil|((with_reducible apply Cc);(exact Zc))));exact rfl;exact Zc;(exact Od);decide;exact Zc;(apply Ky (k+3) Zo);decide;exact Zw;rotate_left;(rintro _ hpp ⟨⟨a,rfl⟩,hpf⟩);rotate_right;(rintro _ hp2 h1c ⟨⟨yk,yo,yn,ys,yl⟩,m3,rfl,hs2,hn2,⟨hb2,ha2,_,hle2⟩,hf2⟩;have hO2:=hf2.own Zo;have hL2:=hf2.all (k:=k+2) Zo;clear hf2;simp only[Az,A2] at*);(refine C5 Zf ?_);(repeat (first|((with_reducible apply Wd_u);(exact Zc))|((with_reducible apply Wd_n);(exact Zc))));(with_reducible apply A6);(apply Cz (ps:=[(0,1),(0,2)]));kernel_rfl;(refine Zk ?_);(refine List.forall_mem_cons.2 ⟨?_,?_⟩);((focus (refine Cb Zi Zi rfl ?_;(repeat' (refine List.forall_mem_cons.2 ⟨⟨trivial,rfl,by simp[Facet.nm],by simp[Facet.nm],by simp[Facet.nm],by simp[Facet.nm, *]⟩,?_⟩));exact fun y hy=>by cases hy)));(exact Zz))|((apply W_rdB (c:=2) (idx:=[0,1]) (d:=30));kernel_rfl;kernel_rfl;(simp only[List.map_cons,List.map_nil,Array.getD_eq_getD_getElem?,List.getElem?_toArray,List.getElem?_cons_zero,List.getElem?_cons_succ,Option.getD_some]);(repeat' (first|exact Free.nil|((with_reducible apply Cc);(exact Zc))));exact rfl;exact Zc;(exact Od);decide;exact Zc;(apply Ky (k+3) Zo);decide;exact Zw;rotate_left;(rintro _ hpp ⟨⟨a,rfl⟩,hpf⟩);rotate_right;(rintro _ hp2 h1c ⟨⟨yk,yo,yn,ys,yl⟩,m3,rfl,hs2,hn2,⟨hb2,ha2,_,hle2⟩,hf2⟩;have hO2:=hf2.own Zo;have hL2:=hf2.all (k:=k+2) Zo;clear hf2;simp only[Az,A2] at*);(refine Jv Zf ?_);(repeat (first|((with_reducible apply Wd_u);(exact Zc))|((with_reducible apply Wd_n);(exact Zc))));(with_reducible apply A6);(apply Cz (ps:=[(0,1),(0,2)]));kernel_rfl;(refine Zk ?_);(refine List.forall_mem_cons.2 ⟨?_,?_⟩);((focus (refine Cb Zi Zi rfl ?_;(repeat' (refine List.forall_mem_cons.2 ⟨⟨trivial,rfl,by simp[Facet.nm],by simp[Facet.nm],by simp[Facet.nm],by simp[Facet.nm, *]⟩,?_⟩));exact fun y hy=>by cases hy)));(exact Zz))|(refine Z1 ?_)|(refine Z2 ?_ ?_)|(intro h h';try simp[*,-h] at h')|(exact Zx)|((with_reducible apply Aq (f:=74));exact Zv;(apply may (k+3) Zo);decide;exact Zw;rotate_left;(rintro _ hpp ⟨⟨a,rfl⟩,hpf⟩);rotate_right;(rintro _ hp2 (⟨rfl,⟨hb2,ha2,_,_⟩,hf2⟩|⟨rfl,hn2,⟨hb2,ha2,_,hle2⟩,hf2⟩)<;>(have hO2:=hf2.own Zo;have hL2:=hf2.all (k:=k+2) Zo;clear hf2)))|((with_reducible apply Aq (f:=77));exact Zv;(apply Jt (k+3) Zo);exact Zc;decide;exact Zw;rotate_left;(rintro _ hpp ⟨⟨a,rfl⟩,hpf⟩);rotate_right;(rintro _ hp2 ⟨rfl,hn2,⟨hb2,ha2,_,hle2⟩,hf2⟩;have hO2:=hf2.own Zo;have hL2:=hf2.all (k:=k+2) Zo;clear hf2))|((with_reducible apply Aq (f:=77));exact Zv;(apply must2 (k+3) Zo);exact Zc;decide;decide;exact Zw;rotate_left;(rintro _ hpp ⟨⟨a,rfl⟩,hpf⟩);rotate_right;(rintro _ hp2 ⟨rfl,hn2,⟨hb2,ha2,_,hle2⟩,hf2⟩;have hO2:=hf2.own Zo;have hL2:=hf2.all (k:=k+2) Zo;clear hf2))|((with_reducible apply Aq (f:=76));exact Zv;(apply take (k+3) Zo);decide;exact Zw;rotate_left;(rintro _ hpp ⟨⟨a,rfl⟩,hpf⟩);rotate_right;(rintro _ hp2 ⟨⟨tk2,tt2,tn2,ta2⟩,rfl,hn2,⟨hb2,ha2,_,hle2⟩,hf2⟩;have hO2:=hf2.own Zo;have hL2:=hf2.all (k:=k+2) Zo;clear hf2;simp only[Tok.row_mk]))|((with_reducible apply Aq (f:=239));exact Zv;(apply Ky (k+3) Zo);omega;exact Zw;rotate_left;(rintro _ hpp ⟨⟨a,rfl⟩,hpf⟩);rotate_right;(rintro _ hp2 ⟨⟨xk,xo,xn,xs,xl⟩,m2,rfl,hs2,hn2,⟨hb2,ha2,_,hle2⟩,hf2⟩;have hO2:=hf2.own Zo;have hL2:=hf2.all (k:=k+2) Zo;clear hf2;simp only[Az,A2] at*))|((with_reducible apply Aq (f:=292));exact Zv;(apply C1a (k+3) Zo);exact Zw;rotate_left;(rintro _ hpp ⟨⟨a,rfl⟩,hpf⟩);rotate_right;(rintro _ hp2 ⟨xl,m2,rfl,hs2,hn2,⟨hb2,ha2,_,hle2⟩,hf2⟩;have hO2:=hf2.own Zo;have hL2:=hf2.all (k:=k+2) Zo;clear hf2))|((with_reducible apply Aq (f:=73));exact Zv;(apply fail (k+3) Zo);exact Zw;rotate_left;(rintro _ hpp ⟨⟨a,rfl⟩,hpf⟩);rotate_right;(rintro _ _ hf2;exact hf2.elim))|fail)
 ·exact⟨.mk 6 tt2 xl [] [],m2+1,Zm,by(try simp);try omega,Zo,⟨Zm,Zm,hlen,Zo⟩,fun d i c hd hne=>by have hd2:d≠k+3:=Zo;simp[*]⟩
 ·exact⟨.mk 2 tt2 [.mk xk xo xn xs xl,.mk yk yo yn ys yl] [] [],m3+1,Zm,by(try simp);try omega,Zo,⟨Zm,Zm,hlen,Zo⟩,fun d i c hd hne=>by have hd2:d≠k+3:=Zo;simp[*]⟩
 ·exact⟨.mk 1 tt2 [.mk xk xo xn xs xl] [] [],m2+1,Zm,by(try simp);try omega,Zo,⟨Zm,Zm,hlen,Zo⟩,fun d i c hd hne=>by have hd2:d≠k+3:=Zo;simp[*]⟩
theorem stmt_w {T:List Tok}{e:Int}{q n gx gy:Nat}(D:Nat)(hD:2<=D)(d:Nat)(hp1:Hp)(ihB: ∀(D:Nat) (hD:2<=D) (d:Nat) (hp1:Hp) {n2:Nat} (hr:Rd T e q gx gy n2 hp1) (hn:n<n2),HB P0 E47 (Lm X46) D d 240 [.ptr ⟨1,q,0⟩ gx 0] hp1 (RSL T e q gx gy n2 D hp1) (Wr D q hp1))(hr:Rd T e q gx gy n hp1):HB P0 E47 (Lm X46) D d 162 [.ptr ⟨1,q,0⟩ gx 0] hp1 (RS T e q gx gy n D hp1) (Wr D q hp1):=by
 obtain⟨k,rfl⟩: ∃k,D=k+2:=⟨D - 2,Zo⟩
 clear hD
 refine Bc (k1:=k+3) (PR:=Wr (k+2) q hp1) rfl Tryz.func162 rfl rfl Awa rfl rvs_162 Jga ?_
 obtain⟨h1,h2,hlen,hle⟩:=hr
 repeat' (first|refine ZN ?_|refine Z2 ?_ ?_|(intro h h';try simp[*,-h] at h')|(exact Zx)|((with_reducible apply Aq (f:=74));exact Zv;(apply may (k+3) Zo);decide;exact Zw;rotate_left;(rintro _ hpp ⟨⟨a,rfl⟩,hpf⟩);rotate_right;(rintro _ hp2 (⟨rfl,⟨hb2,ha2,_,_⟩,hf2⟩|⟨rfl,hn2,⟨hb2,ha2,_,hle2⟩,hf2⟩)<;>(have hO2:=hf2.own Zo;have hL2:=hf2.all (k:=k+2) Zo;clear hf2)))|((with_reducible apply Aq (f:=77));exact Zv;(apply Jt (k+3) Zo);exact Zc;decide;exact Zw;rotate_left;(rintro _ hpp ⟨⟨a,rfl⟩,hpf⟩);rotate_right;(rintro _ hp2 ⟨rfl,hn2,⟨hb2,ha2,_,hle2⟩,hf2⟩;have hO2:=hf2.own Zo;have hL2:=hf2.all (k:=k+2) Zo;clear hf2))|((with_reducible apply Aq (f:=77));exact Zv;(apply must2 (k+3) Zo);exact Zc;decide;decide;exact Zw;rotate_left;(rintro _ hpp ⟨⟨a,rfl⟩,hpf⟩);rotate_right;(rintro _ hp2 ⟨rfl,hn2,⟨hb2,ha2,_,hle2⟩,hf2⟩;have hO2:=hf2.own Zo;have hL2:=hf2.all (k:=k+2) Zo;clear hf2))|((with_reducible apply Aq (f:=76));exact Zv;(apply take (k+3) Zo);decide;exact Zw;rotate_left;(rintro _ hpp ⟨⟨a,rfl⟩,hpf⟩);rotate_right;(rintro _ hp2 ⟨⟨tk2,tt2,tn2,ta2⟩,rfl,hn2,⟨hb2,ha2,_,hle2⟩,hf2⟩;have hO2:=hf2.own Zo;have hL2:=hf2.all (k:=k+2) Zo;clear hf2;simp only[Tok.row_mk]))|((with_reducible apply Aq (f:=239));exact Zv;(apply Ky (k+3) Zo);omega;exact Zw;rotate_left;(rintro _ hpp ⟨⟨a,rfl⟩,hpf⟩);rotate_right;(rintro _ hp2 ⟨⟨xk,xo,xn,xs,xl⟩,m2,rfl,hs2,hn2,⟨hb2,ha2,_,hle2⟩,hf2⟩;have hO2:=hf2.own Zo;have hL2:=hf2.all (k:=k+2) Zo;clear hf2;simp only[Az,A2] at*))|((with_reducible apply Aq (f:=292));exact Zv;(apply C1a (k+3) Zo);exact Zw;rotate_left;(rintro _ hpp ⟨⟨a,rfl⟩,hpf⟩);rotate_right;(rintro _ hp2 ⟨xl,m2,rfl,hs2,hn2,⟨hb2,ha2,_,hle2⟩,hf2⟩;have hO2:=hf2.own Zo;have hL2:=hf2.all (k:=k+2) Zo;clear hf2))|((with_reducible apply Aq (f:=73));exact Zv;(apply fail (k+3) Zo);exact Zw;rotate_left;(rintro _ hpp ⟨⟨a,rfl⟩,hpf⟩);rotate_right;(rintro _ _ hf2;exact hf2.elim))|((with_reducible apply Aq (f:=238));exact Zv;(apply round (k+3) Zo);exact Zw;rotate_left;(rintro _ hpp ⟨⟨a,rfl⟩,hpf⟩);rotate_right;(rintro _ hp2 ⟨rx,m2,rfl,hs2,hn2,⟨hb2,ha2,_,hle2⟩,hf2⟩;have hO2:=hf2.own Zo;have hL2:=hf2.all (k:=k+2) Zo;clear hf2))|((fail_if_success (have hbl:=bl));((with_reducible apply Aq (f:=240));exact Zv;(apply ihB (k+3) Zo);exact Zw;omega;rotate_left;(rintro _ hpp ⟨⟨a,rfl⟩,hpf⟩);rotate_right;(rintro _ hp2 ⟨bl,m2,rfl,hs2,hn2,⟨hb2,ha2,_,hle2⟩,hf2⟩;have hO2:=hf2.own Zo;have hL2:=hf2.all (k:=k+2) Zo;clear hf2)))|((with_reducible apply Aq (f:=240));exact Zv;(apply ihB (k+3) Zo);exact Zw;omega;rotate_left;(rintro _ hpp ⟨⟨a,rfl⟩,hpf⟩);rotate_right;(rintro _ hp2 ⟨bl2,m2,rfl,hs2,hn2,⟨hb2,ha2,_,hle2⟩,hf2⟩;have hO2:=hf2.own Zo;have hL2:=hf2.all (k:=k+2) Zo;clear hf2))|((with_reducible apply Aq (f:=241));exact Zv;(apply named (k+3) Zo);exact Zw;rotate_left;(rintro _ hpp ⟨⟨a,rfl⟩,hpf⟩);rotate_right;(rintro _ hp2 ⟨⟨sk,sn,se,sth,sel⟩,m2,rfl,hs2,hn2,⟨hb2,ha2,_,hle2⟩,hf2⟩;have hO2:=hf2.own Zo;have hL2:=hf2.all (k:=k+2) Zo;clear hf2;simp only[Db,Cp] at*))|fail)
 ·exact⟨.mk sk sn se sth sel,m2,Zm,by(try simp);try omega,Zo,⟨Zm,Zm,hlen,Zo⟩,fun d i c hd hne=>by have hd2:d≠k+3:=Zo;simp[*]⟩
 ·exact⟨.mk 5 tx0 [rx] bl [],m2,Zm,by(try simp);try omega,Zo,⟨Zm,Zm,hlen,Zo⟩,fun d i c hd hne=>by have hd2:d≠k+3:=Zo;simp[*]⟩
 ·exact⟨.mk 4 tx0 [rx] bl [],m2,Zm,by(try simp);try omega,Zo,⟨Zm,Zm,hlen,Zo⟩,fun d i c hd hne=>by have hd2:d≠k+3:=Zo;simp[*]⟩
 ·exact⟨.mk 4 tx0 [rx] bl bl2,m2,Zm,by(try simp);try omega,Zo,⟨Zm,Zm,hlen,Zo⟩,fun d i c hd hne=>by have hd2:d≠k+3:=Zo;simp[*]⟩
 ·exact⟨.mk 7 tx0 [.mk xk xo xn xs xl] [] [],m2+1,Zm,by(try simp);try omega,Zo,⟨Zm,Zm,hlen,Zo⟩,fun d i c hd hne=>by have hd2:d≠k+3:=Zo;simp[*]⟩
 ·exact⟨.mk 7 tx0 [] [] [],n+1+1,Zm,by(try simp);try omega,Zo,⟨Zm,Zm,hlen,Zo⟩,fun d i c hd hne=>by have hd2:d≠k+3:=Zo;simp[*]⟩
 ·exact⟨.mk 3 tx0 [rx] [] [],m2+1,Zm,by(try simp);try omega,Zo,⟨Zm,Zm,hlen,Zo⟩,fun d i c hd hne=>by have hd2:d≠k+3:=Zo;simp[*]⟩
theorem Dqa (T:List Tok)(e:Int)(q gx gy:Nat): ∀m n:Nat,T.length+1 - n<=m->
  (∀(D:Nat) (hD:2<=D) (d:Nat) (hp1:Hp) (hr:Rd T e q gx gy n hp1),HB P0 E47 (Lm X46) D d 240 [.ptr ⟨1,q,0⟩ gx 0] hp1 (RSL T e q gx gy n D hp1) (Wr D q hp1))/\
  (∀(D:Nat) (hD:2<=D) (d:Nat) (hp1:Hp) (hr:Rd T e q gx gy n hp1),HB P0 E47 (Lm X46) D d 162 [.ptr ⟨1,q,0⟩ gx 0] hp1 (RS T e q gx gy n D hp1) (Wr D q hp1))/\
  (∀(D:Nat) (hD:2<=D) (d:Nat) (hp1:Hp) (hr:Rd T e q gx gy n hp1),HB P0 E47 (Lm X46) D d 113 [.ptr ⟨1,q,0⟩ gx 0] hp1 (RSL T e q gx gy n D hp1) (Wr D q hp1)):=by
 intro m
 induction m using Nat.strongRecOn with
 |_ m ih=>
  intro n hm
  have hS: ∀(D:Nat) (hD:2<=D) (d:Nat) (hp1:Hp) (hr:Rd T e q gx gy n hp1),HB P0 E47 (Lm X46) D d 162 [.ptr ⟨1,q,0⟩ gx 0] hp1 (RS T e q gx gy n D hp1) (Wr D q hp1):=
   fun D hD d hp1 hr=>stmt_w D hD d hp1 (fun D hD d hp1 n2 hr hn=>(ih (T.length+1 - n2) (by have:=hr.le;omega) n2 (Nat.le_refl _)).1 D hD d hp1 hr) hr
  exact⟨fun D hD d hp1 hr=>body_w D hD d hp1 (fun D hD d hp1 n2 hr hn=>(ih (T.length+1 - n2) (by have:=hr.le;omega) n2 (Nat.le_refl _)).2.2 D hD d hp1 hr) hr,hS,
   fun D hD d hp1 hr=>stmts_w D hD d hp1 (fun D hD d hp1 n2 hr hn=>by
    by_cases h:n=n2
    ·subst h;exact hS D hD d hp1 hr
    ·exact(ih (T.length+1 - n2) (by have:=hr.le;omega) n2 (Nat.le_refl _)).2.1 D hD d hp1 hr) hr⟩
theorem Hga {T:List Tok}{e:Int}{q gx gy n:Nat}(D:Nat)(hD:2<=D)(d:Nat)(hp1:Hp)(hr:Rd T e q gx gy n hp1):HB P0 E47 (Lm X46) D d 113 [.ptr ⟨1,q,0⟩ gx 0] hp1 (RSL T e q gx gy n D hp1) (Wr D q hp1):=
 (Dqa T e q gx gy _ n (Nat.le_refl _)).2.2 D hD d hp1 hr
def RF (T:List Tok)(e:Int)(q gx gy n D:Nat)(hp1:Hp)(v:AV)(hp2:Hp):Prop:= ∃(x:Sy.Fu) (n2:Nat),v= .agg x.row/\n+x.size<=n2/\n<n2/\Rd T e q gx gy n2 hp2/\Far D q hp1 hp2
theorem fun_w {T:List Tok}{e:Int}{q n gx gy:Nat}(D:Nat)(hD:2<=D)(d:Nat)(hp1:Hp)(hr:Rd T e q gx gy n hp1):HB P0 E47 (Lm X46) D d 78 [.ptr ⟨1,q,0⟩ gx 0] hp1 (RF T e q gx gy n D hp1) (Wr D q hp1):=by
 obtain⟨k,rfl⟩: ∃k,D=k+2:=⟨D - 2,Zo⟩
 clear hD
 refine Bc (k1:=k+3) (PR:=Wr (k+2) q hp1) rfl Tryz.func78 rfl rfl Fua rfl rvs_78 rtys_78 ?_
 obtain⟨h1,h2,hlen,hle⟩:=hr
 repeat' (first|refine ZN ?_|refine Z2 ?_ ?_|(intro h h';try simp[*,-h] at h')|(exact Zx)|((with_reducible apply Aq (f:=74));exact Zv;(apply may (k+3) Zo);decide;exact Zw;rotate_left;(rintro _ hpp ⟨⟨a,rfl⟩,hpf⟩);rotate_right;(rintro _ hp2 (⟨rfl,⟨hb2,ha2,_,_⟩,hf2⟩|⟨rfl,hn2,⟨hb2,ha2,_,hle2⟩,hf2⟩)<;>(have hO2:=hf2.own Zo;have hL2:=hf2.all (k:=k+2) Zo;clear hf2)))|((with_reducible apply Aq (f:=77));exact Zv;(apply Jt (k+3) Zo);exact Zc;decide;exact Zw;rotate_left;(rintro _ hpp ⟨⟨a,rfl⟩,hpf⟩);rotate_right;(rintro _ hp2 ⟨rfl,hn2,⟨hb2,ha2,_,hle2⟩,hf2⟩;have hO2:=hf2.own Zo;have hL2:=hf2.all (k:=k+2) Zo;clear hf2))|((with_reducible apply Aq (f:=76));exact Zv;(apply take (k+3) Zo);decide;exact Zw;rotate_left;(rintro _ hpp ⟨⟨a,rfl⟩,hpf⟩);rotate_right;(rintro _ hp2 ⟨⟨tk2,tt2,tn2,ta2⟩,rfl,hn2,⟨hb2,ha2,_,hle2⟩,hf2⟩;have hO2:=hf2.own Zo;have hL2:=hf2.all (k:=k+2) Zo;clear hf2;simp only[Tok.row_mk]))|((with_reducible apply Aq (f:=112));exact Zv;(apply kind (k+3) Zo);exact Zw;rotate_left;(rintro _ hpp ⟨⟨a,rfl⟩,hpf⟩);rotate_right;(rintro _ hp2 ⟨rfl,⟨hb2,ha2,_,_⟩,hf2⟩;have hO2:=hf2.own Zo;have hL2:=hf2.all (k:=k+2) Zo;clear hf2))|((with_reducible apply Aq (f:=75));exact Zv;(apply names (k+3) Zo);exact Zw;rotate_left;(rintro _ hpp ⟨⟨a,rfl⟩,hpf⟩);rotate_right;(rintro _ hp2 ⟨nl2,m2,rfl,hs2,hn2,⟨hb2,ha2,_,hle2⟩,hf2⟩;have hO2:=hf2.own Zo;have hL2:=hf2.all (k:=k+2) Zo;clear hf2))|fail)
 all_goals (refine Ag (n:=T.length+1 - n) (fun s0 m s=> ∃(n2 g2 g5:Nat) (ls ps:List Tx) (c1:AV) (w:Bool) (nm:Tx),T.length+1 - n2<=m/\n+ps.length+ls.length+1<=n2/\s.fr 0= .ptr ⟨1,q,0⟩ gx 0/\s.fr 2= .ptr ⟨k+3,2,0⟩ ((hp1 ⟨k+3,2,0⟩).gen+1) 0/\s.fr 3= .ptr ⟨k+3,3,0⟩ ((hp1 ⟨k+3,3,0⟩).gen+1) 0/\
   s.hp ⟨k+3,3,0⟩= .box ((hp1 ⟨k+3,3,0⟩).gen+1) [tv nm,c1,.own ⟨k+3,3,3⟩ g2 ls.length,bv w,.own ⟨k+3,3,5⟩ g5 0] false/\s.hp ⟨k+3,3,3⟩= .arr g2 1 9 (txRows ls) false/\s.hp ⟨k+3,3,5⟩= .arr g5 5 215 [] false/\
   (c1= .sl false 1 (txRows ps)\/(ps=[]/\ ∃g',c1= .own ⟨k+3,3,2⟩ g' 0/\s.hp ⟨k+3,3,2⟩= .arr g' 1 9 [] false))/\
   s.hp ⟨k+3,2,0⟩= .box ((hp1 ⟨k+3,2,0⟩).gen+1) [tv ⟨⟨[]⟩⟩,.own ⟨k+3,2,2⟩ ((hp1 ⟨k+3,2,2⟩).gen+1) 0,.own ⟨k+3,2,3⟩ ((hp1 ⟨k+3,2,3⟩).gen+1) 0,bv false,.own ⟨k+3,2,5⟩ ((hp1 ⟨k+3,2,5⟩).gen+1) 0] false/\Rd T e q gx gy n2 s.hp/\Far (k+2) q hp1 s.hp) ?_ ?_;(first
  |(exact⟨m2+1+1+1,(hp1 ⟨k+3,3,3⟩).gen+1,(hp1 ⟨k+3,3,5⟩).gen+1,[],nl2,.sl false 1 (txRows nl2),true,tt2,Zo,by(try simp);try omega,Zm,Zm,Zm,by simp[*];done,Zm,Zm,.inl rfl,Zm,⟨by simp[*];done,Zm,hlen,Zo⟩,fun d i c hd hne=>by have hd2:d≠k+3:=Zo;simp[*]⟩)
  |(exact⟨m2+1+1,(hp1 ⟨k+3,3,3⟩).gen+1,(hp1 ⟨k+3,3,5⟩).gen+1,[],nl2,.sl false 1 (txRows nl2),false,tt2,Zo,by(try simp);try omega,Zm,Zm,Zm,by simp[*];done,Zm,Zm,.inl rfl,Zm,⟨by simp[*];done,Zm,hlen,Zo⟩,fun d i c hd hne=>by have hd2:d≠k+3:=Zo;simp[*]⟩)
  |(exact⟨n+1+1+1+1+1+1,(hp1 ⟨k+3,3,3⟩).gen+1,(hp1 ⟨k+3,3,5⟩).gen+1,[],[],.own ⟨k+3,3,2⟩ ((hp1 ⟨k+3,3,2⟩).gen+1) 0,true,tt2,Zo,by(try simp);try omega,Zm,Zm,Zm,by simp[*];done,Zm,Zm,.inr ⟨rfl,_,rfl,Zm⟩,Zm,⟨by simp[*];done,Zm,hlen,Zo⟩,fun d i c hd hne=>by have hd2:d≠k+3:=Zo;simp[*]⟩)
  |(exact⟨n+1+1+1+1+1,(hp1 ⟨k+3,3,3⟩).gen+1,(hp1 ⟨k+3,3,5⟩).gen+1,[],[],.own ⟨k+3,3,2⟩ ((hp1 ⟨k+3,3,2⟩).gen+1) 0,false,tt2,Zo,by(try simp);try omega,Zm,Zm,Zm,by simp[*];done,Zm,Zm,.inr ⟨rfl,_,rfl,Zm⟩,Zm,⟨by simp[*];done,Zm,hlen,Zo⟩,fun d i c hd hne=>by have hd2:d≠k+3:=Zo;simp[*]⟩)))
 all_goals clear h1 h2 hb2 ha2 hO2 hL2
 all_goals rintro m ⟨fr,hp⟩ ⟨n2,g2,g5,ls,ps,c1,w,nm,hmm,hnl,f0,f2,f3,b3,a3,a5,hc1,b2,⟨hb,ha,_,hle3⟩,hfar⟩
 all_goals simp at f0 f2 f3 b3 a3 a5 hc1 b2 ha hfar
 all_goals simp only at hb
 all_goals have HF:=Lib.hid hfar
 all_goals clear hfar
 all_goals have t3:=M3 ls
 all_goals rcases hc1 with rfl|⟨rfl,g',rfl,a2⟩
 all_goals
  repeat' (first|((apply L0 (c:=3) (idx:=[0,1,2]) (d:=34));kernel_rfl;kernel_rfl;(simp only[List.map_cons,List.map_nil,Array.getD_eq_getD_getElem?,List.getElem?_toArray,List.getElem?_cons_zero,List.getElem?_cons_succ,Option.getD_some]);(repeat' (first|exact Free.nil|((with_reducible apply Cc);(exact Zc))));exact rfl;exact Zc;(exact Cea);decide;exact Zc;(apply names (k+3) Zo);exact Zw;rotate_left;(rintro _ hpp ⟨⟨a,rfl⟩,hpf⟩);rotate_right;(rintro _ hp2 h1c ⟨nl3,m2,rfl,hs2,hn2,⟨hb2,ha2,_,hle2⟩,hf2⟩;have hO2:=hf2.own Zo;have hL2:=hf2.all (k:=k+2) Zo;clear hf2;have b1:(ls.length+nl3.length)*16<=140737488355328:=Zo;have b2:ls.length+nl3.length<=9223372036854775807:=Zo);(refine C5 Zf ?_);(repeat (first|((with_reducible apply Wd_u);(exact Zc))|((with_reducible apply Wd_n);(exact Zc))));(with_reducible apply A6);(apply Cz (ps:=[(0,2),(1,2),(0,3),(1,3)]));kernel_rfl;(iterate 2 refine Zk ?_);(refine List.forall_mem_cons.2 ⟨?_,?_⟩);((focus (refine Cb Zi Zi rfl ?_;(repeat' (refine List.forall_mem_cons.2 ⟨⟨trivial,rfl,by simp[Facet.nm],by simp[Facet.nm],by simp[Facet.nm],by simp[Facet.nm, *]⟩,?_⟩));exact fun y hy=>by cases hy)));(refine List.forall_mem_cons.2 ⟨?_,?_⟩);((focus (refine Cb Zi Zi rfl ?_;(repeat' (refine List.forall_mem_cons.2 ⟨⟨trivial,rfl,by simp[Facet.nm],by simp[Facet.nm],by simp[Facet.nm],by simp[Facet.nm, *]⟩,?_⟩));exact fun y hy=>by cases hy)));(exact Zz))|(refine Z1 ?_)|(refine Z2 ?_ ?_)|(intro h h';try simp[*,-h] at h')|(exact Zx)|((with_reducible apply Aq (f:=74));exact Zv;(apply may (k+3) Zo);decide;exact Zw;rotate_left;(rintro _ hpp ⟨⟨a,rfl⟩,hpf⟩);rotate_right;(rintro _ hp2 (⟨rfl,⟨hb2,ha2,_,_⟩,hf2⟩|⟨rfl,hn2,⟨hb2,ha2,_,hle2⟩,hf2⟩)<;>(have hO2:=hf2.own Zo;have hL2:=hf2.all (k:=k+2) Zo;clear hf2)))|((with_reducible apply Aq (f:=77));exact Zv;(apply Jt (k+3) Zo);exact Zc;decide;exact Zw;rotate_left;(rintro _ hpp ⟨⟨a,rfl⟩,hpf⟩);rotate_right;(rintro _ hp2 ⟨rfl,hn2,⟨hb2,ha2,_,hle2⟩,hf2⟩;have hO2:=hf2.own Zo;have hL2:=hf2.all (k:=k+2) Zo;clear hf2))|((with_reducible apply Aq (f:=113));exact Zv;(apply Hga (k+3) Zo);exact Zw;rotate_left;(rintro _ hpp ⟨⟨a,rfl⟩,hpf⟩);rotate_right;(rintro _ hp2 ⟨sl,m2,rfl,hs2,hn2,⟨hb2,ha2,_,hle2⟩,hf2⟩;have hO2:=hf2.own Zo;have hL2:=hf2.all (k:=k+2) Zo;clear hf2))|fail)
 all_goals have hfar:=HF.out
 all_goals first
  |(exact⟨⟨nm,ps,ls,w,sl⟩,m2,by simp[Sy.Fu.row, *],by(try simp[Sy.Fu.size] at*);omega,Zo,⟨Zm,Zm,hlen,Zo⟩,fun d i c hd hne=>by have hd2:d≠k+3:=Zo;simp[*];exact hfar d i c hd hne⟩)
  |(exact⟨⟨nm,[],ls,w,sl⟩,m2,by simp[Sy.Fu.row, *],by(try simp[Sy.Fu.size] at*);omega,Zo,⟨Zm,Zm,hlen,Zo⟩,fun d i c hd hne=>by have hd2:d≠k+3:=Zo;simp[*];exact hfar d i c hd hne⟩)
  |(exact⟨T.length+1 - (m2+1),Zo,m2+1,g2+1,g5,ls++nl3,ps,.sl false 1 (txRows ps),w,nm,Zo,by(try simp at*);omega,Zm,Zm,Zm,by simp[*];done,Zm,Zm,.inl rfl,Zm,⟨by simp[*];done,Zm,hlen,Zo⟩,fun d i c hd hne=>by have hd2:d≠k+3:=Zo;simp[*];exact hfar d i c hd hne⟩)
  |(exact⟨T.length+1 - (m2+1),Zo,m2+1,g2+1,g5,ls++nl3,[],.own ⟨k+3,3,2⟩ g' 0,w,nm,Zo,by(try simp at*);omega,Zm,Zm,Zm,by simp[*];done,Zm,Zm,(.inr ⟨rfl,g',rfl,Zm⟩),Zm,⟨by simp[*];done,Zm,hlen,Zo⟩,fun d i c hd hne=>by have hd2:d≠k+3:=Zo;simp[*];exact hfar d i c hd hne⟩)
@[simp] theorem A3 (nm:Tx)(ps ls:List Tx)(w:Bool)(b:List Sy.St):(Sy.Fu.mk nm ps ls w b).row=[tz nm.1,.sl false 1 (txRows ps),.sl false 1 (txRows ls),bz w,.sl false 5 (stRows b)]:=rfl
@[simp] theorem Bp (nm:Tx)(ps ls:List Tx)(w:Bool)(b:List Sy.St):(Sy.Fu.mk nm ps ls w b).size=ps.length+ls.length+stSize b+1:=rfl
def RP (T:List Tok)(e:Int)(q gx gy n D:Nat)(hp1:Hp)(v:AV)(hp2:Hp):Prop:= ∃(x:Sy.Pr) (n2:Nat),v= .agg x.row/\n+x.size<=n2/\Rd T e q gx gy n2 hp2/\Far D q hp1 hp2
theorem C2a (l:List (Tx×Int)):(arRows l).take l.length=arRows l:=by rw[List.take_of_length_le (by simp[arRows])]
theorem ar_len (l:List (Tx×Int)):(arRows l).length=l.length:=by simp[arRows]
theorem C3a (l:List (Tx×Int))(s:Tx)(z:Int):arRows (l++[(s,z)])=arRows l++[[tz s.1,iz z]]:=by simp[arRows]
theorem fu_take (l:List Sy.Fu):(l.map Sy.Fu.row).take l.length=l.map Sy.Fu.row:=by rw[List.take_of_length_le Zi]
theorem prog_w {T:List Tok}{e:Int}{q n gx gy:Nat}(D:Nat)(hD:2<=D)(d:Nat)(hp1:Hp)(hr:Rd T e q gx gy n hp1):HB P0 E47 (Lm X46) D d 47 [.ptr ⟨1,q,0⟩ gx 0] hp1 (RP T e q gx gy n D hp1) (Wr D q hp1):=by
 obtain⟨k,rfl⟩: ∃k,D=k+2:=⟨D - 2,Zo⟩
 clear hD
 refine Bc (k1:=k+3) (PR:=Wr (k+2) q hp1) rfl Tryz.func47 rfl rfl F9a rfl rvs_47 rtys_47 ?_
 obtain⟨h1,h2,hlen,hle⟩:=hr
 repeat' (first|refine ZN ?_|refine Z2 ?_ ?_|(intro h h';try simp[*,-h] at h')|(exact Zx)|fail)
 refine Ag (n:=T.length+1 - n) (fun s0 m s=> ∃(n2 gv ga gf:Nat) (vs:List Tx) (ar:List (Tx×Int)),T.length+1 - n2<=m/\n+vs.length+ar.length<=n2/\s.fr 0= .ptr ⟨1,q,0⟩ gx 0/\s.fr 2= .ptr ⟨k+3,2,0⟩ ((hp1 ⟨k+3,2,0⟩).gen+1) 0/\s.fr 3= .ptr ⟨k+3,3,0⟩ ((hp1 ⟨k+3,3,0⟩).gen+1) 0/\s.hp ⟨k+3,3,0⟩= .box ((hp1 ⟨k+3,3,0⟩).gen+1) [.own ⟨k+3,3,1⟩ gv vs.length,.own ⟨k+3,3,2⟩ ga ar.length,.own ⟨k+3,3,3⟩ gf 0] false/\s.hp ⟨k+3,3,1⟩= .arr gv 1 9 (txRows vs) false/\s.hp ⟨k+3,3,2⟩= .arr ga 2 145 (arRows ar) false/\s.hp ⟨k+3,3,3⟩= .arr gf 5 148 [] false/\s.hp ⟨k+3,2,0⟩= .box ((hp1 ⟨k+3,2,0⟩).gen+1) [.own ⟨k+3,2,1⟩ ((hp1 ⟨k+3,2,1⟩).gen+1) 0,.own ⟨k+3,2,2⟩ ((hp1 ⟨k+3,2,2⟩).gen+1) 0,.own ⟨k+3,2,3⟩ ((hp1 ⟨k+3,2,3⟩).gen+1) 0] false/\Rd T e q gx gy n2 s.hp/\Far (k+2) q hp1 s.hp) ⟨n,(hp1 ⟨k+3,3,1⟩).gen+1,(hp1 ⟨k+3,3,2⟩).gen+1,(hp1 ⟨k+3,3,3⟩).gen+1,[],[],Zo,Zi,Zi,Zi,Zi,by simp;done,Zi,by simp[arRows],Zi,Zi,⟨Zm,Zm,hlen,hle⟩,fun d i c hd hne=>by have hd2:d≠k+3:=Zo;simp[*]⟩ ?_
 clear h1 h2
 rintro m ⟨fr,hp⟩ ⟨n2,gv,ga,gf,vs,ar,hmm,hnl,f0,f2,f3,b3,a1,a2,a3,b2,⟨hb,ha,_,hle3⟩,hfar⟩
 simp at f0 f2 f3 b3 a1 a2 a3 b2 ha hfar
 simp only at hb
 have HF:=Lib.hid hfar
 have t1:=M3 vs
 have t2:=C2a ar
 have t4:=ar_len ar
 have t6:=C3a ar
 clear hfar
 have x1:(ar.length+1)*24<=140737488355328:=Zo
 have x2:ar.length<=9223372036854775806:=Zo
 repeat' (first|((apply L0 (c:=3) (idx:=[0,1,2]) (d:=11));kernel_rfl;kernel_rfl;(simp only[List.map_cons,List.map_nil,Array.getD_eq_getD_getElem?,List.getElem?_toArray,List.getElem?_cons_zero,List.getElem?_cons_succ,Option.getD_some]);(repeat' (first|exact Free.nil|((with_reducible apply Cc);(exact Zc))));exact rfl;exact Zc;(exact Cea);decide;exact Zc;(apply names (k+3) Zo);exact Zw;rotate_left;(rintro _ hpp ⟨⟨a,rfl⟩,hpf⟩);rotate_right;(rintro _ hp2 h1c ⟨nl3,m2,rfl,hs2,hn2,⟨hb2,ha2,_,hle2⟩,hf2⟩;have hO2:=hf2.own Zo;have hL2:=hf2.all (k:=k+2) Zo;clear hf2;have b1:(vs.length+nl3.length)*16<=140737488355328:=Zo;have b2:vs.length+nl3.length<=9223372036854775807:=Zo);(refine C5 Zf ?_);(repeat (first|((with_reducible apply Wd_u);(exact Zc))|((with_reducible apply Wd_n);(exact Zc))));(with_reducible apply A6);(apply Cz (ps:=[(0,2),(1,2),(0,3),(1,3)]));kernel_rfl;(iterate 2 refine Zk ?_);(refine List.forall_mem_cons.2 ⟨?_,?_⟩);((focus (refine Cb Zi Zi rfl ?_;(repeat' (refine List.forall_mem_cons.2 ⟨⟨trivial,rfl,by simp[Facet.nm],by simp[Facet.nm],by simp[Facet.nm],by simp[Facet.nm, *]⟩,?_⟩));exact fun y hy=>by cases hy)));(refine List.forall_mem_cons.2 ⟨?_,?_⟩);((focus (refine Cb Zi Zi rfl ?_;(repeat' (refine List.forall_mem_cons.2 ⟨⟨trivial,rfl,by simp[Facet.nm],by simp[Facet.nm],by simp[Facet.nm],by simp[Facet.nm, *]⟩,?_⟩));exact fun y hy=>by cases hy)));(exact Zz))|((apply L0 (c:=3) (idx:=[0,1,2]) (d:=43));kernel_rfl;kernel_rfl;(simp only[List.map_cons,List.map_nil,Array.getD_eq_getD_getElem?,List.getElem?_toArray,List.getElem?_cons_zero,List.getElem?_cons_succ,Option.getD_some]);(repeat' (first|exact Free.nil|((with_reducible apply Cc);(exact Zc))));exact rfl;exact Zc;(exact Sb);decide;exact Zc;(apply fun_w (k+3) Zo);exact Zw;rotate_left;(rintro _ hpp ⟨⟨a,rfl⟩,hpf⟩);rotate_right;(rintro _ hp2 h1c ⟨⟨fn,fp,fl,fw,fb⟩,m2,rfl,hs2,hn2,⟨hb2,ha2,_,hle2⟩,hf2⟩;have hO2:=hf2.own Zo;have hL2:=hf2.all (k:=k+2) Zo;clear hf2;simp only[A3,Bp] at*);(refine C5 Zf ?_);(repeat (first|((with_reducible apply Wd_u);(exact Zc))|((with_reducible apply Wd_n);(exact Zc))));(with_reducible apply A6);(apply Cz (ps:=[(0,2),(1,2),(0,3),(1,3),(0,4),(1,4)]));kernel_rfl;(iterate 2 refine Zk ?_);(refine List.forall_mem_cons.2 ⟨?_,?_⟩);((focus (refine Cb Zi Zi rfl ?_;(repeat' (refine List.forall_mem_cons.2 ⟨⟨trivial,rfl,by simp[Facet.nm],by simp[Facet.nm],by simp[Facet.nm],by simp[Facet.nm, *]⟩,?_⟩));exact fun y hy=>by cases hy)));(refine List.forall_mem_cons.2 ⟨?_,?_⟩);((focus (refine Cb Zi Zi rfl ?_;(repeat' (refine List.forall_mem_cons.2 ⟨⟨trivial,rfl,by simp[Facet.nm],by simp[Facet.nm],by simp[Facet.nm],by simp[Facet.nm, *]⟩,?_⟩));exact fun y hy=>by cases hy)));(iterate 2 refine Zs ?_);(exact Zz))|(refine Z1 ?_)|(refine Z2 ?_ ?_)|(intro h h';try simp[*,-h] at h')|(exact Zx)|((with_reducible apply Aq (f:=74));exact Zv;(apply may (k+3) Zo);decide;exact Zw;rotate_left;(rintro _ hpp ⟨⟨a,rfl⟩,hpf⟩);rotate_right;(rintro _ hp2 (⟨rfl,⟨hb2,ha2,_,_⟩,hf2⟩|⟨rfl,hn2,⟨hb2,ha2,_,hle2⟩,hf2⟩)<;>(have hO2:=hf2.own Zo;have hL2:=hf2.all (k:=k+2) Zo;clear hf2)))|((with_reducible apply Aq (f:=77));exact Zv;(apply Jt (k+3) Zo);exact Zc;decide;exact Zw;rotate_left;(rintro _ hpp ⟨⟨a,rfl⟩,hpf⟩);rotate_right;(rintro _ hp2 ⟨rfl,hn2,⟨hb2,ha2,_,hle2⟩,hf2⟩;have hO2:=hf2.own Zo;have hL2:=hf2.all (k:=k+2) Zo;clear hf2))|((fail_if_success (have hbl:=tt1));((with_reducible apply Aq (f:=76));exact Zv;(apply take (k+3) Zo);decide;exact Zw;rotate_left;(rintro _ hpp ⟨⟨a,rfl⟩,hpf⟩);rotate_right;(rintro _ hp2 ⟨⟨tk1,tt1,tn1,ta1⟩,rfl,hn2,⟨hb2,ha2,_,hle2⟩,hf2⟩;have hO2:=hf2.own Zo;have hL2:=hf2.all (k:=k+2) Zo;clear hf2;simp only[Tok.row_mk])))|((with_reducible apply Aq (f:=76));exact Zv;(apply take (k+3) Zo);decide;exact Zw;rotate_left;(rintro _ hpp ⟨⟨a,rfl⟩,hpf⟩);rotate_right;(rintro _ hp2 ⟨⟨tk2,tt2,tn2,ta2⟩,rfl,hn2,⟨hb2,ha2,_,hle2⟩,hf2⟩;have hO2:=hf2.own Zo;have hL2:=hf2.all (k:=k+2) Zo;clear hf2;simp only[Tok.row_mk]))|fail)
 rotate_left
 ·have hfar:=HF.out
  exact⟨T.length+1 - (n2+1+1+1+1+1+1),Zo,n2+1+1+1+1+1+1,gv,ga+1,gf,vs,ar++[(tt1,IntKind.i64.wrap tn2)],Zo,by(try simp at*);omega,Zm,Zm,Zm,by simp[*];done,Zm,Zm,Zm,Zm,⟨by simp[*];done,Zm,hlen,Zo⟩,fun d i c hd hne=>by have hd2:d≠k+3:=Zo;simp[*];exact hfar d i c hd hne⟩
 ·have hfar:=HF.out
  exact⟨T.length+1 - (m2+1),Zo,m2+1,gv+1,ga,gf,vs++nl3,ar,Zo,by(try simp at*);omega,Zm,Zm,Zm,by simp[*];done,Zm,Zm,Zm,Zm,⟨by simp[*];done,Zm,hlen,Zo⟩,fun d i c hd hne=>by have hd2:d≠k+3:=Zo;simp[*];exact hfar d i c hd hne⟩
 refine Ag (n:=T.length+1 - n) (fun s0 m s=> ∃(n2 gv ga gf:Nat) (vs:List Tx) (ar:List (Tx×Int)) (fs:List Sy.Fu),T.length+1 - n2<=m/\n+vs.length+ar.length+fuSize fs<=n2/\s.fr 0= .ptr ⟨1,q,0⟩ gx 0/\s.fr 2= .ptr ⟨k+3,2,0⟩ ((hp1 ⟨k+3,2,0⟩).gen+1) 0/\s.fr 3= .ptr ⟨k+3,3,0⟩ ((hp1 ⟨k+3,3,0⟩).gen+1) 0/\s.hp ⟨k+3,3,0⟩= .box ((hp1 ⟨k+3,3,0⟩).gen+1) [.own ⟨k+3,3,1⟩ gv vs.length,.own ⟨k+3,3,2⟩ ga ar.length,.own ⟨k+3,3,3⟩ gf fs.length] false/\s.hp ⟨k+3,3,1⟩= .arr gv 1 9 (txRows vs) false/\s.hp ⟨k+3,3,2⟩= .arr ga 2 145 (arRows ar) false/\s.hp ⟨k+3,3,3⟩= .arr gf 5 148 (fs.map Sy.Fu.row) false/\s.hp ⟨k+3,2,0⟩= .box ((hp1 ⟨k+3,2,0⟩).gen+1) [.own ⟨k+3,2,1⟩ ((hp1 ⟨k+3,2,1⟩).gen+1) 0,.own ⟨k+3,2,2⟩ ((hp1 ⟨k+3,2,2⟩).gen+1) 0,.own ⟨k+3,2,3⟩ ((hp1 ⟨k+3,2,3⟩).gen+1) 0] false/\Rd T e q gx gy n2 s.hp/\Far (k+2) q hp1 s.hp) ⟨m2,gv,ga,gf+1,vs,ar,[⟨fn,fp,fl,fw,fb⟩],Zo,by(try simp at*);omega,Zm,Zm,Zm,by simp[*];done,Zm,Zm,Zm,Zm,⟨by simp[*];done,Zm,hlen,Zo⟩,fun d i c hd hne=>by have hd2:d≠k+3:=Zo;simp[*];exact HF.out d i c hd hne⟩ ?_
 clear hb2 ha2 hO2 hL2 b3 a1 a2 a3 b2 ha hb HF t1 t2 t4 t6
 rintro m ⟨fr,hp⟩ ⟨n2,gv,ga,gf,vs,ar,fs,hmm,hnl,f0,f2,f3,b3,a1,a2,a3,b2,⟨hb,ha,_,hle3⟩,hfar⟩
 simp at f0 f2 f3 b3 a1 a2 a3 b2 ha hfar
 simp only at hb
 have HF:=Lib.hid hfar
 have t1:=M3 vs
 have t2:=C2a ar
 have t4:=ar_len ar
 have t6:=C3a ar
 clear hfar
 have t3:=fu_take fs
 have t5:=Bn fs
 have x1:(fs.length+1)*96<=140737488355328:=Zo
 have x2:fs.length<=9223372036854775806:=Zo
 by_cases hlt:n2<T.length
 all_goals (first|have e1:(n2:Int)<T.length:=Zo|have e1: ¬(n2:Int)<T.length:=Zo)
 repeat' (first|((apply W_rdB (c:=3) (idx:=[0,1,2]) (d:=60));kernel_rfl;kernel_rfl;(simp only[List.map_cons,List.map_nil,Array.getD_eq_getD_getElem?,List.getElem?_toArray,List.getElem?_cons_zero,List.getElem?_cons_succ,Option.getD_some]);(repeat' (first|exact Free.nil|((with_reducible apply Cc);(exact Zc))));exact rfl;exact Zc;(exact Sb);decide;exact Zc;(apply fun_w (k+3) Zo);exact Zw;rotate_left;(rintro _ hpp ⟨⟨a,rfl⟩,hpf⟩);rotate_right;(rintro _ hp2 h1c ⟨⟨fn,fp,fl,fw,fb⟩,m2,rfl,hs2,hn2,⟨hb2,ha2,_,hle2⟩,hf2⟩;have hO2:=hf2.own Zo;have hL2:=hf2.all (k:=k+2) Zo;clear hf2;simp only[A3,Bp] at*);(refine Jv Zf ?_);(repeat (first|((with_reducible apply Wd_u);(exact Zc))|((with_reducible apply Wd_n);(exact Zc))));(with_reducible apply A6);(apply Cz (ps:=[(0,2),(1,2),(0,3),(1,3),(0,4),(1,4)]));kernel_rfl;(iterate 2 refine Zk ?_);(refine List.forall_mem_cons.2 ⟨?_,?_⟩);((focus (refine Cb Zi Zi rfl ?_;(repeat' (refine List.forall_mem_cons.2 ⟨⟨trivial,rfl,by simp[Facet.nm],by simp[Facet.nm],by simp[Facet.nm],by simp[Facet.nm, *]⟩,?_⟩));exact fun y hy=>by cases hy)));(refine List.forall_mem_cons.2 ⟨?_,?_⟩);((focus (refine Cb Zi Zi rfl ?_;(repeat' (refine List.forall_mem_cons.2 ⟨⟨trivial,rfl,by simp[Facet.nm],by simp[Facet.nm],by simp[Facet.nm],by simp[Facet.nm, *]⟩,?_⟩));exact fun y hy=>by cases hy)));(iterate 2 refine Zs ?_);(exact Zz))|((apply L0 (c:=3) (idx:=[0,1,2]) (d:=60));kernel_rfl;kernel_rfl;(simp only[List.map_cons,List.map_nil,Array.getD_eq_getD_getElem?,List.getElem?_toArray,List.getElem?_cons_zero,List.getElem?_cons_succ,Option.getD_some]);(repeat' (first|exact Free.nil|((with_reducible apply Cc);(exact Zc))));exact rfl;exact Zc;(exact Sb);decide;exact Zc;(apply fun_w (k+3) Zo);exact Zw;rotate_left;(rintro _ hpp ⟨⟨a,rfl⟩,hpf⟩);rotate_right;(rintro _ hp2 h1c ⟨⟨fn,fp,fl,fw,fb⟩,m2,rfl,hs2,hn2,⟨hb2,ha2,_,hle2⟩,hf2⟩;have hO2:=hf2.own Zo;have hL2:=hf2.all (k:=k+2) Zo;clear hf2;simp only[A3,Bp] at*);(refine C5 Zf ?_);(repeat (first|((with_reducible apply Wd_u);(exact Zc))|((with_reducible apply Wd_n);(exact Zc))));(with_reducible apply A6);(apply Cz (ps:=[(0,2),(1,2),(0,3),(1,3),(0,4),(1,4)]));kernel_rfl;(iterate 2 refine Zk ?_);(refine List.forall_mem_cons.2 ⟨?_,?_⟩);((focus (refine Cb Zi Zi rfl ?_;(repeat' (refine List.forall_mem_cons.2 ⟨⟨trivial,rfl,by simp[Facet.nm],by simp[Facet.nm],by simp[Facet.nm],by simp[Facet.nm, *]⟩,?_⟩));exact fun y hy=>by cases hy)));(refine List.forall_mem_cons.2 ⟨?_,?_⟩);((focus (refine Cb Zi Zi rfl ?_;(repeat' (refine List.forall_mem_cons.2 ⟨⟨trivial,rfl,by simp[Facet.nm],by simp[Facet.nm],by simp[Facet.nm],by simp[Facet.nm, *]⟩,?_⟩));exact fun y hy=>by cases hy)));(iterate 2 refine Zs ?_);(exact Zz))|(refine Z1 ?_)|(refine Z2 ?_ ?_)|(intro h h';try simp[*,-h] at h')|(exact Zx)|fail)
 ·have hfar:=HF.out
  have t7:=J1 fs [⟨fn,fp,fl,fw,fb⟩]
  simp only[Mm,Xt,Bp] at t7
  exact⟨T.length+1 - m2,Zo,m2,gv,ga,gf+1,vs,ar,fs++[⟨fn,fp,fl,fw,fb⟩],Zo,by(try simp at*);omega,Zm,Zm,Zm,by simp[*];done,Zm,Zm,Zm,Zm,⟨by simp[*];done,Zm,hlen,Zo⟩,fun d i c hd hne=>by have hd2:d≠k+3:=Zo;simp[*];exact hfar d i c hd hne⟩
 ·have hfar:=HF.out
  exact⟨⟨vs,ar,fs⟩,n2,by simp[Sy.Pr.row],by(try simp[Sy.Pr.size]);omega,⟨by simp[*];done,Zm,hlen,Zo⟩,fun d i c hd hne=>by have hd2:d≠k+3:=Zo;simp[*];exact hfar d i c hd hne⟩
def RC (T:List Tok)(e:Int)(gx gy gp:Nat)(hp1:Hp)(v:AV)(hp2:Hp):Prop:=v= .tup []/\ ∃(x:Sy.Pr) (n2:Nat),hp2 ⟨0,5,0⟩= .box gp x.row false/\x.size<=T.length/\Rd T e 25 gx gy n2 hp2/\ ∀d i c,d<=1->(⟨d,i,c⟩:Nm)≠⟨1,25,0⟩->(⟨d,i,c⟩:Nm)≠⟨0,5,0⟩->hp2 ⟨d,i,c⟩=hp1 ⟨d,i,c⟩
theorem Fga {T:List Tok}{e:Int}{gx gy gp:Nat}{c1 c2 c3:AV}(d:Nat)(hp1:Hp)(hr:Rd T e 25 gx gy 0 hp1)(hp:hp1 ⟨0,5,0⟩= .box gp [c1,c2,c3] false):HB P0 E47 (Lm X46) 1 d 46 [.ptr ⟨1,25,0⟩ gx 0,.ptr ⟨0,5,0⟩ gp 0] hp1 (RC T e gx gy gp hp1) (Wr 1 25 hp1):=by
 refine Af (k1:=2) (PR:=Wr 1 25 hp1) rfl Tryz.func46 rfl rfl Gaa rfl rvs_46 ?_
 obtain⟨h1,h2,hlen,hle⟩:=hr
 repeat' (first|refine ZN ?_|refine Z2 ?_ ?_|(intro h h';try simp[*,-h] at h')|((with_reducible apply Aq (f:=47));exact Zv;(apply prog_w 2 Zo);exact Zw;rotate_left;(rintro _ hpp ⟨⟨a,rfl⟩,hpf⟩);rotate_right;(rintro _ hp2 ⟨⟨xv,xa,xf⟩,m2,rfl,hn2,⟨hb2,ha2,_,hle2⟩,hf2⟩;have hO2:=hf2.own Zo;have hL2:=hf2.all (k:=1) Zo;clear hf2;simp only[Sy.Pr.row] at*))|fail)
 ·exact⟨rfl,⟨xv,xa,xf⟩,m2,by simp[Sy.Pr.row],Zo,⟨Zm,Zm,hlen,hle2⟩,fun d i c hd h8 h9=>Zm⟩
 ·exact⟨⟨a,rfl⟩,fun d i c hd hne=>hpf d i c Zo hne⟩
abbrev cv (c:Int):AV:= .sc (.int .u8 c)
def digB (c:Int):Bool:=decide (48<=c)&&decide (c<=57)
def letB (c:Int):Bool:=(decide (97<=c)&&decide (c<=122))||(decide (65<=c)&&decide (c<=90))
def innB (c:Int):Bool:=letB c||digB c||(c==95)
def notB (c:Int):Bool:=c !=10
theorem Sr {X:Orc}(hX: ∀f a,X.dat f a=none)(c:Int):(Lm X).dat 156 [cv c]=some [bv (digB c)]:=by
 refine fnW (P:=P0) (E:=E47) (X:=X) Tryz.func156 (hX _ _) rfl A2a rfl Jma rvs_156 ?_
 repeat' (first|refine ZN ?_|refine Z2 ?_ ?_|(intro h h';try simp[*,-h] at h'))
 all_goals (first|(simp_all[digB];done)|(simp_all[digB];omega))
theorem Oi {X:Orc}(hX: ∀f a,X.dat f a=none)(c:Int):(Lm X).dat 159 [cv c]=some [bv (letB c)]:=by
 refine fnW (P:=P0) (E:=E47) (X:=X) Tryz.func159 (hX _ _) rfl Aza rfl Jja rvs_159 ?_
 repeat' (first|refine ZN ?_|refine Z2 ?_ ?_|(intro h h';try simp[*,-h] at h'))
 all_goals (first|(simp_all[letB];done)|(simp_all[letB];omega))
theorem Lha {X:Orc}(hX: ∀f a,X.dat f a=none)(c:Int):(Lm X).dat 161 [cv c]=some [bv (innB c)]:=by
 refine fnW (P:=P0) (E:=E47) (X:=X) Tryz.func161 (hX _ _) rfl Axa rfl Jha rvs_161 ?_
 have d1:=Sr hX
 have l1:=Oi hX
 repeat' (first|refine ZN ?_|refine Z2 ?_ ?_|(intro h h';try simp[*,-h] at h'))
 all_goals (first|(simp_all[innB];done)|(simp_all[innB];omega))
theorem not_w {X:Orc}(hX: ∀f a,X.dat f a=none)(c:Int):(Lm X).dat 109 [cv c]=some [bv (notB c)]:=by
 refine fnW (P:=P0) (E:=E47) (X:=X) Tryz.func109 (hX _ _) rfl Bna rfl Jza rvs_109 ?_
 repeat' (first|refine ZN ?_|refine Z2 ?_ ?_|(intro h h';try simp[*,-h] at h'))
 all_goals (first|(simp_all[notB];done)|(simp_all[notB];omega))
theorem front_d {X:Orc}(hX: ∀f a,X.dat f a=none)(s:ByteArray)(hs:s.size<9223372036854775807): ∃rs,(Lm X).dat 108 [tv s,.fn 156 []]=some rs/\ ∃n,n<=s.size/\(∀h:n<s.size,digB (s[n]).toNat=false)/\rs=[tv (s.extract 0 n)]:=by
 refine fnR (P:=P0) (E:=E47) (X:=X) (R:=fun rs=> ∃n,n<=s.size/\(∀h:n<s.size,digB (s[n]).toNat=false)/\rs=[tv (s.extract 0 n)]) Tryz.func108 (hX _ _) rfl J7 rfl N4 R6 ?_
 have d1:=Sr hX
 repeat' (first|refine ZN ?_|refine Z2 ?_ ?_|(intro h h';try simp[*,-h] at h'))
 refine Ag (n:=s.size) (fun s0 m z=> ∃i:Nat,s.size - i<=m/\i<=s.size/\z.fr 0=tv s/\z.fr 1= .fn 156 []/\z.fr 5=iv i) ⟨0,Zo,Zo,Zi,Zi,Zi⟩ ?_
 rintro m ⟨fr,hp⟩ ⟨i,hm,hi,f0,f1,f5⟩
 simp at f0 f1 f5
 by_cases hlt:i<s.size
 all_goals (first|have e1:(i:Int)<s.size:=Zo|have e1: ¬(i:Int)<s.size:=Zo)
 repeat' (first|refine ZN ?_|refine Z2 ?_ ?_|(intro h h';try simp[*,-h] at h'))
 ·exact⟨s.size - (i+1),Zo,i+1,Zo,Zo,Zm,Zm,by simp[*,wrapN (k:=i) Zo]⟩
 ·exact⟨i,hi,fun _=>h',rfl⟩
 ·exact⟨i,hi,fun hh=>absurd hh hlt,rfl⟩
theorem Csa {X:Orc}(hX: ∀f a,X.dat f a=none)(s:ByteArray)(hs:s.size<9223372036854775807): ∃rs,(Lm X).dat 108 [tv s,.fn 161 []]=some rs/\ ∃n,n<=s.size/\(∀h:n<s.size,innB (s[n]).toNat=false)/\rs=[tv (s.extract 0 n)]:=by
 refine fnR (P:=P0) (E:=E47) (X:=X) (R:=fun rs=> ∃n,n<=s.size/\(∀h:n<s.size,innB (s[n]).toNat=false)/\rs=[tv (s.extract 0 n)]) Tryz.func108 (hX _ _) rfl J7 rfl N4 R6 ?_
 have d1:=Lha hX
 repeat' (first|refine ZN ?_|refine Z2 ?_ ?_|(intro h h';try simp[*,-h] at h'))
 refine Ag (n:=s.size) (fun s0 m z=> ∃i:Nat,s.size - i<=m/\i<=s.size/\z.fr 0=tv s/\z.fr 1= .fn 161 []/\z.fr 5=iv i) ⟨0,Zo,Zo,Zi,Zi,Zi⟩ ?_
 rintro m ⟨fr,hp⟩ ⟨i,hm,hi,f0,f1,f5⟩
 simp at f0 f1 f5
 by_cases hlt:i<s.size
 all_goals (first|have e1:(i:Int)<s.size:=Zo|have e1: ¬(i:Int)<s.size:=Zo)
 repeat' (first|refine ZN ?_|refine Z2 ?_ ?_|(intro h h';try simp[*,-h] at h'))
 ·exact⟨s.size - (i+1),Zo,i+1,Zo,Zo,Zm,Zm,by simp[*,wrapN (k:=i) Zo]⟩
 ·exact⟨i,hi,fun _=>h',rfl⟩
 ·exact⟨i,hi,fun hh=>absurd hh hlt,rfl⟩
theorem front_c {X:Orc}(hX: ∀f a,X.dat f a=none)(s:ByteArray)(hs:s.size<9223372036854775807): ∃rs,(Lm X).dat 108 [tv s,.fn 109 []]=some rs/\ ∃n,n<=s.size/\(∀h:n<s.size,notB (s[n]).toNat=false)/\rs=[tv (s.extract 0 n)]:=by
 refine fnR (P:=P0) (E:=E47) (X:=X) (R:=fun rs=> ∃n,n<=s.size/\(∀h:n<s.size,notB (s[n]).toNat=false)/\rs=[tv (s.extract 0 n)]) Tryz.func108 (hX _ _) rfl J7 rfl N4 R6 ?_
 have d1:=not_w hX
 repeat' (first|refine ZN ?_|refine Z2 ?_ ?_|(intro h h';try simp[*,-h] at h'))
 refine Ag (n:=s.size) (fun s0 m z=> ∃i:Nat,s.size - i<=m/\i<=s.size/\z.fr 0=tv s/\z.fr 1= .fn 109 []/\z.fr 5=iv i) ⟨0,Zo,Zo,Zi,Zi,Zi⟩ ?_
 rintro m ⟨fr,hp⟩ ⟨i,hm,hi,f0,f1,f5⟩
 simp at f0 f1 f5
 by_cases hlt:i<s.size
 all_goals (first|have e1:(i:Int)<s.size:=Zo|have e1: ¬(i:Int)<s.size:=Zo)
 repeat' (first|refine ZN ?_|refine Z2 ?_ ?_|(intro h h';try simp[*,-h] at h'))
 ·exact⟨s.size - (i+1),Zo,i+1,Zo,Zo,Zm,Zm,by simp[*,wrapN (k:=i) Zo]⟩
 ·exact⟨i,hi,fun _=>h',rfl⟩
 ·exact⟨i,hi,fun hh=>absurd hh hlt,rfl⟩
theorem Kaa {X:Orc}(hX: ∀f a,X.dat f a=none)(s t:ByteArray): ∃rs,(Lm X).dat 155 [tv s,tv t]=some rs/\ ∃b,(b=true->t.size<=s.size)/\rs=[bv b]:=by
 refine fnR (P:=P0) (E:=E47) (X:=X) (R:=fun rs=> ∃b,(b=true->t.size<=s.size)/\rs=[bv b]) Tryz.func155 (hX _ _) rfl A3a rfl Jna rvs_155 ?_
 repeat' (first|refine ZN ?_|refine Z2 ?_ ?_|(intro h h';try simp[*,-h] at h'))
 ·exact⟨_,fun _=>h',rfl⟩
 ·exact⟨_,Zi,rfl⟩
theorem Kla {X:Orc}(hX: ∀f a,X.dat f a=none)(s:ByteArray)(hs:s.size<9223372036854775807): ∃rs,(Lm X).dat 157 [tv s]=some rs/\ ∃(k n e:Int) (t:ByteArray),(t=s/\e=0\/e=2)/\rs=[.agg [iz k,tz t,uz n,iz 0],iz e]:=by
 refine fnR (P:=P0) (E:=E47) (X:=X) (R:=fun rs=> ∃(k n e:Int) (t:ByteArray),(t=s/\e=0\/e=2)/\rs=[.agg [iz k,tz t,uz n,iz 0],iz e]) Tryz.func157 (hX _ _) rfl A1a rfl Jla rvs_157 ?_
 repeat' (first|refine ZN ?_|refine Z2 ?_ ?_|(intro h h';try simp[*,-h] at h'))
 refine Ag (n:=s.size) (fun s0 m z=> ∃(i:Nat) (a:Int),s.size - i<=m/\i<=s.size/\z.fr 0=tv s/\z.fr 4= .sc (.int .u64 a)/\z.fr 5=iv i/\z.fr 2=s0.fr 2/\z.hp=s0.hp) ⟨0,0,Zo,Zo,Zi,Zi,Zi,rfl,rfl⟩ ?_
 rintro m ⟨fr,hp⟩ ⟨i,a,hm,hi,f0,f4,f5,f2,fh⟩
 simp at f0 f4 f5 f2 fh
 by_cases hlt:i<s.size
 all_goals (first|have e1:(i:Int)<s.size:=Zo|have e1: ¬(i:Int)<s.size:=Zo)
 repeat' (first|refine ZN ?_|refine Z2 ?_ ?_|(intro h h';try simp[*,-h] at h'))
 ·exact⟨0,0,2,⟨#[]⟩,.inr rfl,rfl⟩
 ·refine⟨s.size - (i+1),Zo,i+1,?_⟩
  apply Exists.intro
  refine⟨Zo,Zo,Zm,?_,by simp[*,wrapN (k:=i) Zo],Zm,Zm⟩
  (conv=>lhs;simp[*])<;>exact rfl
 ·exact⟨2,_,0,s,.inl ⟨rfl,rfl⟩,rfl⟩
theorem byte_w {X:Orc}(hX: ∀f a,X.dat f a=none)(s:ByteArray): ∃rs,(Lm X).dat 158 [tv s]=some rs/\ ∃(k n e:Int) (t:ByteArray),(t.size=3/\3<=s.size/\e=0\/e=3)/\rs=[.agg [iz k,tz t,uz n,iz 0],iz e]:=by
 refine fnR (P:=P0) (E:=E47) (X:=X) (R:=fun rs=> ∃(k n e:Int) (t:ByteArray),(t.size=3/\3<=s.size/\e=0\/e=3)/\rs=[.agg [iz k,tz t,uz n,iz 0],iz e]) Tryz.func158 (hX _ _) rfl A0a rfl Jka rvs_158 ?_
 by_cases h3:s.size<3
 all_goals (first|(have e1:(s.size:Int)<3:=Zo)|(have e1: ¬(s.size:Int)<3:=Zo;have e2:2<s.size:=Zo;have e3:1<s.size:=Zo;have e4:3<=s.size:=Zo))
 repeat' (first|refine ZN ?_|refine Z2 ?_ ?_|(intro h h';try simp[*,-h] at h'))
 all_goals (first|exact⟨2,_,0,s.extract 0 3,.inl ⟨by simp;omega,Zo,rfl⟩,rfl⟩|exact⟨0,0,3,⟨#[]⟩,.inr rfl,rfl⟩)
theorem Vp {X:Orc}(hX: ∀f a,X.dat f a=none)(s:ByteArray): ∃rs,(Lm X).dat 163 [tv s]=some rs/\ ∃b,rs=[bv b]:=by
 refine fnR (P:=P0) (E:=E47) (X:=X) (R:=fun rs=> ∃b,rs=[bv b]) Tryz.func163 (hX _ _) rfl Ava rfl Jfa rvs_163 ?_
 repeat' (first|refine ZN ?_|refine Z2 ?_ ?_|(intro h h';try simp[*,-h] at h'))
 refine Ag (n:=10) (fun s0 m z=> ∃i:Nat,10 - i<=m/\i<=10/\z.fr 0=tv s/\z.fr 2=bv false/\z.fr 4=iv i) ⟨0,Zo,Zo,Zi,Zi,Zi⟩ ?_
 rintro m ⟨fr,hp⟩ ⟨i,hm,hi,f0,f2,f4⟩
 simp at f0 f2 f4
 obtain(rfl|rfl|rfl|rfl|rfl|rfl|rfl|rfl|rfl|rfl|rfl):i=0\/i=1\/i=2\/i=3\/i=4\/i=5\/i=6\/i=7\/i=8\/i=9\/i=10:=Zo
 all_goals simp at f4
 repeat' (first|refine ZN ?_|refine Z2 ?_ ?_|(intro h h';try simp[*,-h] at h'))
 all_goals (first|exact⟨_,rfl⟩|exact⟨9,Zo,1,Zo,Zo,Zm,Zm,by(first|(simp[*];done)|(simp[*];decide+kernel))⟩|exact⟨8,Zo,2,Zo,Zo,Zm,Zm,by(first|(simp[*];done)|(simp[*];decide+kernel))⟩|exact⟨7,Zo,3,Zo,Zo,Zm,Zm,by(first|(simp[*];done)|(simp[*];decide+kernel))⟩|exact⟨6,Zo,4,Zo,Zo,Zm,Zm,by(first|(simp[*];done)|(simp[*];decide+kernel))⟩|exact⟨5,Zo,5,Zo,Zo,Zm,Zm,by(first|(simp[*];done)|(simp[*];decide+kernel))⟩|exact⟨4,Zo,6,Zo,Zo,Zm,Zm,by(first|(simp[*];done)|(simp[*];decide+kernel))⟩|exact⟨3,Zo,7,Zo,Zo,Zm,Zm,by(first|(simp[*];done)|(simp[*];decide+kernel))⟩|exact⟨2,Zo,8,Zo,Zo,Zm,Zm,by(first|(simp[*];done)|(simp[*];decide+kernel))⟩|exact⟨1,Zo,9,Zo,Zo,Zm,Zm,by(first|(simp[*];done)|(simp[*];decide+kernel))⟩|exact⟨0,Zo,10,Zo,Zo,Zm,Zm,by(first|(simp[*];done)|(simp[*];decide+kernel))⟩)
theorem Ml {X:Orc}(hX: ∀f a,X.dat f a=none)(s t:ByteArray): ∃rs,(Lm X).dat 107 [tv s,tv t]=some rs/\ ∃b,(b=true->t.size<=s.size)/\rs=[bv b]:=by
 refine fnR (P:=P0) (E:=E47) (X:=X) (R:=fun rs=> ∃b,(b=true->t.size<=s.size)/\rs=[bv b]) Tryz.func107 (hX _ _) rfl Boa rfl J0a rvs_107 ?_
 obtain⟨_,h1,b,hb,rfl⟩:=Kaa hX s t
 repeat' (first|refine ZN ?_|refine Z2 ?_ ?_|(intro h h';try simp[*,-h] at h'))
 exact⟨b,hb,rfl⟩
theorem name_w {X:Orc}(hX: ∀f a,X.dat f a=none)(s:ByteArray): ∃rs,(Lm X).dat 160 [tv s]=some rs/\ ∃(k n e:Int) (t:ByteArray),(t=s/\e=0\/e=2)/\rs=[.agg [iz k,tz t,uz n,iz 0],iz e]:=by
 refine fnR (P:=P0) (E:=E47) (X:=X) (R:=fun rs=> ∃(k n e:Int) (t:ByteArray),(t=s/\e=0\/e=2)/\rs=[.agg [iz k,tz t,uz n,iz 0],iz e]) Tryz.func160 (hX _ _) rfl Aya rfl Jia rvs_160 ?_
 obtain⟨_,h1,b,rfl⟩:=Vp hX s
 repeat' (first|refine ZN ?_|refine Z2 ?_ ?_|(intro h h';try simp[*,-h] at h'))
 all_goals (first|exact⟨_,_,0,s,.inl ⟨rfl,rfl⟩,rfl⟩|exact⟨0,0,2,⟨#[]⟩,.inr rfl,rfl⟩)
theorem first_w {X:Orc}(hX: ∀f a,X.dat f a=none)(s:ByteArray)(h0:0<s.size)(hs:s.size<9223372036854775807): ∃rs,(Lm X).dat 110 [tv s]=some rs/\ ∃(k n e:Int) (t:ByteArray),(1<=t.size/\t.size<=s.size/\e=0\/1<=e)/\rs=[.agg [iz k,tz t,uz n,iz 0],iz e]:=by
 refine fnR (P:=P0) (E:=E47) (X:=X) (R:=fun rs=> ∃(k n e:Int) (t:ByteArray),(1<=t.size/\t.size<=s.size/\e=0\/1<=e)/\rs=[.agg [iz k,tz t,uz n,iz 0],iz e]) Tryz.func110 (hX _ _) rfl Bma rfl Jya rvs_110 ?_
 obtain⟨_,fd1,nd,hnd,hpd,rfl⟩:=front_d hX s hs
 obtain⟨_,fn1,nn,hnn,hpn,rfl⟩:=Csa hX s hs
 obtain⟨_,nu,k1,n1,e1,t1,hr1,rfl⟩:=Kla hX (s.extract 0 nd) (by simp;omega)
 obtain⟨_,na,k2,n2,e2,t2,hr2,rfl⟩:=name_w hX (s.extract 0 nn)
 obtain⟨_,bq,k3,n3,e3,t3,hr3,rfl⟩:=byte_w hX s
 have d1:=Sr hX
 have l1:=Oi hX
 have pw: ∀t,∃b,(b=true->t.size<=s.size)/\(Lm X).dat 107 [tv s,tv t]=some [bv b]:=fun t=>by
  obtain⟨_,h1,b,hb,rfl⟩:=Ml hX s t
  exact⟨b,hb,h1⟩
 obtain⟨bp,hbp⟩: ∃bp:ByteArray->Bool,∀t,(bp t=true->t.size<=s.size)/\(Lm X).dat 107 [tv s,tv t]=some [bv (bp t)]:=⟨fun t=>Classical.choose (pw t),fun t=>Classical.choose_spec (pw t)⟩
 have hb1:=fun t=>(hbp t).1
 have hb2:=fun t=>(hbp t).2
 clear hbp pw
 repeat' (first|refine ZN ?_|refine Z2 ?_ ?_|(intro h h';try simp[*,-h] at h'))
 ·have z1:nd≠0:=(by rintro rfl;have q:digB ↑s[0].toNat=true:=h';rw[hpd h0] at q;cases q)
  rcases hr1 with⟨rfl,rfl⟩|rfl
  ·exact⟨k1,n1,0,_,.inl ⟨by simp;omega,by simp;omega,rfl⟩,rfl⟩
  ·exact⟨k1,n1,2,t1,.inr Zd,rfl⟩
 ·rcases hr3 with⟨ha,hb,rfl⟩|rfl
  ·exact⟨k3,n3,0,_,.inl ⟨Zo,Zo,rfl⟩,rfl⟩
  ·exact⟨k3,n3,3,t3,.inr Zd,rfl⟩
 ·have z1:nn≠0:=(by rintro rfl;have q:innB ↑s[0].toNat=true:=(by simp only[innB,Bool.or_eq_true];exact .inl (.inl h'));rw[hpn h0] at q;cases q)
  rcases hr2 with⟨rfl,rfl⟩|rfl
  ·exact⟨k2,n2,0,_,.inl ⟨by simp;omega,by simp;omega,rfl⟩,rfl⟩
  ·exact⟨k2,n2,2,t2,.inr Zd,rfl⟩
 refine Ag (n:=24) (fun s0 m z=> ∃i:Nat,24 - i<=m/\i<=24/\z.fr 0=tv s/\z.fr 2=s0.fr 2/\z.hp=s0.hp/\z.fr 31=iv i) ⟨0,Zo,Zo,Zi,rfl,rfl,Zi⟩ ?_
 rintro m ⟨fr,hp⟩ ⟨i,hm,hi,f0,f2,fh,f4⟩
 simp at f0 f2 f4 fh
 obtain(rfl|rfl|rfl|rfl|rfl|rfl|rfl|rfl|rfl|rfl|rfl|rfl|rfl|rfl|rfl|rfl|rfl|rfl|rfl|rfl|rfl|rfl|rfl|rfl|rfl):i=0\/i=1\/i=2\/i=3\/i=4\/i=5\/i=6\/i=7\/i=8\/i=9\/i=10\/i=11\/i=12\/i=13\/i=14\/i=15\/i=16\/i=17\/i=18\/i=19\/i=20\/i=21\/i=22\/i=23\/i=24:=Zo
 all_goals simp at f4
 repeat' (first|refine ZN ?_|refine Z2 ?_ ?_|(intro h h';try simp[*,-h] at h'))
 all_goals (first|exact⟨_,_,0,_,.inl ⟨Zd,hb1 _ h',rfl⟩,rfl⟩|exact⟨0,0,3,⟨#[]⟩,.inr Zd,rfl⟩|exact⟨23,Zo,1,Zo,Zo,Zm,Zm,Zm,by(first|(simp[*];done)|(simp[*];decide+kernel))⟩|exact⟨22,Zo,2,Zo,Zo,Zm,Zm,Zm,by(first|(simp[*];done)|(simp[*];decide+kernel))⟩|exact⟨21,Zo,3,Zo,Zo,Zm,Zm,Zm,by(first|(simp[*];done)|(simp[*];decide+kernel))⟩|exact⟨20,Zo,4,Zo,Zo,Zm,Zm,Zm,by(first|(simp[*];done)|(simp[*];decide+kernel))⟩|exact⟨19,Zo,5,Zo,Zo,Zm,Zm,Zm,by(first|(simp[*];done)|(simp[*];decide+kernel))⟩|exact⟨18,Zo,6,Zo,Zo,Zm,Zm,Zm,by(first|(simp[*];done)|(simp[*];decide+kernel))⟩|exact⟨17,Zo,7,Zo,Zo,Zm,Zm,Zm,by(first|(simp[*];done)|(simp[*];decide+kernel))⟩|exact⟨16,Zo,8,Zo,Zo,Zm,Zm,Zm,by(first|(simp[*];done)|(simp[*];decide+kernel))⟩|exact⟨15,Zo,9,Zo,Zo,Zm,Zm,Zm,by(first|(simp[*];done)|(simp[*];decide+kernel))⟩|exact⟨14,Zo,10,Zo,Zo,Zm,Zm,Zm,by(first|(simp[*];done)|(simp[*];decide+kernel))⟩|exact⟨13,Zo,11,Zo,Zo,Zm,Zm,Zm,by(first|(simp[*];done)|(simp[*];decide+kernel))⟩|exact⟨12,Zo,12,Zo,Zo,Zm,Zm,Zm,by(first|(simp[*];done)|(simp[*];decide+kernel))⟩|exact⟨11,Zo,13,Zo,Zo,Zm,Zm,Zm,by(first|(simp[*];done)|(simp[*];decide+kernel))⟩|exact⟨10,Zo,14,Zo,Zo,Zm,Zm,Zm,by(first|(simp[*];done)|(simp[*];decide+kernel))⟩|exact⟨9,Zo,15,Zo,Zo,Zm,Zm,Zm,by(first|(simp[*];done)|(simp[*];decide+kernel))⟩|exact⟨8,Zo,16,Zo,Zo,Zm,Zm,Zm,by(first|(simp[*];done)|(simp[*];decide+kernel))⟩|exact⟨7,Zo,17,Zo,Zo,Zm,Zm,Zm,by(first|(simp[*];done)|(simp[*];decide+kernel))⟩|exact⟨6,Zo,18,Zo,Zo,Zm,Zm,Zm,by(first|(simp[*];done)|(simp[*];decide+kernel))⟩|exact⟨5,Zo,19,Zo,Zo,Zm,Zm,Zm,by(first|(simp[*];done)|(simp[*];decide+kernel))⟩|exact⟨4,Zo,20,Zo,Zo,Zm,Zm,Zm,by(first|(simp[*];done)|(simp[*];decide+kernel))⟩|exact⟨3,Zo,21,Zo,Zo,Zm,Zm,Zm,by(first|(simp[*];done)|(simp[*];decide+kernel))⟩|exact⟨2,Zo,22,Zo,Zo,Zm,Zm,Zm,by(first|(simp[*];done)|(simp[*];decide+kernel))⟩|exact⟨1,Zo,23,Zo,Zo,Zm,Zm,Zm,by(first|(simp[*];done)|(simp[*];decide+kernel))⟩|exact⟨0,Zo,24,Zo,Zo,Zm,Zm,Zm,by(first|(simp[*];done)|(simp[*];decide+kernel))⟩)
theorem Lex_w {X:Orc}(hX: ∀f a,X.dat f a=none)(s:ByteArray)(hs:s.size<9223372036854775807): ∃rs,(Lm X).dat 71 [tv s]=some rs/\ ∃(T:List Tok) (a e:Int),T.length<=s.size/\T.length<=20000/\0<=e/\rs=[.vec 4 (T.map Tok.row),iz a,iz e]:=by
 refine fnR (P:=P0) (E:=E47) (X:=X) (R:=fun rs=> ∃(T:List Tok) (a e:Int),T.length<=s.size/\T.length<=20000/\0<=e/\rs=[.vec 4 (T.map Tok.row),iz a,iz e]) Tryz.func71 (hX _ _) rfl F0a rfl rtys_71 rvs_71 ?_
 by_cases h2:s.size<=20000
 all_goals (first|have e1:(s.size:Int)<=20000:=Zo|have e1: ¬(s.size:Int)<=20000:=Zo)
 repeat' (first|refine ZN ?_|refine Z2 ?_ ?_|(intro h h';try simp[*,-h] at h')|(with_reducible first|apply S9|apply W_sscope|apply Pl|apply Ng)|fail)
 ·exact⟨[],0,2,Zi,Zi,Zd,rfl⟩
 rotate_left
 ·exact⟨[],0,2,Zi,Zi,Zd,rfl⟩
 refine Ag (n:=s.size) (fun s0 m z=> ∃(i g:Nat) (T:List Tok),s.size - i<=m/\i<=s.size/\T.length<=i/\z.fr 0=tv s/\z.fr 5= .own ⟨0,5,0⟩ g T.length/\z.fr 6=iv i/\z.hp ⟨0,5,0⟩= .arr g 4 141 (T.map Tok.row) false) ⟨0,1,[],Zo,Zo,Zi,Zi,Zi,Zi,Zi⟩ ?_
 rintro m ⟨fr,hp⟩ ⟨i,g,T,hm,hi,hT,f0,f5,f6,h5⟩
 simp at f0 f5 f6 h5
 have x1:(T.length+1)*40<=140737488355328:=Zo
 have x2:T.length<=9223372036854775806:=Zo
 by_cases hlt:i<s.size
 all_goals (first|have e1:(i:Int)<s.size:=Zo|have e1: ¬(i:Int)<s.size:=Zo)
 ·obtain⟨_,fw,k1,n1,ee,t1,hr1,rfl⟩:=first_w hX (s.extract i s.size) (by simp;omega) (by simp;omega)
  obtain⟨_,pw,b1,hb1,rfl⟩:=Ml hX (s.extract i s.size) ⟨#[47,47]⟩
  obtain⟨_,cw,nc,hnc,hpc,rfl⟩:=front_c hX (s.extract i s.size) (by simp;omega)
  repeat' (first|refine ZN ?_|refine Z2 ?_ ?_|(intro h h';try simp[*,-h] at h')|(with_reducible first|apply S9|apply W_sscope|apply Pl|apply Ng)|fail)
  ·exact⟨s.size - (i+1),Zo,i+1,g,T,Zo,Zo,Zo,Zm,Zm,by simp[*,wrapN (k:=i) Zo],Zm⟩
  ·have hn0:i+1<=s.size:=Zo
   have hx:(s.extract i s.size).size=s.size - i:=Zi
   have z1:nc≠0:=by
    rintro rfl
    have q:=hpc Zo
    have q2:(s.extract i s.size)[0]' Zo=s.data[i]:=by simp[ByteArray.getElem_extract];rfl
    rw[q2] at q
    simp[notB] at q
    omega
   rw[hx] at hnc
   have z2:min nc (s.size - i)=nc:=Zo
   have z3:IntKind.i64.wrap ((i:Int)+nc)=(i:Int)+nc:=Ad Zo Zo
   clear hpc
   exact⟨s.size - (i+nc),Zo,i+nc,g,T,Zo,Zo,Zo,Zm,Zm,Zm,Zm⟩
  ·exact⟨[],i,ee,Zi,Zi,Zo,rfl⟩
  ·obtain⟨h6,h7,rfl⟩|h6:=hr1
   ·have hx:(s.extract i s.size).size=s.size - i:=Zi
    rw[hx] at h7
    have z3:IntKind.i64.wrap ((i:Int)+t1.size)=(i:Int)+t1.size:=Ad Zo Zo
    clear hpc hnc
    exact⟨s.size - (i+t1.size),Zo,i+t1.size,g+1,T++[⟨k1,⟨t1,Zo⟩,n1,i⟩],Zo,Zo,by simp;omega,Zm,Zm,Zm,by first|(simp[*];done)|(simp[*];rfl)⟩
   ·omega
  ·exact⟨s.size - (i+1),Zo,i+1,g,T,Zo,Zo,Zo,Zm,Zm,by simp[*,wrapN (k:=i) Zo],Zm⟩
  ·exact⟨s.size - (i+1),Zo,i+1,g,T,Zo,Zo,Zo,Zm,Zm,by simp[*,wrapN (k:=i) Zo],Zm⟩
 repeat' (first|refine ZN ?_|refine Z2 ?_ ?_|(intro h h';try simp[*,-h] at h')|(with_reducible first|apply S9|apply W_sscope|apply Pl|apply Ng)|fail)
 exact⟨T,0,0,Zo,Zo,Zd,rfl⟩
theorem Name_w {X:Orc}(hX: ∀f a,X.dat f a=none)(s:ByteArray)(hs:s.size<9223372036854775807): ∃rs,(Lm X).dat 114 [tv s]=some rs/\ ∃b,rs=[bv b]:=by
 refine fnR (P:=P0) (E:=E47) (X:=X) (R:=fun rs=> ∃b,rs=[bv b]) Tryz.func114 (hX _ _) rfl Bia rfl Jwa rvs_114 ?_
 obtain⟨_,fn1,nn,hnn,hpn,rfl⟩:=Csa hX s hs
 obtain⟨_,iw,b,rfl⟩:=Vp hX s
 have l1:=Oi hX
 by_cases h0:s=⟨#[]⟩
 ·subst h0
  repeat' (first|refine ZN ?_|refine Z2 ?_ ?_|(intro h h';try simp[*,-h] at h'))
  all_goals exact⟨_,rfl⟩
 have hz:0<s.size:=by
  rcases Nat.eq_zero_or_pos s.size with h|h
  ·exact absurd (ByteArray.ext (Array.eq_empty_of_size_eq_zero h)) h0
  ·exact h
 repeat' (first|refine ZN ?_|refine Z2 ?_ ?_|(intro h h';try simp[*,-h] at h'))
 all_goals exact⟨_,rfl⟩
end
end Go.Proofs.YtpmoibjpjlhcgaaGreatDoor
