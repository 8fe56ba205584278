/- A part of the proof: I0, I1, I3, I4, I5, I6. -/
import Derived.Lib.Hide
import Derived.WalkKit
import Derived.Test.YtpedpkegmalgmaaGreatDoorZ04
import Derived.Test.YtpedpkegmalgmaaGreatDoorZ12
set_option linter.unusedSimpArgs false
set_option linter.unusedVariables false
set_option maxRecDepth 200000
set_option maxHeartbeats 8000000
namespace Go.Ma
section
def U (n:Int):Prop:=0≤n∧n<4294967296
theorem U.mod (n:Int):U (n%4294967296):=⟨Int.emod_nonneg _ (by decide),Int.emod_lt_of_pos _ (by decide)⟩
structure Ins where
 op:Int
 a:Int
 b:Int
 c:Int
def insW (w:Int):Ins:=⟨w/16777216,w/1048576%16,w/65536%16,w%65536⟩
def hasA (op:Int):Bool:=(decide (1≤op)&&decide (op≤17))||(decide (19≤op)&&decide (op≤25))||decide (op=27)
def hasB (op:Int):Bool:=(decide (3≤op)&&decide (op≤17))||decide (op=27)
def kC (op:Int):Nat:=if 4≤op∧op≤15 then 2 else if op=3∨op=22∨op=23∨op=24∨op=26 then 0 else if 1≤op∧op≤27 then 1 else 0
def wi (h:Bool)(x m:Int):Bool:=if h then decide (0≤x)&&decide (x≤m) else decide (x=0)
def rightI (i:Ins):Bool:=(decide (1≤i.op)&&decide (i.op≤27))&&wi (hasA i.op) i.a 15&&wi (hasB i.op) i.b 15&&wi (decide (kC i.op≠0)) i.c (if kC i.op=2 then 15 else 65535)
structure PS where
 pc:Int
 rg:List Int
 mem:List Int
 rd:Nat
 out:List Int
 steps:Nat
 en:Int
 own:Bool
def PS.reg (s:PS)(a:Int):Int:=s.rg.getD a.toNat 0
def PS.setR (s:PS)(a x:Int):PS:={s with rg:=s.rg.set a.toNat x,pc:=s.pc+1}
def PS.goto (s:PS)(p:Int):PS:={s with pc:=p}
def PS.stop (s:PS)(e:Int):PS:={s with en:=e}
def andW (a b:Int):Int:=((BitVec.ofInt 32 a&&&BitVec.ofInt 32 b).toNat:Int)
def orW (a b:Int):Int:=((BitVec.ofInt 32 a|||BitVec.ofInt 32 b).toNat:Int)
def xorW (a b:Int):Int:=((BitVec.ofInt 32 a^^^BitVec.ofInt 32 b).toNat:Int)
def apP (op a b:Int):Option Int:=
 if op=4 then some ((a+b)%4294967296)
 else if op=5 then some ((a - b)%4294967296)
 else if op=6 then some (a*b%4294967296)
 else if op=7 then(if b=0 then none else some (a/b))
 else if op=8 then(if b=0 then none else some (a%b))
 else if op=9 then some (andW a b)
 else if op=10 then some (orW a b)
 else if op=11 then some (xorW a b)
 else if op=12 then some (if 31<b then 0 else a*2^b.toNat%4294967296)
 else if op=13 then some (if 31<b then 0 else a/2^b.toNat)
 else if op=14 then some (if a<b then 1 else 0)
 else some (if a=b then 1 else 0)
abbrev Inp :=Nat→Option Int
def doP (code:List Int)(inp:Inp)(s:PS)(i:Ins):PS:=
 if i.op=1 then s.setR i.a i.c
 else if i.op=2 then s.setR i.a (s.reg i.a%65536+i.c*65536)
 else if i.op=3 then s.setR i.a (s.reg i.b)
 else if i.op=16 then s.mem[((s.reg i.b+i.c)%4294967296).toNat]?.elim (s.stop 8) fun x=>s.setR i.a x
 else if i.op=17 then(if ((s.reg i.b+i.c)%4294967296).toNat<s.mem.length then {s with mem:=s.mem.set ((s.reg i.b+i.c)%4294967296).toNat (s.reg i.a),pc:=s.pc+1,own:=true} else s.stop 8)
 else if i.op=18 then s.goto i.c
 else if i.op=19 then s.goto (if s.reg i.a=0 then i.c else s.pc+1)
 else if i.op=20 then s.goto (if s.reg i.a≠0 then i.c else s.pc+1)
 else if i.op=21 then {s with rg:=s.rg.set i.a.toNat ((s.pc+1)%4294967296),pc:=i.c}
 else if i.op=22 then s.goto (s.reg i.a)
 else if i.op=23 then(inp s.rd).elim (s.setR i.a 256) fun b=>{s with rg:=s.rg.set i.a.toNat b,rd:=s.rd+1,pc:=s.pc+1}
 else if i.op=24 then(if 65536≤s.out.length then s.stop 4 else {s with out:=s.out++[s.reg i.a%256],pc:=s.pc+1})
 else if i.op=25 then(if i.c≤s.reg i.a then s.stop 3 else s.goto (s.pc+1))
 else if i.op=26 then s.stop 1
 else if i.op=27 then code[((s.reg i.b+i.c)%4294967296).toNat]?.elim (s.stop 8) fun x=>s.setR i.a x
 else(apP i.op (s.reg i.b) (s.reg i.c)).elim (s.stop 2) fun x=>s.setR i.a x
def stepP (code:List Int)(inp:Inp)(s:PS):PS:=
 if s.pc<0 then s.stop 7 else
 code[s.pc.toNat]?.elim (s.stop 7) fun w=>if rightI (insW w) then doP code inp {s with steps:=s.steps+1} (insW w) else {s with steps:=s.steps+1,en:=6}
def runP (code:List Int)(inp:Inp):Nat→PS→PS
 |0,s=>s
 |n+1,s=>if s.en=0 then runP code inp n (stepP code inp s) else s
structure Ok (inpN:Nat)(s:PS):Prop where
 pc0:0≤s.pc
 pc1:s.pc≤4294967296
 rl:s.rg.length=16
 ru: ∀x∈s.rg,U x
 mu: ∀x∈s.mem,U x
 rd:s.rd≤inpN
 ou: ∀x∈s.out,0≤x∧x<256
 ol:s.out.length≤65536
 en0:0≤s.en
 en1:s.en≤8
theorem Ok.reg {n:Nat}{s:PS}(h:Ok n s){a:Int}(h0:0≤a)(h1:a≤15):s.rg[a.toNat]?=some (s.reg a)∧U (s.reg a):=by
 have hl:a.toNat<s.rg.length:=by rw[h.rl];omega
 have e:s.reg a=s.rg[a.toNat]:=by simp[PS.reg,List.getD_eq_getElem?_getD,hl]
 rw[e]
 exact⟨List.getElem?_eq_getElem hl,h.ru _ (List.getElem_mem hl)⟩
theorem mem_set {l:List Int}{P:Int→Prop}(h: ∀x∈l,P x){i:Nat}{v:Int}(hv:P v): ∀x∈l.set i v,P x:=by
 intro x hx
 rcases List.mem_or_eq_of_mem_set hx with h1|h1
 ·exact h x h1
 ·rw[h1];exact hv
theorem Ok.setR {n:Nat}{s:PS}(h:Ok n s)(hp:s.pc+1≤4294967296){x:Int}(hx:U x)(a:Int):Ok n (s.setR a x):=
 {pc0:=by show 0≤s.pc+1;have:=h.pc0;omega
  pc1:=hp
  rl:=by show(s.rg.set _ _).length=16;rw[List.length_set];exact h.rl
  ru:=mem_set h.ru hx
  mu:=h.mu,rd:=h.rd,ou:=h.ou,ol:=h.ol,en0:=h.en0,en1:=h.en1}
theorem Ok.goto {n:Nat}{s:PS}(h:Ok n s){p:Int}(h0:0≤p)(h1:p≤4294967296):Ok n (s.goto p):=
 {pc0:=h0,pc1:=h1,rl:=h.rl,ru:=h.ru,mu:=h.mu,rd:=h.rd,ou:=h.ou,ol:=h.ol,en0:=h.en0,en1:=h.en1}
theorem Ok.stop {n:Nat}{s:PS}(h:Ok n s){e:Int}(h0:0≤e)(h1:e≤8):Ok n (s.stop e):=
 {pc0:=h.pc0,pc1:=h.pc1,rl:=h.rl,ru:=h.ru,mu:=h.mu,rd:=h.rd,ou:=h.ou,ol:=h.ol,en0:=h0,en1:=h1}
theorem U_bits (x:BitVec 32):U (x.toNat:Int):=⟨by omega,by have:=x.isLt;omega⟩
theorem ite_ind {α:Type}{p:α→Prop}{c:Prop}[Decidable c]{a b:α}(h1:c→p a)(h2: ¬c→p b):p (if c then a else b):=by
 by_cases h:c
 ·rw[if_pos h];exact h1 h
 ·rw[if_neg h];exact h2 h
theorem elim_ind {α β:Type}{p:α→Prop}{o:Option β}{b:α}{f:β→α}(h1:o=none→p b)(h2: ∀x,o=some x→p (f x)):p (o.elim b f):=by
 cases o with
 |none=>exact h1 rfl
 |some x=>exact h2 x rfl
theorem apP_U {op a b:Int}(ha:U a)(hb:U b): ∀{x:Int},apP op a b=some x→U x:=by
 have hm: ∀n:Int,U (n%4294967296):=U.mod
 have one:U (if a<b then 1 else 0):=by by_cases h:a<b<;>simp[h]<;>exact⟨by decide,by decide⟩
 have one':U (if a=b then 1 else 0):=by by_cases h:a=b<;>simp[h]<;>exact⟨by decide,by decide⟩
 have so: ∀{v:Int},U v→ ∀{x:Int},some v=some x→U x:=fun hv x h=>by cases h;exact hv
 have z:U 0:=⟨by decide,by decide⟩
 have J: ∀{c:Prop} [Decidable c] {a b:Option Int},(c→ ∀{x:Int},a=some x→U x)→(¬c→ ∀{x:Int},b=some x→U x)→ ∀{x:Int},(if c then a else b)=some x→U x:=by
  intro c _ a b h1 h2 x h
  by_cases hc:c
  ·rw[if_pos hc] at h;exact h1 hc h
  ·rw[if_neg hc] at h;exact h2 hc h
 have V: ∀{c:Prop} [Decidable c] {a b:Int},(c→U a)→(¬c→U b)→U (if c then a else b):=fun h1 h2=>ite_ind (p:=U) h1 h2
 have no: ∀{x:Int},(none:Option Int)=some x→U x:=fun h=>by cases h
 intro x
 unfold apP
 refine J (fun _=>so (hm _)) fun _=>J (fun _=>so (hm _)) fun _=>J (fun _=>so (hm _)) fun _=>?_
 refine J (fun _=>J (fun _=>no) fun _=>so ⟨Int.ediv_nonneg ha.1 hb.1,Int.lt_of_le_of_lt (Int.ediv_le_self _ ha.1) ha.2⟩) fun _=>?_
 refine J (fun _=>J (fun _=>no) fun h0=>so ⟨Int.emod_nonneg _ h0,Int.lt_trans (Int.emod_lt_of_pos _ (by have:=hb.1;omega)) hb.2⟩) fun _=>?_
 refine J (fun _=>so (U_bits _)) fun _=>J (fun _=>so (U_bits _)) fun _=>J (fun _=>so (U_bits _)) fun _=>?_
 refine J (fun _=>so (V (fun _=>z) fun _=>hm _)) fun _=>?_
 refine J (fun _=>so (V (fun _=>z) fun _=>⟨Int.ediv_nonneg ha.1 (Int.le_of_lt (Int.pow_pos (by decide))),Int.lt_of_le_of_lt (Int.ediv_le_self _ ha.1) ha.2⟩)) fun _=>?_
 exact J (fun _=>so one) fun _=>so one'
theorem wi_le {h:Bool}{x m:Int}(hw:wi h x m=true)(hm:0≤m):0≤x∧x≤m:=by
 unfold wi at hw
 cases h
 ·simp at hw;omega
 ·simpa using hw
theorem right_bounds {i:Ins}(h:rightI i=true):(1≤i.op∧i.op≤27)∧(0≤i.a∧i.a≤15)∧(0≤i.b∧i.b≤15)∧(0≤i.c∧i.c≤65535)∧(4≤i.op→i.op≤15→i.c≤15):=by
 unfold rightI at h
 simp only[Bool.and_eq_true,decide_eq_true_eq] at h
 obtain⟨⟨⟨⟨h1,h2⟩,h3⟩,h4⟩,h5⟩:=h
 have h6:=wi_le h5 (by split<;>decide)
 refine⟨⟨h1,h2⟩,wi_le h3 (by decide),wi_le h4 (by decide),⟨h6.1,Int.le_trans h6.2 (by split<;>decide)⟩,fun h7 h8=>?_⟩
 have e:kC i.op=2:=by unfold kC;rw[if_pos ⟨h7,h8⟩]
 rw[e,if_pos rfl] at h6
 exact h6.2
theorem Ok.outR {n:Nat}{s:PS}(h:Ok n s)(hp:s.pc+1≤4294967296){x:Int}(hx:0≤x∧x<256)(hl: ¬65536≤s.out.length):Ok n {s with out:=s.out++[x],pc:=s.pc+1}:=
 {pc0:=by show 0≤s.pc+1;have:=h.pc0;omega
  pc1:=hp,rl:=h.rl,ru:=h.ru,mu:=h.mu,rd:=h.rd
  ou:=fun y hy=>by
   rcases List.mem_append.1 hy with hy|hy
   ·exact h.ou y hy
   ·rw[List.mem_singleton.1 hy];exact hx
  ol:=by show(s.out++[x]).length≤65536;simp;omega
  en0:=h.en0,en1:=h.en1}
theorem doP_ok {n:Nat}{code:List Int}{inp:Inp}{s:PS}{i:Ins}(h:Ok n s)(hc: ∀x∈code,U x)(hi: ∀k b,inp k=some b→k<n∧0≤b∧b<256)(hr:rightI i=true)(hp:s.pc+1≤4294967296):Ok n (doP code inp s i):=by
 obtain⟨ho,ha,hb,hcc,hc2⟩:=right_bounds hr
 have ra:=(h.reg ha.1 ha.2).2
 have rb:=(h.reg hb.1 hb.2).2
 have hp0:=h.pc0
 have uc:U i.c:=⟨hcc.1,by omega⟩
 have I: ∀{c:Prop} [Decidable c] {a b:PS},(c→Ok n a)→(¬c→Ok n b)→Ok n (if c then a else b):=fun h1 h2=>ite_ind (p:=Ok n) h1 h2
 have st: ∀e:Int,0≤e→e≤8→Ok n (s.stop e):=fun e h1 h2=>h.stop h1 h2
 unfold doP
 refine I (fun _=>h.setR hp uc _) fun _=>?_
 refine I (fun _=>h.setR hp (by unfold U at*;omega) _) fun _=>?_
 refine I (fun _=>h.setR hp rb _) fun _=>?_
 refine I (fun _=>elim_ind (p:=Ok n) (fun _=>st 8 (by decide) (by decide)) fun x hx=>h.setR hp (h.mu x (List.mem_of_getElem? hx)) _) fun _=>?_
 refine I (fun _=>I (fun _=>?_) fun _=>st 8 (by decide) (by decide)) fun _=>?_
 ·exact {pc0:=(by show 0≤s.pc+1;omega),pc1:=hp,rl:=h.rl,ru:=h.ru,mu:=mem_set h.mu ra,rd:=h.rd,ou:=h.ou,ol:=h.ol,en0:=h.en0,en1:=h.en1}
 refine I (fun _=>h.goto hcc.1 (by omega)) fun _=>?_
 refine I (fun _=>h.goto (by split<;>omega) (by split<;>omega)) fun _=>?_
 refine I (fun _=>h.goto (by split<;>omega) (by split<;>omega)) fun _=>?_
 refine I (fun _=>?_) fun _=>?_
 ·exact {pc0:=hcc.1,pc1:=(by show i.c≤_;omega),rl:=(by show(s.rg.set _ _).length=16;rw[List.length_set];exact h.rl),ru:=mem_set h.ru (U.mod _),mu:=h.mu,rd:=h.rd,ou:=h.ou,ol:=h.ol,en0:=h.en0,en1:=h.en1}
 refine I (fun _=>by unfold U at ra;exact h.goto ra.1 (by omega)) fun _=>?_
 refine I (fun _=>elim_ind (p:=Ok n) (fun _=>h.setR hp ⟨by decide,by decide⟩ _) fun b hb'=>?_) fun _=>?_
 ·obtain⟨h1,h2,h3⟩:=hi _ _ hb'
  exact {pc0:=(by show 0≤s.pc+1;omega),pc1:=hp,rl:=(by show(s.rg.set _ _).length=16;rw[List.length_set];exact h.rl),ru:=mem_set h.ru ⟨h2,by omega⟩,mu:=h.mu,rd:=h1,ou:=h.ou,ol:=h.ol,en0:=h.en0,en1:=h.en1}
 refine I (fun _=>I (fun _=>st 4 (by decide) (by decide)) fun hl=>h.outR hp ⟨by omega,by omega⟩ hl) fun _=>?_
 refine I (fun _=>I (fun _=>st 3 (by decide) (by decide)) fun _=>h.goto (by omega) hp) fun _=>?_
 refine I (fun _=>st 1 (by decide) (by decide)) fun _=>?_
 refine I (fun _=>elim_ind (p:=Ok n) (fun _=>st 8 (by decide) (by decide)) fun x hx=>h.setR hp (hc x (List.mem_of_getElem? hx)) _) fun _=>?_
 refine elim_ind (p:=Ok n) (fun _=>st 2 (by decide) (by decide)) fun x hx=>?_
 have h4:4≤i.op∧i.op≤15:=by omega
 exact h.setR hp (apP_U rb (h.reg hcc.1 (hc2 h4.1 h4.2)).2 hx) _
theorem stepP_ok {n:Nat}{code:List Int}{inp:Inp}{s:PS}(h:Ok n s)(hl:code.length≤4294967295)(hc: ∀x∈code,U x)(hi: ∀k b,inp k=some b→k<n∧0≤b∧b<256):Ok n (stepP code inp s):=by
 have h0:=h.pc0
 have ok1: ∀e:Int,0≤e→e≤8→Ok n {s with steps:=s.steps+1,en:=e}:=fun e h1 h2=>{pc0:=h.pc0,pc1:=h.pc1,rl:=h.rl,ru:=h.ru,mu:=h.mu,rd:=h.rd,ou:=h.ou,ol:=h.ol,en0:=h1,en1:=h2}
 unfold stepP
 refine ite_ind (p:=Ok n) (fun _=>h.stop (by decide) (by decide)) fun _=>elim_ind (p:=Ok n) (fun _=>h.stop (by decide) (by decide)) fun w hw=>?_
 have hlt:=(List.getElem?_eq_some_iff.1 hw).1
 refine ite_ind (p:=Ok n) (fun hr=>?_) fun _=>ok1 6 (by decide) (by decide)
 exact doP_ok (s:={s with steps:=s.steps+1}) (ok1 s.en h.en0 h.en1) hc hi hr (by show s.pc+1≤_;omega)
theorem runP_ok {n:Nat}{code:List Int}{inp:Inp}(hl:code.length≤4294967295)(hc: ∀x∈code,U x)(hi: ∀k b,inp k=some b→k<n∧0≤b∧b<256): ∀(k:Nat) {s:PS},Ok n s→Ok n (runP code inp k s)
 |0,s,h=>h
 |k+1,s,h=>by
  unfold runP
  split
  ·exact runP_ok hl hc hi k (stepP_ok h hl hc hi)
  ·exact h
theorem doP_steps (code:List Int)(inp:Inp)(s:PS)(i:Ins):(doP code inp s i).steps=s.steps:=by
 have I: ∀{c:Prop} [Decidable c] {a b:PS},a.steps=s.steps→b.steps=s.steps→(if c then a else b).steps=s.steps:=fun h1 h2=>ite_ind (p:=fun t:PS=>t.steps=s.steps) (fun _=>h1) fun _=>h2
 have E: ∀{o:Option Int} {b:PS} {f:Int→PS},b.steps=s.steps→(∀x,(f x).steps=s.steps)→(o.elim b f).steps=s.steps:=fun h1 h2=>elim_ind (p:=fun t:PS=>t.steps=s.steps) (fun _=>h1) fun x _=>h2 x
 unfold doP
 exact I rfl (I rfl (I rfl (I (E rfl fun _=>rfl) (I (I rfl rfl) (I rfl (I rfl (I rfl (I rfl (I rfl (I (E rfl fun _=>rfl) (I (I rfl rfl) (I (I rfl rfl) (I rfl (I (E rfl fun _=>rfl) (E rfl fun _=>rfl)))))))))))))))
theorem stepP_steps (code:List Int)(inp:Inp)(s:PS):(stepP code inp s).steps≤s.steps+1:=by
 unfold stepP
 refine ite_ind (p:=fun t:PS=>t.steps≤s.steps+1) (fun _=>Nat.le_succ _) fun _=>elim_ind (p:=fun t:PS=>t.steps≤s.steps+1) (fun _=>Nat.le_succ _) fun w _=>?_
 refine ite_ind (p:=fun t:PS=>t.steps≤s.steps+1) (fun _=>?_) fun _=>Nat.le_refl _
 rw[doP_steps]
 exact Nat.le_refl _
end
section
open Go
theorem wrap_U {n:Int}(h:U n):IntKind.u32.wrap n=n:=by rw[IntKind.wrap_u32];unfold U at h;omega
theorem ofInt_toNat {n:Int}(h:U n):(BitVec.ofInt 32 n).toNat=n.toNat:=by
 rw[BitVec.toNat_ofInt]
 unfold U at h
 omega
theorem andW_mask {n:Int}(h:U n)(k:Nat)(hk:k≤32):andW n (2^k - 1)=n%2^k:=by
 have hu:U (2^k - 1:Int):=by
  have h1:(2:Nat)^k≤2^32:=Nat.pow_le_pow_right (by decide) hk
  have h2:0<(2:Nat)^k:=Nat.pow_pos (by decide)
  have h3:((2:Nat)^k:Int)=(2:Int)^k:=by norm_cast
  unfold U
  rw[←h3]
  constructor<;>omega
 unfold andW
 rw[BitVec.toNat_and,ofInt_toNat h,ofInt_toNat hu]
 have h2:0<(2:Nat)^k:=Nat.pow_pos (by decide)
 have h3:((2:Nat)^k:Int)=(2:Int)^k:=by norm_cast
 have e:(2^k - 1:Int).toNat=2^k - 1:=by rw[←h3];omega
 rw[e,Nat.and_two_pow_sub_one_eq_mod]
 have hn:(n.toNat:Int)=n:=Int.toNat_of_nonneg h.1
 rw[Int.natCast_emod,hn]
 simp
theorem andW_15 {n:Int}(h:U n):andW n 15=n%16:=andW_mask h 4 (by decide)
theorem andW_65535 {n:Int}(h:U n):andW n 65535=n%65536:=andW_mask h 16 (by decide)
theorem orW_lui {x c:Int}(hx:0≤x∧x<65536)(hc:0≤c∧c<65536):orW x (c*65536)=x+c*65536:=by
 have hu1:U x:=⟨hx.1,by omega⟩
 have hu2:U (c*65536):=⟨by omega,by omega⟩
 unfold orW
 rw[BitVec.toNat_or,ofInt_toNat hu1,ofInt_toNat hu2]
 have e:(c*65536).toNat=2^16*c.toNat:=by omega
 rw[e,Nat.or_comm,←Nat.two_pow_add_eq_or_of_lt (by omega:x.toNat<2^16)]
 omega
/-! ### bit by bit -/
/-! ### shifted,one place at a time -/
end
end Go.Ma
namespace Go.Proofs.YtpedpkegmalgmaaGreatDoor.M
section
open Go Go.Ab Go.Ma
abbrev iv (n:Int):AV:= .sc (.int .i64 n)
abbrev bv (b:Bool):AV:= .sc (.bool b)
abbrev uv (n:Int):AV:= .sc (.int .u32 n)
abbrev rowW (l:List Int):List (List AV):=l.map fun x=>[uv x]
abbrev rowB (l:List Int):List (List AV):=l.map fun x=>[.sc (.int .u8 x)]
def toBytes (l:List Int):List UInt8:=l.map fun x=>UInt8.ofNat x.toNat
theorem bytes_rowB : ∀l:List Int,bytesOfRows (rowB l)=some (toBytes l)
 |[]=>rfl
 |x::l=>by
  show(bytesOfRows (rowB l)).map (UInt8.ofNat x.toNat:: ·)=_
  rw[bytes_rowB l];rfl
def E00 :Cfg:={eq:=fun _=>false,hp:=fun f=>f==154||f==155||f==156||f==192||f==193||f==194||f==248||f==315||f==316||f==317,yl:=fun _=>false}
@[simp] theorem E00_hp (f:Nat):E00.hp f=(f==154||f==155||f==156||f==192||f==193||f==194||f==248||f==315||f==316||f==317):=rfl
@[simp] theorem E00_eq (f:Nat):E00.eq f=false:=rfl
@[simp] theorem E00_yl (f:Nat):E00.yl f=false:=rfl
def E0y (l:Nat):Cfg:={eq:=E00.eq,hp:=E00.hp,yl:=fun l'=>l'==l}
@[simp] theorem E0y_hp (l f:Nat):(E0y l).hp f=(f==154||f==155||f==156||f==192||f==193||f==194||f==248||f==315||f==316||f==317):=rfl
@[simp] theorem E0y_eq (l f:Nat):(E0y l).eq f=false:=rfl
@[simp] theorem E0y_yl (l l':Nat):(E0y l).yl l'=(l'==l):=rfl
@[simp] theorem E00_off :(E00).off=0:=rfl
@[simp] theorem E00_ws :(E00).ws=0:=rfl
@[simp] theorem E00_cl :(E00).cl=false:=rfl
@[simp] theorem E00_frz (f:Nat):(E00).frz f=false:=rfl
@[simp] theorem E00_inl (f:Nat):(E00).inl f=false:=rfl
@[simp] theorem E00_bx (t:Nat):(E00).bx t=false:=rfl
@[simp] theorem E0y_off (l:Nat):(E0y l).off=0:=rfl
@[simp] theorem E0y_ws (l:Nat):(E0y l).ws=0:=rfl
@[simp] theorem E0y_cl (l:Nat):(E0y l).cl=false:=rfl
@[simp] theorem E0y_frz (l:Nat)(f:Nat):(E0y l).frz f=false:=rfl
@[simp] theorem E0y_inl (l:Nat)(f:Nat):(E0y l).inl f=false:=rfl
@[simp] theorem E0y_bx (l:Nat)(t:Nat):(E0y l).bx t=false:=rfl
theorem hpcZ {P:Program}{E:Cfg}{X:Orc}{f k d:Nat}{fn:Func}{c:Code}{args:List AV}{hp:Hp}{rvs:List ResultVar}{z0:AV}{A:Hp→Prop}(hf:P.funcs[f]?=some fn)(hx:X.hpc k d f args hp=none)(hb:fn.body=some c)(hok:bodyOk fn=true)(hl:args.length=fn.params.size+fn.nfree)
  (hrv:fn.results.toList=rvs) (h:W P E (k+1) (lim P E X) c ⟨frame0 args,hp⟩ fun e st=>e.fine=true∧ ∃v hp',(lowerRes P st.fr k d rvs).run st.hp=some (v,hp')∧(v=z0∧A hp')) (hi:E.inl f=false:=by first|rfl|simp) (hz:E.frz f=false:=by first|rfl|simp): ∃hp',(lim P E X).hpc k d f args hp=some (z0,hp')∧A hp':=by
 obtain⟨_,hp',h1,rfl,h2⟩:=lim_hpcW (R:=fun v hp'=>v=z0∧A hp') hf hx hb hok hl hrv h hi hz
 exact⟨hp',h1,h2⟩
theorem Zya {p:Prop}(h:p:=by intro y h0;intros;have e1: ∀k i,y≠⟨k+1,i,0⟩:=fun k i e=>(by subst e;simp at h0);have e2: ∀i,y≠⟨1,i,0⟩:=fun i=>e1 0 i;have e3: ∀i,y≠⟨2,i,0⟩:=fun i=>e1 1 i;have e4: ∀i,y≠⟨3,i,0⟩:=fun i=>e1 2 i;have e5: ∀i,y≠⟨4,i,0⟩:=fun i=>e1 3 i;simp[*]):p:=h
theorem Zyb {p:Prop}(h:p:=by intro y h0 h1;have e1: ∀k i,y≠⟨k+1,i,0⟩:=fun k i e=>(by subst e;simp at h0);have e2: ∀i,y≠⟨1,i,0⟩:=fun i=>e1 0 i;have e3: ∀i,y≠⟨2,i,0⟩:=fun i=>e1 1 i;have e4: ∀i,y≠⟨3,i,0⟩:=fun i=>e1 2 i;have e5: ∀i,y≠⟨4,i,0⟩:=fun i=>e1 3 i;simp[*,f3 _ _ _ y h0 h1]):p:=h
theorem Zyd {p:Prop}(h:p:=by intro y h0 h1 h2;have e1: ∀k i,y≠⟨k+1,i,0⟩:=fun k i e=>(by subst e;simp at h0);have e2: ∀i,y≠⟨1,i,0⟩:=fun i=>e1 0 i;have e3: ∀i,y≠⟨2,i,0⟩:=fun i=>e1 1 i;have e4: ∀i,y≠⟨3,i,0⟩:=fun i=>e1 2 i;have e5: ∀i,y≠⟨4,i,0⟩:=fun i=>e1 3 i;simp[*,f3 _ _ _ y h0 h1 h2]):p:=h
theorem regA {k:Nat}(h:k<16):3+k≤25∧3+k<26:=⟨by omega,by omega⟩
def X00 :Orc:=⟨fun _ _=>none,fun _ _ _ _ _=>none⟩
@[simp] theorem wrap_1 :IntKind.i64.wrap 1=1:=by decide+kernel
@[simp] theorem wrap_2 :IntKind.i64.wrap 2=2:=by decide+kernel
@[simp] theorem wrap_0 :IntKind.i64.wrap 0=0:=by decide+kernel
theorem wrapN {k:Nat}(h:k<9223372036854775807):IntKind.i64.wrap ((k:Int)+1)=(k:Int)+1:=wrap64 (by omega) (by omega)
theorem and_form (x y:Int):andW x y=(((x%4294967296).toNat&&&(y%4294967296).toNat:Nat):Int):=by unfold andW;simp[BitVec.toNat_ofInt]
theorem or_form (x y:Int):orW x y=(((x%4294967296).toNat|||(y%4294967296).toNat:Nat):Int):=by unfold orW;simp[BitVec.toNat_ofInt]
theorem take1 {α:Type}(l:List α)(k:Nat):(l.drop k).take 1=(l[k]?).toList:=by
 rw[List.take_one,List.head?_drop]
def bxP (code:List Int)(inp:ByteArray)(pc:Int)(rg:List Int)(M:AV)(rd steps en:Int)(o:Bool)(go no:Nat):List AV:=
 .sl false 1 (rowW code):: .sc (.string inp)::iv pc::(rg.map uv++[M,iv rd,.sc (.string ⟨#[]⟩),iv steps,iv en,bv o,.own ⟨0,13,26⟩ go no])
section
variable {code:List Int}{inp:ByteArray}{pc:Int}{rg:List Int}{M:AV}{rd steps en:Int}{o:Bool}{go no:Nat}
theorem reg16 (h:rg.length=16): ∃x0 x1 x2 x3 x4 x5 x6 x7 x8 x9 x10 x11 x12 x13 x14 x15,rg=[x0,x1,x2,x3,x4,x5,x6,x7,x8,x9,x10,x11,x12,x13,x14,x15]:=by
 match rg,h with
 |[x0,x1,x2,x3,x4,x5,x6,x7,x8,x9,x10,x11,x12,x13,x14,x15],_=>exact⟨_,_,_,_,_,_,_,_,_,_,_,_,_,_,_,_,rfl⟩
theorem bx_len (h:rg.length=16):(bxP code inp pc rg M rd steps en o go no).length=26:=by simp[bxP,h]
theorem bx_2 :(bxP code inp pc rg M rd steps en o go no)[2]?=some (iv pc):=rfl
theorem bx_19 (h:rg.length=16):(bxP code inp pc rg M rd steps en o go no)[19]?=some M:=by obtain⟨_,_,_,_,_,_,_,_,_,_,_,_,_,_,_,_,rfl⟩:=reg16 h;rfl
theorem bx_20 (h:rg.length=16):(bxP code inp pc rg M rd steps en o go no)[20]?=some (iv rd):=by obtain⟨_,_,_,_,_,_,_,_,_,_,_,_,_,_,_,_,rfl⟩:=reg16 h;rfl
theorem bx_21 (h:rg.length=16):(bxP code inp pc rg M rd steps en o go no)[21]?=some (.sc (.string ⟨#[]⟩)):=by obtain⟨_,_,_,_,_,_,_,_,_,_,_,_,_,_,_,_,rfl⟩:=reg16 h;rfl
theorem bx_22 (h:rg.length=16):(bxP code inp pc rg M rd steps en o go no)[22]?=some (iv steps):=by obtain⟨_,_,_,_,_,_,_,_,_,_,_,_,_,_,_,_,rfl⟩:=reg16 h;rfl
theorem bx_23 (h:rg.length=16):(bxP code inp pc rg M rd steps en o go no)[23]?=some (iv en):=by obtain⟨_,_,_,_,_,_,_,_,_,_,_,_,_,_,_,_,rfl⟩:=reg16 h;rfl
theorem bx_24 (h:rg.length=16):(bxP code inp pc rg M rd steps en o go no)[24]?=some (bv o):=by obtain⟨_,_,_,_,_,_,_,_,_,_,_,_,_,_,_,_,rfl⟩:=reg16 h;rfl
theorem bx_25 (h:rg.length=16):(bxP code inp pc rg M rd steps en o go no)[25]?=some (.own ⟨0,13,26⟩ go no):=by obtain⟨_,_,_,_,_,_,_,_,_,_,_,_,_,_,_,_,rfl⟩:=reg16 h;rfl
theorem bx_reg {a:Nat}(h:rg.length=16)(ha:a<16):(bxP code inp pc rg M rd steps en o go no)[3+a]?=(rg[a]?).map uv:=by
 unfold bxP
 rw[show 3+a=a+1+1+1 from by omega,List.getElem?_cons_succ,List.getElem?_cons_succ,List.getElem?_cons_succ,List.getElem?_append_left (by simpa[h] using ha),List.getElem?_map]
theorem bs_2 (x:Int):(bxP code inp pc rg M rd steps en o go no).set 2 (iv x)=bxP code inp x rg M rd steps en o go no:=rfl
theorem bs_19 (h:rg.length=16)(x:AV):(bxP code inp pc rg M rd steps en o go no).set 19 x=bxP code inp pc rg x rd steps en o go no:=by obtain⟨_,_,_,_,_,_,_,_,_,_,_,_,_,_,_,_,rfl⟩:=reg16 h;rfl
theorem bs_20 (h:rg.length=16)(x:Int):(bxP code inp pc rg M rd steps en o go no).set 20 (iv x)=bxP code inp pc rg M x steps en o go no:=by obtain⟨_,_,_,_,_,_,_,_,_,_,_,_,_,_,_,_,rfl⟩:=reg16 h;rfl
theorem bs_22 (h:rg.length=16)(x:Int):(bxP code inp pc rg M rd steps en o go no).set 22 (iv x)=bxP code inp pc rg M rd x en o go no:=by obtain⟨_,_,_,_,_,_,_,_,_,_,_,_,_,_,_,_,rfl⟩:=reg16 h;rfl
theorem bs_23 (h:rg.length=16)(x:Int):(bxP code inp pc rg M rd steps en o go no).set 23 (iv x)=bxP code inp pc rg M rd steps x o go no:=by obtain⟨_,_,_,_,_,_,_,_,_,_,_,_,_,_,_,_,rfl⟩:=reg16 h;rfl
theorem bs_24 (h:rg.length=16)(x:Bool):(bxP code inp pc rg M rd steps en o go no).set 24 (bv x)=bxP code inp pc rg M rd steps en x go no:=by obtain⟨_,_,_,_,_,_,_,_,_,_,_,_,_,_,_,_,rfl⟩:=reg16 h;rfl
theorem bs_25 (h:rg.length=16)(g n:Nat):(bxP code inp pc rg M rd steps en o go no).set 25 (.own ⟨0,13,26⟩ g n)=bxP code inp pc rg M rd steps en o g n:=by obtain⟨_,_,_,_,_,_,_,_,_,_,_,_,_,_,_,_,rfl⟩:=reg16 h;rfl
theorem bs_reg {a:Nat}(h:rg.length=16)(ha:a<16)(x:Int):(bxP code inp pc rg M rd steps en o go no).set (3+a) (uv x)=bxP code inp pc (rg.set a x) M rd steps en o go no:=by
 unfold bxP
 rw[show 3+a=a+1+1+1 from by omega,List.set_cons_succ,List.set_cons_succ,List.set_cons_succ,List.set_append_left _ _ (by simpa[h] using ha),List.map_set]
end
def memA (o:Bool)(gm:Nat)(mem:List Int):AV:=if o then .own ⟨0,13,20⟩ gm mem.length else .sl false 1 (rowW mem)
structure Mst (code:List Int)(inp:ByteArray)(s:PS)(go gm:Nat)(hp:Hp):Prop where
 bx:hp ⟨0,13,0⟩= .box 1 (bxP code inp s.pc s.rg (memA s.own gm s.mem) s.rd s.steps s.en s.own go s.out.length) false
 out:hp ⟨0,13,26⟩= .arr go 1 5 (rowB s.out) false
 mem:s.own=true→hp ⟨0,13,20⟩= .arr gm 1 22 (rowW s.mem) false
def inpF (s:ByteArray):Inp:=fun k=>(s.data[k]?).map fun b=>(b.toNat:Int)
end
section
open Go Go.Ab Go.Ma
section
variable {P:Program}{E:Cfg}{k:Nat}{call:Orc}{all:Array Oper}{os:List Oper}{fr:Nat→AV}{hp:Hp}{Q:AS→Prop}{d d' j:Nat}{op:Op}{ty:TypeId}{pos:String}{aft:Array Edge}{b:Bool}{fs:List Foot}
end
theorem beq_dec (v w:Int):(v==w)=decide (v=w):=by by_cases h:v=w<;>simp[h]
theorem bne_dec (v w:Int):(v !=w)=decide (v≠w):=by by_cases h:v=w<;>simp[h]
def shOk (n:Nat):Option (List AV)→Bool
 |some [.agg [.sc (.string s),.sc (.bool a),.sc (.bool b),.sc (.int .i64 c)]]=>(decide (s≠⟨#[]⟩)==(decide (1≤n)&&decide (n≤27)))&&(a==hasA n)&&(b==hasB n)&&decide (c=(kC n:Int))
 |_=>false
theorem shape_all :(List.range 256).all (fun n=>shOk n ((evCall Tryz.prog E00 X00 300).dat 275 [iv n]))=true:=by kernel_rfl
theorem m176 (n:Nat)(h:n<256): ∃s,(lim Tryz.prog E00 X00).dat 275 [iv n]=some [.agg [.sc (.string s),bv (hasA n),bv (hasB n),iv (kC n)]]∧decide (s=⟨#[]⟩)= !(decide (1≤n)&&decide (n≤27)):=by
 have h1:=List.all_eq_true.1 shape_all n (List.mem_range.2 h)
 generalize hr:(evCall Tryz.prog E00 X00 300).dat 275 [iv n]=r at h1
 unfold shOk at h1
 split at h1
 ·rename_i s a b c
  simp only[Bool.and_eq_true,beq_iff_eq,decide_eq_true_eq] at h1
  obtain⟨⟨⟨h2,h3⟩,h4⟩,h5⟩:=h1
  subst h3 h4 h5
  refine⟨s,lim_dat.2 ⟨300,hr⟩,?_⟩
  rw[←h2]
  by_cases e:s=⟨#[]⟩<;>simp[e]
 ·cases h1
theorem m177 (v m:Int)(n:Bool):(lim Tryz.prog E00 X00).dat 276 [iv v,iv m,bv n]=some [bv (wi n v m)]:=by
 refine fnW Tryz.func276 rfl rfl bodyOk_276 rfl rtys_276 rfl ?_
 unfold wi
 cases n
 all_goals
   repeat' (first|(refine ZN ?_)|(refine Z2 ?_ ?_)|(intro h h';try simp[*,-h] at h'))
 all_goals (try simp[*,beq_dec])
theorem m175 (n:Nat)(h:n<256):(lim Tryz.prog E00 X00).dat 274 [iv n]=some [bv (decide (1≤n)&&decide (n≤27))]:=by
 refine fnW Tryz.func274 rfl rfl bodyOk_274 rfl rtys_274 rfl ?_
 obtain⟨s,hs,hq⟩:=m176 n h
 generalize (decide (1≤n)&&decide (n≤27))=kn at*
 repeat' (first|(refine ZN ?_)|(refine Z2 ?_ ?_)|(intro h h';try simp[*,-h] at h'))
 all_goals simp[hq]
theorem rightI_eq (n a b c:Nat):rightI ⟨n,a,b,c⟩=((decide (1≤n)&&decide (n≤27))&&wi (hasA n) a 15&&wi (hasB n) b 15&&wi (decide ((kC n:Int)≠0)) c (if (kC n:Int)=2 then 15 else 65535)):=by
 have e1:decide (1≤(n:Int))=decide (1≤n):=decide_eq_decide.2 (by omega)
 have e2:decide ((n:Int)≤27)=decide (n≤27):=decide_eq_decide.2 (by omega)
 have e3:decide (kC (n:Int)≠0)=decide ((kC n:Int)≠0):=decide_eq_decide.2 (by omega)
 have e4:(if kC (n:Int)=2 then(15:Int) else 65535)=if (kC n:Int)=2 then 15 else 65535:=by
  by_cases h:kC (n:Int)=2
  ·rw[if_pos h,if_pos (by omega)]
  ·rw[if_neg h,if_neg (by omega)]
 unfold rightI
 simp only[e1,e2,e3,e4]
theorem m132 (n a b c:Nat)(h:n<256):(lim Tryz.prog E00 X00).dat 201 [.agg [iv n,iv a,iv b,iv c]]=some [bv (rightI ⟨n,a,b,c⟩)]:=by
 refine fnW Tryz.func201 rfl rfl bodyOk_201 rfl rtys_201 rfl ?_
 obtain⟨s,hs,hq⟩:=m176 n h
 have h175:=m175 n h
 have ha:=m177 a 15 (hasA n)
 have hb:=m177 b 15 (hasB n)
 have hc1:=m177 c 65535 (decide ((kC n:Int)≠0))
 have hc2:=m177 c 15 (decide ((kC n:Int)≠0))
 rw[rightI_eq]
 have hkb:=bne_dec (kC n:Int) 0
 generalize (decide (1≤n)&&decide (n≤27))=kn at*
 generalize hasA n=xa at*
 generalize hasB n=xb at*
 generalize (kC n:Int)=kc at*
 by_cases h2:kc=2
 all_goals
  generalize decide (kc≠0)=k0 at*
  simp only[h2,if_true,if_false]
  generalize wi xa a 15=wa at*
  generalize wi xb b 15=wb at*
  generalize wi k0 c 15=wc1 at*
  generalize wi k0 c 65535=wc2 at*
  try (subst h2;obtain rfl:k0=true:=by simpa using hkb.symm)
  repeat' (first|(refine ZN ?_)|(refine Z2 ?_ ?_)|(intro h h';try simp[*,-h] at h'))
 all_goals simp[*]
def decP (w:Int):List AV:=if rightI (insW w) then[iv (insW w).op,iv (insW w).a,iv (insW w).b,iv (insW w).c] else[iv 0,iv 0,iv 0,iv 0]
theorem U_and {x:Int}(h:Ma.U x):IntKind.u32.wrap (andW x 15)=x%16∧IntKind.u32.wrap (andW x 65535)=x%65536:=by
 rw[andW_15 h,andW_65535 h]
 unfold Ma.U at h
 exact⟨by rw[IntKind.wrap_u32];omega,by rw[IntKind.wrap_u32];omega⟩
end
section
open Go Go.Ab Go.Ma
theorem m362 (w:Int)(hU:Ma.U w):(lim Tryz.prog E00 X00).dat 247 [uv w]=some [.agg (decP w),iv (if rightI (insW w) then 0 else 7)]:=by
 refine fnW Tryz.func247 rfl rfl bodyOk_247 rfl rtys_247 rfl ?_
 obtain⟨n,hn⟩: ∃n:Nat,w/16777216=n∧n<256:=⟨(w/16777216).toNat,by unfold Ma.U at hU;omega,by unfold Ma.U at hU;omega⟩
 obtain⟨a,ha⟩: ∃a:Nat,w/1048576%16=a:=⟨(w/1048576%16).toNat,by omega⟩
 obtain⟨b,hb⟩: ∃b:Nat,w/65536%16=b:=⟨(w/65536%16).toNat,by omega⟩
 obtain⟨c,hc⟩: ∃c:Nat,w%65536=c:=⟨(w%65536).toNat,by omega⟩
 have hins:insW w=⟨n,a,b,c⟩:=by unfold insW;rw[hn.1,ha,hb,hc]
 have h132:=m132 n a b c hn.2
 have d1:w.fdiv (2^min 24 IntKind.u32.bits)=n:=by rw[show(2:Int)^min 24 IntKind.u32.bits=16777216 from rfl,Int.fdiv_eq_ediv_of_nonneg _ (by decide)];exact hn.1
 have d2:w.fdiv (2^min 20 IntKind.u32.bits)=w/1048576:=by rw[show(2:Int)^min 20 IntKind.u32.bits=1048576 from rfl];exact Int.fdiv_eq_ediv_of_nonneg _ (by decide)
 have d3:w.fdiv (2^min 16 IntKind.u32.bits)=w/65536:=by rw[show(2:Int)^min 16 IntKind.u32.bits=65536 from rfl];exact Int.fdiv_eq_ediv_of_nonneg _ (by decide)
 have u2:Ma.U (w/1048576):=by unfold Ma.U at*;omega
 have u3:Ma.U (w/65536):=by unfold Ma.U at*;omega
 have w2:IntKind.u32.wrap (((w/1048576%2^IntKind.u32.bits).toNat&&&15%2^IntKind.u32.bits:Nat):Int)=a:=by have h:=(U_and u2).1;rw[and_form,ha] at h;exact h
 have w3:IntKind.u32.wrap (((w/65536%2^IntKind.u32.bits).toNat&&&15%2^IntKind.u32.bits:Nat):Int)=b:=by have h:=(U_and u3).1;rw[and_form,hb] at h;exact h
 have w4:IntKind.u32.wrap (((w%2^IntKind.u32.bits).toNat&&&65535%2^IntKind.u32.bits:Nat):Int)=c:=by have h:=(U_and hU).2;rw[and_form,hc] at h;exact h
 have i1:IntKind.i64.wrap (n:Int)=n:=wrap64 (by omega) (by omega)
 have i2:IntKind.i64.wrap (a:Int)=a:=wrap64 (by omega) (by omega)
 have i3:IntKind.i64.wrap (b:Int)=b:=wrap64 (by omega) (by omega)
 have i4:IntKind.i64.wrap (c:Int)=c:=wrap64 (by omega) (by omega)
 unfold decP
 rw[hins]
 simp only
 clear hins hU
 generalize rightI ⟨n,a,b,c⟩=r at*
 cases r
 all_goals
  repeat' (first|(refine ZN ?_)|(refine Z2 ?_ ?_)|(intro h h';try simp[*,-h] at h'))
 all_goals rfl
theorem m402_4 (x y:Int):(lim Tryz.prog E00 X00).dat 318 [iv 4,uv x,uv y]=some [uv (IntKind.u32.wrap (x+y)),iv 0]:=lim_dat.2 ⟨100,by kernel_rfl⟩
theorem m402_5 (x y:Int):(lim Tryz.prog E00 X00).dat 318 [iv 5,uv x,uv y]=some [uv (IntKind.u32.wrap (x - y)),iv 0]:=lim_dat.2 ⟨100,by kernel_rfl⟩
theorem m402_6 (x y:Int):(lim Tryz.prog E00 X00).dat 318 [iv 6,uv x,uv y]=some [uv (IntKind.u32.wrap (x*y)),iv 0]:=lim_dat.2 ⟨100,by kernel_rfl⟩
theorem m402_9 (x y:Int):(lim Tryz.prog E00 X00).dat 318 [iv 9,uv x,uv y]=some [uv (IntKind.u32.wrap (andW x y)),iv 0]:=lim_dat.2 ⟨100,by kernel_rfl⟩
theorem m402_10 (x y:Int):(lim Tryz.prog E00 X00).dat 318 [iv 10,uv x,uv y]=some [uv (IntKind.u32.wrap (orW x y)),iv 0]:=lim_dat.2 ⟨100,by kernel_rfl⟩
theorem m402_11 (x y:Int):(lim Tryz.prog E00 X00).dat 318 [iv 11,uv x,uv y]=some [uv (IntKind.u32.wrap (xorW x y)),iv 0]:=lim_dat.2 ⟨100,by kernel_rfl⟩
theorem m414_7 (x y:Int):(lim Tryz.prog E00 X00).dat 345 [iv 7,uv x,uv y]=some [uv (if y=0 then 0 else IntKind.u32.wrap (x.tdiv y)),iv (if y=0 then 14 else 0)]:=by
 refine fnW Tryz.func345 rfl rfl bodyOk_345 rfl rtys_345 rfl ?_
 by_cases h:y=0
 all_goals have hb:=beq_dec y 0
 all_goals simp only[h,if_true,if_false,decide_true,decide_false] at hb⊢
 all_goals
  repeat' (first|(refine ZN ?_)|(refine Z2 ?_ ?_)|(intro h h';try simp[*,-h] at h'))
 all_goals simp[*]
theorem m414_8 (x y:Int):(lim Tryz.prog E00 X00).dat 345 [iv 8,uv x,uv y]=some [uv (if y=0 then 0 else x.tmod y),iv (if y=0 then 14 else 0)]:=by
 refine fnW Tryz.func345 rfl rfl bodyOk_345 rfl rtys_345 rfl ?_
 by_cases h:y=0
 all_goals have hb:=beq_dec y 0
 all_goals simp only[h,if_true,if_false,decide_true,decide_false] at hb⊢
 all_goals
  repeat' (first|(refine ZN ?_)|(refine Z2 ?_ ?_)|(intro h h';try simp[*,-h] at h'))
 all_goals simp[*]
theorem m415_12 (x y:Int)(hy:Ma.U y):(lim Tryz.prog E00 X00).dat 346 [iv 12,uv x,uv y]=some [uv (if 31<y then 0 else IntKind.u32.wrap (x*2^(min y.toNat 32)))]:=by
 refine fnW Tryz.func346 rfl rfl bodyOk_346 rfl rtys_346 rfl ?_
 have hn: ¬y<0:=by have:=hy.1;omega
 by_cases h:31<y
 all_goals simp only[h,if_true,if_false]
 all_goals
  repeat' (first|(refine ZN ?_)|(refine Z2 ?_ ?_)|(intro h h';try simp[*,-h] at h'))
 all_goals rfl
theorem m415_13 (x y:Int)(hy:Ma.U y):(lim Tryz.prog E00 X00).dat 346 [iv 13,uv x,uv y]=some [uv (if 31<y then 0 else x.fdiv (2^(min y.toNat 32)))]:=by
 refine fnW Tryz.func346 rfl rfl bodyOk_346 rfl rtys_346 rfl ?_
 have hn: ¬y<0:=by have:=hy.1;omega
 by_cases h:31<y
 all_goals simp only[h,if_true,if_false]
 all_goals
  repeat' (first|(refine ZN ?_)|(refine Z2 ?_ ?_)|(intro h h';try simp[*,-h] at h'))
 all_goals rfl
theorem m416_14 (x y:Int):(lim Tryz.prog E00 X00).dat 347 [iv 14,uv x,uv y]=some [uv (if x<y then 1 else 0)]:=by
 refine fnW Tryz.func347 rfl rfl bodyOk_347 rfl rtys_347 rfl ?_
 have hb:=beq_dec x y
 by_cases h:x<y
 all_goals simp only[h,if_true,if_false,decide_true,decide_false] at hb⊢
 all_goals
  repeat' (first|(refine ZN ?_)|(refine Z2 ?_ ?_)|(intro h h';try simp[*,-h] at h'))
 all_goals rfl
theorem m416_15 (x y:Int):(lim Tryz.prog E00 X00).dat 347 [iv 15,uv x,uv y]=some [uv (if x=y then 1 else 0)]:=by
 refine fnW Tryz.func347 rfl rfl bodyOk_347 rfl rtys_347 rfl ?_
 have hb:=beq_dec x y
 by_cases h:x=y
 all_goals simp only[h,if_true,if_false,decide_true,decide_false] at hb⊢
 all_goals
  repeat' (first|(refine ZN ?_)|(refine Z2 ?_ ?_)|(intro h h';try simp[*,-h] at h'))
 all_goals rfl
theorem m402_7 (x y:Int):(lim Tryz.prog E00 X00).dat 318 [iv 7,uv x,uv y]=some [uv (if y=0 then 0 else IntKind.u32.wrap (x.tdiv y)),iv (if y=0 then 14 else 0)]:=by
 refine fnW Tryz.func318 rfl rfl bodyOk_318 rfl rtys_318 rfl ?_
 have h414:=m414_7 x y
 generalize (if y=0 then 0 else IntKind.u32.wrap (x.tdiv y))=v1 at*
 generalize (if y=0 then(14:Int) else 0)=v2 at*
 repeat' (first|(refine ZN ?_)|(refine Z2 ?_ ?_)|(intro h h';try simp[*,-h] at h'))
 all_goals rfl
theorem m402_8 (x y:Int):(lim Tryz.prog E00 X00).dat 318 [iv 8,uv x,uv y]=some [uv (if y=0 then 0 else x.tmod y),iv (if y=0 then 14 else 0)]:=by
 refine fnW Tryz.func318 rfl rfl bodyOk_318 rfl rtys_318 rfl ?_
 have h414:=m414_8 x y
 generalize (if y=0 then 0 else x.tmod y)=v1 at*
 generalize (if y=0 then(14:Int) else 0)=v2 at*
 repeat' (first|(refine ZN ?_)|(refine Z2 ?_ ?_)|(intro h h';try simp[*,-h] at h'))
 all_goals rfl
theorem m402_12 (x y:Int)(hy:Ma.U y):(lim Tryz.prog E00 X00).dat 318 [iv 12,uv x,uv y]=some [uv (if 31<y then 0 else IntKind.u32.wrap (x*2^(min y.toNat 32))),iv 0]:=by
 refine fnW Tryz.func318 rfl rfl bodyOk_318 rfl rtys_318 rfl ?_
 have h41:=m415_12 x y hy
 generalize (if 31<y then 0 else IntKind.u32.wrap (x*2^(min y.toNat 32)))=v1 at*
 repeat' (first|(refine ZN ?_)|(refine Z2 ?_ ?_)|(intro h h';try simp[*,-h] at h'))
 all_goals rfl
theorem m402_13 (x y:Int)(hy:Ma.U y):(lim Tryz.prog E00 X00).dat 318 [iv 13,uv x,uv y]=some [uv (if 31<y then 0 else x.fdiv (2^(min y.toNat 32))),iv 0]:=by
 refine fnW Tryz.func318 rfl rfl bodyOk_318 rfl rtys_318 rfl ?_
 have h41:=m415_13 x y hy
 generalize (if 31<y then 0 else x.fdiv (2^(min y.toNat 32)))=v1 at*
 repeat' (first|(refine ZN ?_)|(refine Z2 ?_ ?_)|(intro h h';try simp[*,-h] at h'))
 all_goals rfl
theorem m402_14 (x y:Int):(lim Tryz.prog E00 X00).dat 318 [iv 14,uv x,uv y]=some [uv (if x<y then 1 else 0),iv 0]:=by
 refine fnW Tryz.func318 rfl rfl bodyOk_318 rfl rtys_318 rfl ?_
 have h41:=m416_14 x y
 generalize (if x<y then 1 else 0)=v1 at*
 repeat' (first|(refine ZN ?_)|(refine Z2 ?_ ?_)|(intro h h';try simp[*,-h] at h'))
 all_goals rfl
theorem m402_15 (x y:Int):(lim Tryz.prog E00 X00).dat 318 [iv 15,uv x,uv y]=some [uv (if x=y then 1 else 0),iv 0]:=by
 refine fnW Tryz.func318 rfl rfl bodyOk_318 rfl rtys_318 rfl ?_
 have h41:=m416_15 x y
 generalize (if x=y then 1 else 0)=v1 at*
 repeat' (first|(refine ZN ?_)|(refine Z2 ?_ ?_)|(intro h h';try simp[*,-h] at h'))
 all_goals rfl
theorem m402 (op:Nat)(x y:Int)(h4:4≤op)(h15:op≤15)(hx:Ma.U x)(hy:Ma.U y):(lim Tryz.prog E00 X00).dat 318 [iv op,uv x,uv y]=some [uv ((apP op x y).getD 0),iv (if (apP op x y).isSome then 0 else 14)]:=by
 have x0:=hx.1
 have y0:=hy.1
 have ub: ∀b:BitVec 32,IntKind.u32.wrap (b.toNat:Int)=b.toNat:=fun b=>wrap_U (U_bits b)
 obtain rfl|rfl|rfl|rfl|rfl|rfl|rfl|rfl|rfl|rfl|rfl|rfl:op=4∨op=5∨op=6∨op=7∨op=8∨op=9∨op=10∨op=11∨op=12∨op=13∨op=14∨op=15:=by omega
 ·refine(m402_4 x y).trans ?_;rw[IntKind.wrap_u32];simp[apP]
 ·refine(m402_5 x y).trans ?_;rw[IntKind.wrap_u32];simp[apP]
 ·refine(m402_6 x y).trans ?_;rw[IntKind.wrap_u32];simp[apP]
 ·refine(m402_7 x y).trans ?_
  by_cases h:y=0
  ·simp[apP,h]
  ·have h1:=apP_U (op:=7) hx hy (x:=x/y) (by simp[apP,h])
   rw[Int.tdiv_eq_ediv_of_nonneg x0,wrap_U h1]
   simp[apP,h]
 ·refine(m402_8 x y).trans ?_
  by_cases h:y=0
  ·simp[apP,h]
  ·rw[Int.tmod_eq_emod_of_nonneg x0]
   simp[apP,h]
 ·refine(m402_9 x y).trans ?_;unfold andW;rw[ub];simp[apP,andW]
 ·refine(m402_10 x y).trans ?_;unfold orW;rw[ub];simp[apP,orW]
 ·refine(m402_11 x y).trans ?_;unfold xorW;rw[ub];simp[apP,xorW]
 ·refine(m402_12 x y hy).trans ?_
  by_cases h:31<y
  ·simp[apP,h]
  ·rw[Nat.min_eq_left (by omega),IntKind.wrap_u32];simp[apP,h]
 ·refine(m402_13 x y hy).trans ?_
  by_cases h:31<y
  ·simp[apP,h]
  ·rw[Nat.min_eq_left (by omega),Int.fdiv_eq_ediv_of_nonneg _ (Int.le_of_lt (Int.pow_pos (by decide)))];simp[apP,h]
 ·refine(m402_14 x y).trans ?_;simp[apP]
 ·refine(m402_15 x y).trans ?_;simp[apP]
end
section
open Go Go.Ab Go.Ma
variable {code:List Int}{inp:ByteArray}{pc:Int}{rg:List Int}{M:AV}{rd steps en:Int}{o:Bool}{go no:Nat}
theorem bx_regg {a:Nat}(h:rg.length=16)(ha:a<16)(hl:3+a<(bxP code inp pc rg M rd steps en o go no).length):(bxP code inp pc rg M rd steps en o go no)[3+a]=uv ((rg[a]?).getD 0):=by
 have h1:=bx_reg (code:=code) (inp:=inp) (pc:=pc) (M:=M) (rd:=rd) (steps:=steps) (en:=en) (o:=o) (go:=go) (no:=no) h ha
 rw[List.getElem?_eq_getElem hl] at h1
 rw[List.getElem?_eq_getElem (by omega)] at h1⊢
 simpa using h1
theorem bg_2 (h:rg.length=16)(hl:2<(bxP code inp pc rg M rd steps en o go no).length):(bxP code inp pc rg M rd steps en o go no)[2]=iv pc:=by
 have h1:(bxP code inp pc rg M rd steps en o go no)[2]?=some (iv pc):=bx_2
 rw[List.getElem?_eq_getElem hl] at h1
 exact Option.some.inj h1
theorem bg_19 (h:rg.length=16)(hl:19<(bxP code inp pc rg M rd steps en o go no).length):(bxP code inp pc rg M rd steps en o go no)[19]=M:=by
 have h1:(bxP code inp pc rg M rd steps en o go no)[19]?=some (M):=bx_19 h
 rw[List.getElem?_eq_getElem hl] at h1
 exact Option.some.inj h1
theorem bg_20 (h:rg.length=16)(hl:20<(bxP code inp pc rg M rd steps en o go no).length):(bxP code inp pc rg M rd steps en o go no)[20]=iv rd:=by
 have h1:(bxP code inp pc rg M rd steps en o go no)[20]?=some (iv rd):=bx_20 h
 rw[List.getElem?_eq_getElem hl] at h1
 exact Option.some.inj h1
theorem bg_21 (h:rg.length=16)(hl:21<(bxP code inp pc rg M rd steps en o go no).length):(bxP code inp pc rg M rd steps en o go no)[21]= .sc (.string ⟨#[]⟩):=by
 have h1:(bxP code inp pc rg M rd steps en o go no)[21]?=some (.sc (.string ⟨#[]⟩)):=bx_21 h
 rw[List.getElem?_eq_getElem hl] at h1
 exact Option.some.inj h1
theorem bg_22 (h:rg.length=16)(hl:22<(bxP code inp pc rg M rd steps en o go no).length):(bxP code inp pc rg M rd steps en o go no)[22]=iv steps:=by
 have h1:(bxP code inp pc rg M rd steps en o go no)[22]?=some (iv steps):=bx_22 h
 rw[List.getElem?_eq_getElem hl] at h1
 exact Option.some.inj h1
theorem bg_23 (h:rg.length=16)(hl:23<(bxP code inp pc rg M rd steps en o go no).length):(bxP code inp pc rg M rd steps en o go no)[23]=iv en:=by
 have h1:(bxP code inp pc rg M rd steps en o go no)[23]?=some (iv en):=bx_23 h
 rw[List.getElem?_eq_getElem hl] at h1
 exact Option.some.inj h1
theorem bg_24 (h:rg.length=16)(hl:24<(bxP code inp pc rg M rd steps en o go no).length):(bxP code inp pc rg M rd steps en o go no)[24]=bv o:=by
 have h1:(bxP code inp pc rg M rd steps en o go no)[24]?=some (bv o):=bx_24 h
 rw[List.getElem?_eq_getElem hl] at h1
 exact Option.some.inj h1
theorem bg_25 (h:rg.length=16)(hl:25<(bxP code inp pc rg M rd steps en o go no).length):(bxP code inp pc rg M rd steps en o go no)[25]= .own ⟨0,13,26⟩ go no:=by
 have h1:(bxP code inp pc rg M rd steps en o go no)[25]?=some (.own ⟨0,13,26⟩ go no):=bx_25 h
 rw[List.getElem?_eq_getElem hl] at h1
 exact Option.some.inj h1
attribute [-simp] Prog.bind getCs putCs
attribute [local simp ↓] run_bind
attribute [local simp ↓] runF_bind
attribute [local simp] run_getCsN runF_getCsN facetsC putCs_one run_putCsN
attribute [local simp] take1 bx_len bx_2 bx_19 bx_20 bx_21 bx_22 bx_23 bx_24 bx_25 bx_reg bs_2 bs_19 bs_20 bs_22 bs_23 bs_24 bs_25 bs_reg bx_regg bg_2 bg_19 bg_20 bg_21 bg_22 bg_23 bg_24 bg_25
theorem getV {l:List Int}{n:Nat}{x:Int}(h:l[n]?=some x): ∀h',l[n]'h'=x:=fun h'=>by
 rw[List.getElem?_eq_getElem h'] at h
 exact Option.some.inj h
theorem skol {C:Hp→Prop}{P:Nat→Hp→Hp→Prop}(h: ∀d hp,C hp→ ∃hp',P d hp hp'): ∃F:Nat→Hp→Hp,∀d hp,C hp→P d hp (F d hp):=by
 classical
 refine⟨fun d hp=>if c:C hp then Classical.choose (h d hp c) else hp,fun d hp c=>?_⟩
 simp only[dif_pos c]
 exact Classical.choose_spec (h d hp c)
theorem m399_18 (na nb nc:Nat)(hpc0:0≤pc)(hpc1:pc≤4294967296)(hrl:rg.length=16)(d:Nat)(hp1:Hp)(hx:hp1 ⟨0,13,0⟩= .box 1 (bxP code inp pc rg M rd steps en o go no) false):
  ∃hp',(lim Tryz.prog E00 X00).hpc 3 d 315 [.ptr ⟨0,13,0⟩ 1 0,.agg [iv 18,iv na,iv nb,iv nc]] hp1=some (.tup [],hp')∧hp' ⟨0,13,0⟩= .box 1 (bxP code inp (nc:Int) rg M rd steps en o go no) false∧ ∀y:Nm,y.d=0→y≠⟨0,13,0⟩→hp' y=hp1 y:=by
 refine hpcZ Tryz.func315 rfl rfl bodyOk_315 rfl rfl ?_
 have hw:IntKind.i64.wrap (pc+1)=pc+1:=wrap64 (by omega) (by omega)
 repeat' (first|(refine ZN ?_)|(refine Z2 ?_ ?_)|(intro h h';try simp[*,-h] at h'))
 all_goals exact⟨by simp,_,_,rfl,rfl,by simp[*],Zya⟩
theorem m399_19 (na nb nc:Nat)(xa:Int)(hpc0:0≤pc)(hpc1:pc≤4294967296)(hrl:rg.length=16)(d:Nat)(hp1:Hp)(hx:hp1 ⟨0,13,0⟩= .box 1 (bxP code inp pc rg M rd steps en o go no) false)(ha:na<16)(hga:rg[na]?=some xa):
  ∃hp',(lim Tryz.prog E00 X00).hpc 3 d 315 [.ptr ⟨0,13,0⟩ 1 0,.agg [iv 19,iv na,iv nb,iv nc]] hp1=some (.tup [],hp')∧hp' ⟨0,13,0⟩= .box 1 (bxP code inp (if xa=0 then(nc:Int) else pc+1) rg M rd steps en o go no) false∧ ∀y:Nm,y.d=0→y≠⟨0,13,0⟩→hp' y=hp1 y:=by
 refine hpcZ Tryz.func315 rfl rfl bodyOk_315 rfl rfl ?_
 have hA:=regA ha
 have hga':=getV hga
 have hw:IntKind.i64.wrap (pc+1)=pc+1:=wrap64 (by omega) (by omega)
 have hb:=beq_dec xa 0
 by_cases h0:xa=0
 all_goals simp only[h0,if_true,if_false,decide_true,decide_false] at hb⊢
 all_goals (try subst h0)
 all_goals
 repeat' (first|(refine ZN ?_)|(refine Z2 ?_ ?_)|(intro h h';try simp[*,-h] at h'))
 all_goals exact⟨by simp,_,_,rfl,rfl,by simp[*],Zya⟩
theorem m399_20 (na nb nc:Nat)(xa:Int)(hpc0:0≤pc)(hpc1:pc≤4294967296)(hrl:rg.length=16)(d:Nat)(hp1:Hp)(hx:hp1 ⟨0,13,0⟩= .box 1 (bxP code inp pc rg M rd steps en o go no) false)(ha:na<16)(hga:rg[na]?=some xa):
  ∃hp',(lim Tryz.prog E00 X00).hpc 3 d 315 [.ptr ⟨0,13,0⟩ 1 0,.agg [iv 20,iv na,iv nb,iv nc]] hp1=some (.tup [],hp')∧hp' ⟨0,13,0⟩= .box 1 (bxP code inp (if xa≠0 then(nc:Int) else pc+1) rg M rd steps en o go no) false∧ ∀y:Nm,y.d=0→y≠⟨0,13,0⟩→hp' y=hp1 y:=by
 refine hpcZ Tryz.func315 rfl rfl bodyOk_315 rfl rfl ?_
 have hA:=regA ha
 have hga':=getV hga
 have hw:IntKind.i64.wrap (pc+1)=pc+1:=wrap64 (by omega) (by omega)
 have hb:=bne_dec xa 0
 by_cases h0:xa=0
 all_goals simp only[ne_eq,h0,not_true,not_false_iff,if_true,if_false,decide_true,decide_false] at hb⊢
 all_goals (try subst h0)
 all_goals
 repeat' (first|(refine ZN ?_)|(refine Z2 ?_ ?_)|(intro h h';try simp[*,-h] at h'))
 all_goals exact⟨by simp,_,_,rfl,rfl,by simp[*],Zya⟩
theorem m399_21 (na nb nc:Nat)(hpc0:0≤pc)(hpc1:pc≤4294967296)(hrl:rg.length=16)(d:Nat)(hp1:Hp)(hx:hp1 ⟨0,13,0⟩= .box 1 (bxP code inp pc rg M rd steps en o go no) false)(ha:na<16):
  ∃hp',(lim Tryz.prog E00 X00).hpc 3 d 315 [.ptr ⟨0,13,0⟩ 1 0,.agg [iv 21,iv na,iv nb,iv nc]] hp1=some (.tup [],hp')∧hp' ⟨0,13,0⟩= .box 1 (bxP code inp (nc:Int) (rg.set na ((pc+1)%4294967296)) M rd steps en o go no) false∧ ∀y:Nm,y.d=0→y≠⟨0,13,0⟩→hp' y=hp1 y:=by
 refine hpcZ Tryz.func315 rfl rfl bodyOk_315 rfl rfl ?_
 have hA:=regA ha
 have hw:IntKind.i64.wrap (pc+1)=pc+1:=wrap64 (by omega) (by omega)
 have hw2:IntKind.u32.wrap (pc+1)=(pc+1)%4294967296:=IntKind.wrap_u32 _
 repeat' (first|(refine ZN ?_)|(refine Z2 ?_ ?_)|(intro h h';try simp[*,-h] at h'))
 all_goals exact⟨by simp,_,_,rfl,rfl,by simp[*],Zya⟩
theorem m399_22 (na nb nc:Nat)(xa:Int)(hxa:Ma.U xa)(hpc0:0≤pc)(hpc1:pc≤4294967296)(hrl:rg.length=16)(d:Nat)(hp1:Hp)(hx:hp1 ⟨0,13,0⟩= .box 1 (bxP code inp pc rg M rd steps en o go no) false)(ha:na<16)(hga:rg[na]?=some xa):
  ∃hp',(lim Tryz.prog E00 X00).hpc 3 d 315 [.ptr ⟨0,13,0⟩ 1 0,.agg [iv 22,iv na,iv nb,iv nc]] hp1=some (.tup [],hp')∧hp' ⟨0,13,0⟩= .box 1 (bxP code inp xa rg M rd steps en o go no) false∧ ∀y:Nm,y.d=0→y≠⟨0,13,0⟩→hp' y=hp1 y:=by
 refine hpcZ Tryz.func315 rfl rfl bodyOk_315 rfl rfl ?_
 have hA:=regA ha
 have hga':=getV hga
 have hw:IntKind.i64.wrap (pc+1)=pc+1:=wrap64 (by omega) (by omega)
 have hw2:IntKind.i64.wrap xa=xa:=by unfold Ma.U at hxa;exact wrap64 (by omega) (by omega)
 clear hxa
 repeat' (first|(refine ZN ?_)|(refine Z2 ?_ ?_)|(intro h h';try simp[*,-h] at h'))
 all_goals exact⟨by simp,_,_,rfl,rfl,by simp[*],Zya⟩
end
end Go.Proofs.YtpedpkegmalgmaaGreatDoor.M
